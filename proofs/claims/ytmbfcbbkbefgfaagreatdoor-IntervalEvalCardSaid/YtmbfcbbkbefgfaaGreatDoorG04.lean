/- A part. -/
import Derived.Test.YtmbfcbbkbefgfaaGreatDoorG03
set_option linter.all false
open _root_.Array renaming getElem?_push->aK
open Bool renaming and_eq_true->aE
open List renaming all_eq_true->aJ,drop_length_add_append->aM,getD->aO
open Nat renaming eq_of_beq_eq_true->aG,beq->aI
open _root_.Go.Result renaming andThen_ok->aD
open _root_.Go renaming Value->aC,World->aF,Program->aN
open _root_.Go.Proofs.YtmbfcbbkbefgfaaGreatDoor renaming Heap->aH,Good->aL
namespace Go.Proofs.YtmbfcbbkbefgfaaGreatDoor
open Go
inductive Ex where
 | normal
 | exit (id:Nat)
 | ret
structure Ann where
 slots:List Nat
 owns:List (Nat × Nat)
 zs:List aC
 lim:Lim
structure FnAnn where
 loops:List (Nat × Ann):=[]
 cuts:List (Nat × Ann):=[]
 orders:List (Nat × List Nat × List (List Nat)):=[]
 rounds:List (Nat × List aC):=[]
 alts:List (Nat × List (Nat × List Nat)):=[]
def an0:FnAnn:=⟨[],[],[],[],[]⟩
def Jb{α:Type}:List (Nat × α)->Nat->Option α
 | [],_=>none
 | (k,x)::r,i=>bif aI i k then some x else Jb r i
def C1x(l m:List Nat):List Nat:=m.foldr (fun x l=>bif has l x then l else x::l) l
def B0b:List Oper->List (List Nat)->List (List Nat)
 | [],acc=>acc
 | o::r,acc=>B0b r (acc++[o.after.toList.foldr (fun e l=>bif Region.binds .any e then C1x l (e.on::acc.getD e.on []) else l) []])
def C1p(fa:FnAnn)(id:Nat)(ops:Array Oper):List Nat × List (List Nat):=
 match Jb fa.orders id with
 | none=>(List.range ops.size,B0b ops.toList [])
 | some (o,[])=>(o,B0b ops.toList [])
 | some (o,a::l)=>(o,a::l)
def J0:Code->Option Nat
 | .region id _ _=>some id
 | .seq a b=>match J0 a with
  | some i=>some i
  | none=>J0 b
 | .block _ b=>J0 b
 | .loop b=>J0 b
 | .scope b=>J0 b
 | .cond _ a b=>match J0 a with
  | some i=>some i
  | none=>J0 b
 | _=>none
def A3f:List Nat->Nat->Nat->Option Nat
 | [],_,_=>none
 | x::xs,i,j=>bif aI i x then some j else A3f xs i (j+1)
def Cy:List (Nat × Nat)->Nat->Nat->Option (Nat × Nat)
 | [],_,_=>none
 | (k,n)::r,i,j=>bif aI i k then some (j,n) else Cy r i (j+n)
def Bq(ann:Ann)(st:VS)(vs:List aC):VS:=
 { env:=fun i=>match A3f ann.slots i 0 with
    | some j=>.val (vs.getD j undef)
    | none=>bif has ann.lim.slots i then .any else st.env i
   own:=fun k=>match Cy ann.owns k ann.slots.length with
    | some (j,n)=>some ((vs.drop j).take n)
    | none=>st.own k }
def Bs(st:VS):List Nat->Option (List aC)
 | []=>some []
 | i::is=>match st.env i with
  | .val v=>match Bs st is with
   | some vs=>some (v::vs)
   | none=>none
  | _=>none
def Nf(st:VS):List (Nat × Nat)->Option (List aC)
 | []=>some []
 | (k,n)::r=>match st.own k with
  | some cs=>bif aI cs.length n then (match Nf st r with
   | some vs=>some (cs++vs)
   | none=>none) else none
  | none=>none
def Nd:List aC->List aC->Bool
 | [],[]=>true
 | z::zs,v::vs=>A16 z v&&Nd zs vs
 | _,_=>false
def keep(ann:Ann)(st:VS)(h:aH)(K:LP):Prop:=
 match Bs st ann.slots with
 | some xs=>match Nf st ann.owns with
  | some ys=>When (Nd ann.zs (xs++ys)) (K (xs++ys) h)
  | none=>False
 | none=>False
def Ok(cfg:Cfg)(ann:Ann)(st:VS):Bool:=
 ann.lim.slots.all (fun d=>A14 cfg d)&&ann.lim.keys.all (fun k=>A1a cfg.lim k&&((st.own k).isNone||(Cy ann.owns k 0).isSome)) &&
 ann.slots.all (has ann.lim.slots)&&ann.owns.all (fun p=>has ann.lim.keys p.1)&&kindsLen ann
where
 kindsLen (ann:Ann):Bool:=aI ann.zs.length (ann.slots.length+ann.owns.foldr (fun p s=>p.2+s) 0)
def Cfg.within(cfg:Cfg)(ann:Ann):Cfg:={ n:=cfg.n,own:=cfg.own,lim:=some ann.lim,fns:=cfg.fns,wr:=cfg.wr,inr:=cfg.inr }
def B8u(ann:Ann)(cfg:Cfg)(body:Cfg->VS->aH->(Ex->VS->aH->Prop)->Prop)(st:VS)(h:aH)(Q:Ex->VS->aH->Prop):Prop:=
 When (Ok cfg ann st) <|
 ∃ (Inv:LP) (μ:LN),keep ann st h Inv/\
  allL ann.zs fun d=>∀ h,Inv d h->body (cfg.within ann) (Bq ann st d) h fun e c b=>
   match e with
   | .normal=>keep ann c b fun a b=>Inv a b/\μ a b<μ d h
   | e=>Q e c b
def C18(ann:Ann)(cfg:Cfg)(a b:Cfg->VS->aH->(Ex->VS->aH->Prop)->Prop)(st:VS)(h:aH)(Q:Ex->VS->aH->Prop):Prop:=
 When (Ok cfg ann st) <|
 ∃ J:LP,(a (cfg.within ann) st h fun e c g=>
    match e with
    | .normal=>keep ann c g J
    | e=>Q e c g)/\
  allL ann.zs fun d=>∀ h,J d h->b cfg (Bq ann st d) h Q
def B3d:AVal->AVal
 | .own _ _=>.any
 | v=>v
def putAll:VS->List Nat->List aC->VS
 | st,t::ts,v::vs=>putAll (st.put t (.val v)) ts vs
 | st,_,_=>st
def Xl(st:VS)(ps:List Nat)(vs:List aC):VS:=putAll { env:=fun i=>B3d (st.env i),own:=fun _=>none } ps vs
def O7(P:aN)(fa:FnAnn):Code->Cfg->VS->aH->(Ex->VS->aH->Prop)->Prop
 | .skip,_,st,h,Q=>Q .normal st h
 | .region id ops draw,cfg,st,h,Q=>
  match draw with
  | false=>B2l P cfg ops false (List.range ops.size) st h (Q .normal)
  | true=>
   match C1p fa id ops with
   | (ord,anc)=>When (B02 P ops ord anc) (Cq P cfg ops anc (fun j=>((Jb fa.alts id).bind (fun l=>Jb l j)).getD []) ord.length ord st h (Q .normal))
 | .seq a b,cfg,st,h,Q=>
  match (J0 b).bind (Jb fa.cuts) with
  | none=>O7 P fa a cfg st h fun e st' h'=>
   match e with
   | .normal=>O7 P fa b cfg st' h' Q
   | e=>Q e st' h'
  | some ann=>C18 ann cfg (O7 P fa a) (O7 P fa b) st h Q
 | .cond c t e,cfg,st,h,Q=>
  match C8 st c with
  | .val (.bool b)=>Br b (O7 P fa t cfg st h Q) (O7 P fa e cfg st h Q)
  | _=>False
 | .block id b,cfg,st,h,Q=>O7 P fa b cfg st h fun e st' h'=>
  match e with
  | .exit j=>bif aI j id then Q .normal st' h' else Q (.exit j) st' h'
  | e=>Q e st' h'
 | .loop b,cfg,st,h,Q=>
  match (J0 b).bind (Jb fa.loops) with
  | none=>False
  | some ann=>B8u ann cfg (O7 P fa b) st h Q
 | .rangeFunc g ps asg body,cfg,st,h,Q=>
  match C8 st g,(J0 body).bind (Jb fa.rounds) with
  | .val v,some zs=>
   When (aI zs.length ps.size&&ps.toList.all (fun t=>Nat.blt t cfg.n) && !cfg.inr)
    (B5x P v h (fun args h1 J=>exL zs fun vs=>args=vs/\O7 P fa asg { cfg with lim:=none,inr:=true } (Xl st ps.toList vs) h1 fun e st1 h2=>
     match e with
     | .normal=>O7 P fa body { cfg with lim:=none,inr:=true } st1 h2 fun e _ h3=>
      match e with
      | .normal=>J h3
      | _=>False
     | _=>False) (Q .normal st))
  | _,_=>False
 | .exit id,_,st,h,Q=>Q (.exit id) st h
 | .ret,_,st,h,Q=>Q .ret st h
 | .scope b,cfg,st,h,Q=>O7 P fa b cfg st h Q
 | .label _,_,st,h,Q=>Q .normal st h
 | _,_,_,_,_=>False
section
variable {P:aN} {s0:Nat} {F:Fence} {fu:Nat} {n:Nat} {st:VS} {h:aH} {a:Act} {W:aF}
def Vg{l:List Nat}: ∀ {i j p:Nat},A3f l i j=some p->∃ q,p=j+q/\l[q]? = some i:=by
 induction l with
 | nil=>intro i j p e;cases e
 | cons x xs ih=>
  intro i j p e
  unfold A3f at e
  cases hb:aI i x with
  | true=>
   rw [hb] at e
   have:=aG hb
   simp only [cond_true,Option.some.injEq] at e
   exact ⟨0,by omega,by simp [this]⟩
  | false=>
   rw [hb] at e
   obtain ⟨q,b,a⟩:=ih e
   exact ⟨q+1,by omega,by simpa using a⟩
def A3p{l:List Nat}: ∀ {vs:List aC} {q i:Nat},Bs st l=some vs->l[q]? = some i->∃ v,vs[q]? = some v/\st.env i= .val v:=by
 induction l with
 | nil=>intro vs q i _ e;simp at e
 | cons x xs ih=>
  intro vs q i a e
  unfold Bs at a
  split at a
  ·rename_i v c
   split at a
   ·rename_i d b
    injection a with a;subst a
    cases q with
    | zero=>simp at e;subst e;exact ⟨v,by simp,c⟩
    | succ q=>simp at e;simpa using ih b e
   ·cases a
  ·cases a
def Rl{l:List Nat}: ∀ {vs:List aC},Bs st l=some vs->vs.length=l.length:=by
 induction l with
 | nil=>intro vs e;injection e with e;subst e;rfl
 | cons x xs ih=>
  intro vs a
  unfold Bs at a
  split at a
  ·split at a
   ·rename_i c b;injection a with a;subst a;simp [ih b]
   ·cases a
  ·cases a
def A6o{l:List (Nat × Nat)}: ∀ {vs:List aC} {k j p m:Nat},Nf st l=some vs->Cy l k j=some (p,m)->∃ q,p=j+q/\st.own k=some ((vs.drop q).take m):=by
 induction l with
 | nil=>intro vs k j p m _ e;cases e
 | cons x xs ih=>
  obtain ⟨o,g⟩:=x
  intro vs k j p m a e
  unfold Nf at a
  split at a
  ·rename_i i c
   cases hb:aI i.length g with
   | false=>rw [hb] at a;cases a
   | true=>
    rw [hb] at a
    have b:=aG hb
    simp only [cond_true] at a
    split at a
    ·rename_i r d
     injection a with a;subst a
     unfold Cy at e
     cases hk:aI k o with
     | true=>
      rw [hk] at e
      have:=aG hk;subst this
      simp only [cond_true,Option.some.injEq,Prod.mk.injEq] at e
      obtain ⟨rfl,rfl⟩:=e
      exact ⟨0,by omega,by rw [c,List.drop_zero,<- b,List.take_left'];rfl⟩
     | false=>
      rw [hk] at e
      obtain ⟨q,s,n⟩:=ih d e
      refine ⟨g+q,by omega,?_⟩
      rw [n,<- b,aM]
    ·cases a
  ·cases a
def Rh{zs:List aC}: ∀ {vs:List aC},Nd zs vs=true->vs.length=zs.length/\∀ p∈zs.zip vs,A16 p.1 p.2=true:=by
 induction zs with
 | nil=>
  intro vs e
  cases vs with
  | nil=>exact ⟨rfl,fun p a=>by cases a⟩
  | cons=>cases e
 | cons z zs ih=>
  intro vs e
  cases vs with
  | nil=>cases e
  | cons v vs=>
   simp only [Nd,aE] at e
   obtain ⟨c,b⟩:=ih e.2
   refine ⟨by simp [c],fun p a=>?_⟩
   simp only [List.zip_cons_cons,List.mem_cons] at a
   rcases a with rfl|a
   ·exact e.1
   ·exact b p a
def keep.out{ann:Ann}{K:LP}(x:keep ann st h K):
 ∃ xs ys,Bs st ann.slots=some xs/\Nf st ann.owns=some ys/\Nd ann.zs (xs++ys)=true/\K (xs++ys) h:=by
 unfold keep at x
 split at x
 ·split at x
  ·rename_i xs b _ ys a
   exact ⟨xs,ys,b,a,x.both.1,x.both.2⟩
  ·exact x.elim
 ·exact x.elim
def A0w{l:List (Nat × Nat)}: ∀ {k i j:Nat},(Cy l k i).isSome=(Cy l k j).isSome:=by
 induction l with
 | nil=>intros;rfl
 | cons x xs ih=>
  obtain ⟨a,b⟩:=x
  intro k i j
  unfold Cy
  cases aI k a with
  | true=>rfl
  | false=>exact ih
def Good.head{cfg:Cfg}{h0:aH}{W0:aF}{ann:Ann}{st0:VS}(g:aL n h0 W0 st h a W)(hok:Ok cfg ann st0=true)(ag:Agree (some ann.lim) st0 st)(g0:∀ i k off,st0.env i= .own k off->(st0.own k).isSome=true)(hn:cfg.n=n)
 {xs ys:List aC} (hx:Bs st ann.slots=some xs) (hy:Nf st ann.owns=some ys):aL n h0 W0 (Bq ann st0 (xs++ys)) h a W:=by
 obtain ⟨θ,r,f,F⟩:=g
 simp only [Ok,aE,aJ] at hok
 obtain ⟨⟨⟨⟨G,J⟩,M⟩,N⟩,_⟩:=hok
 have s:=Rl hx
 have d:∀ i,(∃ v,(Bq ann st0 (xs++ys)).env i= .val v/\st.env i= .val v)\/((Bq ann st0 (xs++ys)).env i= .any/\has ann.lim.slots i=true)\/((Bq ann st0 (xs++ys)).env i=st.env i/\st.env i=st0.env i):=by
  intro i
  show (∃ v,(match A3f ann.slots i 0 with
   | some j=>AVal.val ((xs++ys).getD j undef)
   | none=>bif has ann.lim.slots i then .any else st0.env i)=_/\_)\/(_=_/\_)\/(_=_/\_)
  simp only [Bq]
  cases hp:A3f ann.slots i 0 with
  | some p=>
   obtain ⟨q,C,D⟩:=Vg hp
   obtain ⟨v,A,E⟩:=A3p hx D
   refine .inl ⟨v,?_,E⟩
   have y:q<xs.length:=(List.getElem?_eq_some_iff.1 A).1
   have:p=q:=by omega
   subst this
   simp [aO,List.getElem?_append_left y,A]
  | none=>
   cases hh:has ann.lim.slots i with
   | true=>exact .inr (.inl ⟨rfl,rfl⟩)
   | false=>exact .inr (.inr ⟨(ag.env i hh).symm,ag.env i hh⟩)
 have c:∀ k l,(Bq ann st0 (xs++ys)).own k=some l->st.own k=some l:=by
  intro k l e
  simp only [Bq] at e
  cases hp:Cy ann.owns k ann.slots.length with
  | some p=>
   obtain ⟨p,m⟩:=p
   rw [hp] at e
   obtain ⟨q,C,L⟩:=A6o hy hp
   injection e with e
   rw [L,<- e,C,<- s,aM]
  | none=>
   rw [hp] at e
   have e:st0.own k=some l:=e
   cases hh:has ann.lim.keys k with
   | false=>rw [ag.own k hh];exact e
   | true=>
    have:=(J k (T9.1 hh)).2
    rw [e,A0w (j:=ann.slots.length),hp] at this
    cases this
 refine ⟨θ,⟨r.defers,r.size,fun i u=>?_,r.sim,fun k l e=>r.own k l (c k l e),fun k B x w e=>?_,fun i k off e=>?_,fun i u=>?_⟩,f,fun k x=>?_⟩
 ·rcases d i with ⟨v,b,o⟩|⟨b,_⟩|⟨b,_⟩
  ·rw [b];have:=r.slot i u;rw [o] at this;exact this
  ·rw [b];trivial
  ·rw [b];exact r.slot i u
 ·obtain ⟨l,b⟩:=Option.isSome_iff_exists.1 x
  obtain ⟨z,o⟩:=Option.isSome_iff_exists.1 w
  exact r.inj k B (by rw [c k l b];rfl) (by rw [c B z o];rfl) e
 ·rcases d i with ⟨v,b,_⟩|⟨b,_⟩|⟨b,o⟩
  ·rw [b] at e;cases e
  ·rw [b] at e;cases e
  ·have H:=g0 i k off (by rw [<- o,<- b,e])
   simp only [Bq]
   cases hp:Cy ann.owns k ann.slots.length with
   | some p=>rfl
   | none=>exact H
 ·rcases d i with ⟨v,b,o⟩|⟨b,o⟩|⟨b,o⟩
  ·have:=r.out i u;rw [b];rw [o] at this;exact this
  ·have:=G i (T9.1 o)
   simp only [A14,aE] at this
   have:=Nat.le_of_ble_eq_true this.1
   omega
  ·rw [b];exact r.out i u
 ·obtain ⟨l,b⟩:=Option.isSome_iff_exists.1 x
  exact F k (by rw [c k l b];rfl)
def Agree.within{cfg:Cfg}{ann:Ann}{st0 st':VS}(hok:Ok cfg ann st0=true){s:VS}(x:Agree (some ann.lim) s st'):Agree cfg.lim s st':=by
 simp only [Ok,aE,aJ] at hok
 obtain ⟨⟨⟨⟨d,c⟩,_⟩,_⟩,_⟩:=hok
 refine ⟨fun i b=>x.env i ?_,fun k a=>x.own k ?_⟩
 ·cases hh:has ann.lim.slots i with
  | false=>exact hh
  | true=>
   have:=d i (T9.1 hh)
   simp only [A14,aE] at this
   rw [this.2] at b;cases b
 ·cases hh:has ann.lim.keys k with
  | false=>exact hh
  | true=>have:=(c k (T9.1 hh)).1;rw [this] at a;cases a
def Agree.head{ann:Ann}{cfg:Cfg}{st0:VS}(hok:Ok cfg ann st0=true)(vs:List aC):Agree (some ann.lim) st0 (Bq ann st0 vs):=by
 simp only [Ok,aE,aJ] at hok
 obtain ⟨⟨⟨⟨w,u⟩,s⟩,n⟩,_⟩:=hok
 refine ⟨fun i a=>?_,fun k b=>?_⟩
 ·have a:has ann.lim.slots i=false:=a
  simp only [Bq]
  cases hp:A3f ann.slots i 0 with
  | some p=>
   obtain ⟨q,_,r⟩:=Vg hp
   have:=s i (List.mem_of_getElem? r)
   rw [this] at a;cases a
  | none=>simp [a]
 ·have b:has ann.lim.keys k=false:=b
  simp only [Bq]
  cases hp:Cy ann.owns k ann.slots.length with
  | none=>rfl
  | some p=>
   exfalso
   have d:∀ {l:List (Nat × Nat)} {j:Nat} {p:Nat × Nat},Cy l k j=some p->∃ m,(k,m)∈l:=by
    intro l
    induction l with
    | nil=>intro j p e;cases e
    | cons x xs ih=>
     obtain ⟨o,g⟩:=x
     intro j p e
     unfold Cy at e
     cases hb:aI k o with
     | true=>have:=aG hb;subst this;exact ⟨g,by simp⟩
     | false=>rw [hb] at e;obtain ⟨m,c⟩:=ih e;exact ⟨m,by simp [c]⟩
   obtain ⟨m,c⟩:=d hp
   have:=n (k,m) c
   rw [this] at b;cases b
def Xa{α:Type}{c:Code}{Q:Exit->Act->aF->Prop}(I:α->Act->aF->Prop)(μ:α->Nat)(z0:α)(h₀:I z0 a W)
 (round:∀ z a w,I z a w->c.wpIn F fu P (Exit.then (fun a' w'=>∃ z',I z' a' w'/\μ z'<μ z) Q) a w):(Code.loop c).wpIn F fu P Q a W:=by
 intro b k o s r q
 have key:∀ m z a w,μ z=m->I z a w->∃ e a' w',Q e a' w'/\ArrivesIn (Machine.fenced P F) P (lone (b.atR a (.code c :: .inLoop c::k)) o w) b k o e a' w':=by
  intro m
  induction m using Nat.strongRecOn with
  | _ m ih=>
   intro z a w B A
   obtain ⟨e,a₁,w₁,g,d⟩:=round z a w A b (.inLoop c::k) o s r q
   cases e with
   | normal=>
    obtain ⟨z',p,y⟩:=g
    obtain ⟨e,a',w',u,i⟩:=ih _ (by omega) z' a₁ w₁ rfl p
    exact ⟨e,a',w',u,.of_steps (StepsIn.trans d (.one (fenced_calm r q rfl) stepR_inLoop)) i⟩
   | exit id=>exact ⟨_,a₁,w₁,g,.pass (x:=.inLoop c) rfl (fun _ _=>.inl (by simp)) d⟩
   | goto l=>exact ⟨_,a₁,w₁,g,.pass (x:=.inLoop c) rfl (fun _ _=>.inl (by simp)) d⟩
   | ret=>exact ⟨_,a₁,w₁,g,.pass (x:=.inLoop c) rfl (fun _ _=>.inl (by simp)) d⟩
   | panic ch=>exact ⟨_,a₁,w₁,g,.pass (x:=.inLoop c) rfl (fun _ _=>.inl (by simp)) d⟩
   | outgrown=>exact ⟨_,a₁,w₁,g,.pass (x:=.inLoop c) rfl (fun _ _=>.inl (by simp)) d⟩
 obtain ⟨e,a',w',g,d⟩:=key _ z0 a W rfl h₀
 exact ⟨e,a',w',g,.of_steps (.one (fenced_calm r q rfl) stepR_loop) d⟩
def Ex.toExit:Ex->Exit
 | .normal=>.normal
 | .exit id=>.exit id
 | .ret=>.ret
def Good.wf{h0:aH}{W0:aF}(g:aL n h0 W0 st h a W):∀ i k off,st.env i= .own k off->(st.own k).isSome=true:=by
 obtain ⟨θ,r,_,_⟩:=g;exact r.wf
def Ve:∀ (ps:List Nat) (vs:List aC) (st:VS),(putAll st ps vs).own=st.own
 | [],_,_=>rfl
 | _::_,[],_=>rfl
 | t::ts,v::vs,st=>by rw [putAll,Ve ts vs];rfl
def Rel.putAll{θ:Nat->Nat}: ∀ (ps:List Nat) (vs:List aC) (st:VS) (a:Act),Rel s0 n θ st h a W->(∀ t∈ps,t<n)->Rel s0 n θ (putAll st ps vs) h { a with tmps:=(ps.zip vs).foldl (fun tmps (t,v)=>tmps.setIfInBounds t v) a.tmps } W
 | [],_,_,_,r,_=>r
 | _::_,[],_,_,r,_=>r
 | t::ts,v::vs,st,a,r,hp=>by
  have:=Rel.putAll ts vs (st.put t (.val v)) (a.put (some t) v) (r.put (hp t (by simp)) (v:=.val v) rfl (fun _ _ e=>by cases e)) (fun c b=>hp c (by simp [b]))
  exact this
def Good.round{h0:aH}{W0:aF}(g:aL n h0 W0 st h a W){ps:List Nat}(hps:∀ t∈ps,t<n){vs:List aC}{h1:aH}{W1:aF}(hs:Sim h1 W1):
 aL n h1 W1 (Xl st ps vs) h1 { tmps:=(ps.zip vs).foldl (fun tmps (t,v)=>tmps.setIfInBounds t v) a.tmps,defers:=[] } W1:=by
 obtain ⟨θ,r,_,_⟩:=g
 have j:Rel W1.heap.size n θ { env:=fun i=>B3d (st.env i),own:=fun _=>none } h1 { tmps:=a.tmps,defers:=[] } W1:=by
  refine ⟨MarksOk.nil,r.size,fun i d=>?_,hs,(fun k l e=>by cases e),(fun k m e=>by cases e),fun i k c e=>?_,fun i d=>?_⟩
  ·have:=r.slot i d
   show rel θ (B3d (st.env i)) _
   cases hx:st.env i with
   | own k c=>trivial
   | val v=>rw [hx] at this;exact this
   | any=>trivial
  ·exfalso
   simp only at e
   cases hx:st.env i<;>rw [hx] at e<;>cases e
  ·show B3d (st.env i)=_
   rw [r.out i d];rfl
 refine ⟨θ,j.putAll ps vs _ _ hps,Fr.refl hs,fun k b=>?_⟩
 unfold Xl at b
 rw [Ve] at b;cases b
def Dt{l:Nat}{rec:Loop}(e:W.heap[l]? = some (.loop rec)):(Instr.getLoop l).run P W= .ok rec W:=by
 simp [Instr.getLoop,getObj,Sem.run_bind,Sem.run,e]
def World.setO(W:aF)(l:Nat)(o:Obj):aF:={ W with heap:=W.heap.setIfInBounds l o }
def Hl{l:Nat}{o o':Obj}(e:W.heap[l]? = some o')(hc:∀ c t f,o' ≠ .cells c t f):(setObj l o).run P W= .ok () (World.setO W l o):=by
 cases o' with
 | cells c t f=>exact absurd rfl (hc c t f)
 | _=>simp [setObj,Sem.run,e,World.setO]
def Jy{l:Nat}{o o':Obj}(e:W.heap[l]? = some o'):(World.setO W l o).heap[l]? = some o:=by
 have:=Cz e
 simp [World.setO,this]
def H2{l b:Nat}{o:Obj}(hb:b≠l):(World.setO W l o).heap[b]? = W.heap[b]? :=by
 simp [World.setO,Ne.symm hb]
def Good.setLoop{h0:aH}{W2 W3:aF}{l:Nat}{rec rec':Loop}(g:aL n h0 W2 st h a W3)(hl:h0 l=none)(hs:l<W2.heap.size)(e:W3.heap[l]? = some (.loop rec)):aL n h0 (World.setO W2 l (.loop rec')) st h a (World.setO W3 l (.loop rec')):=by
 obtain ⟨θ,r,i,F⟩:=g
 have m:h l=none:=by
  cases x:h l with
  | none=>rfl
  | some o=>have:=i.new l o hl x;omega
 have j:∀ (W:aF) (o:Obj),(World.setO W l o).heap.size=W.heap.size:=fun W o=>by simp [World.setO]
 refine ⟨θ,⟨?_,r.size,r.slot,fun b o d=>?_,fun k H G=>?_,r.inj,r.wf,r.out⟩,⟨fun b o d=>?_,i.os,i.tape,i.output,by rw [j,j];exact i.size,fun b p d=>?_,fun b o w z=>by rw [j];exact i.new b o w z⟩,fun k B=>by rw [j];exact F k B⟩
 ·obtain ⟨C,J,E,L⟩:=r.defers
  refine ⟨C,J,E,fun q M=>?_⟩
  obtain ⟨y,D,s⟩:=L q M
  have c:q≠l:=by rintro rfl;rw [e] at s;cases s
  exact ⟨by rw [j];exact y,D,by rw [H2 c];exact s⟩
 ·have c:b≠l:=by rintro rfl;rw [m] at d;cases d
  rw [H2 c];exact r.sim b o d
 ·obtain ⟨t,u,A⟩:=r.own k H G
  have c:θ k≠l:=by intro x;rw [x,e] at u;cases u
  exact ⟨t,by rw [H2 c];exact u,A⟩
 ·have c:b≠l:=by rintro rfl;rw [m] at d;cases d
  rw [H2 c];exact i.sim b o d
 ·rw [j] at p
  by_cases c:b=l
  ·subst c
   rw [Jy e,Jy (o':=W2.heap[b]) (Array.getElem?_eq_getElem p)]
  ·rw [H2 c,H2 c];exact i.keep b p d
def A3d{h0:aH}{W0:aF}{x:Operand}{ps:Array Tmp}{asg body:Code}{v:aC}{zs:List aC}{B:List aC->aH->(aH->Prop)->Prop}{K:aH->Prop}{Q':Exit->Act->aF->Prop}
 (g:aL n h0 W0 st h a W) (hev:C8 st x= .val v) (hlen:zs.length=ps.size) (hps:∀ t∈ps.toList,t<n)
 (hv:B5x P v h (fun args h1 J=>exL zs fun vs=>args=vs/\B vs h1 J) K)
 (hQ:∀ (l:Nat) vs h1 J a1 W1,B vs h1 J->aL n h1 W1 (Xl st ps.toList vs) h1 a1 W1->∃ K2:VS->aH->Prop,
  (∀ fu' (Q2:Exit->Act->aF->Prop),(∀ st' h' a' W',K2 st' h'->aL n h1 W1 st' h' a' W'->Q2 .normal a' W')->asg.wpIn (Fence.wide.inRound l) fu' P Q2 a1 W1)/\
  ∀ W1' st1 h2 a2 W2 fu' (Q2:Exit->Act->aF->Prop),K2 st1 h2->aL n h1 W1' st1 h2 a2 W2->(∀ st' h' a' W',J h'->aL n h1 W1' st' h' a' W'->Q2 .normal a' W')->body.wpIn (Fence.wide.inRound l) fu' P Q2 a2 W2)
 (hK:∀ h' a' W',K h'->aL n h0 W0 st h' a' W'->Q' .normal a' W'):(Code.rangeFunc x ps asg body).wpIn Fence.wide fu P Q' a W:=by
 obtain ⟨f,first,k,rfl,G,hv⟩:=hv
 obtain ⟨θ,r,fr,ag⟩:=id g
 refine wpIn_rangeFunc fun fn _=>?_
 generalize hrec:({ state:=.ready,pending:=none,fn:=fn,tmps:=a.tmps,params:=ps,assign:=asg,body:=body,defers:=W.heap.size }:Loop)=rec
 generalize hl:W.heap.size+1=l
 generalize hW1:({ W with heap:=(W.heap.push (.deferred (some []))).push (.loop rec) }:aF)=W1
 have ah:W1.heap.size=W.heap.size+2:=by rw [<- hW1];simp
 have ac:W1.heap[l]? = some (.loop rec):=by
  rw [<- hW1,<- hl]
  simp only [aK,Array.size_push]
  simp
 have Q:W1.heap[W.heap.size]? = some (.deferred (some [])):=by rw [<- hW1];simp [aK]
 have A:∀ b,b<W.heap.size->W1.heap[b]? = W.heap[b]? :=by
  intro b u
  rw [<- hW1]
  simp only [aK,Array.size_push]
  rw [iN (by omega),iN (by omega)]
 have p:∀ b,W.heap.size<=b->h b=none:=by
  intro b u
  cases e:h b with
  | none=>rfl
  | some o=>have:=Cz (r.sim b o e);omega
 have M:Sim (h.put l (.loop rec)) W1:=by
  intro b o e
  by_cases u:b=l
  ·subst u;rw [C4] at e;cases e;exact ac
  ·rw [B7 _ _ u] at e
   have h1:=r.sim b o e
   rw [A b (Cz h1)];exact h1
 refine ⟨l,[{ target:=.collected W.heap.size,args:=#[] }],W1,{ target:=.fn (.func f) k,args:=first ++ #[.func (.yield l) #[] #[]] },W1,f,first ++ #[.func (.yield l) #[] #[]]++k,W1,?_,?_,fun _ _=>trivial,?_,(fun e=>by cases e),?_⟩
 ·rw [<- hW1,<- hl,<- hrec]
  simp [Instr.enterLoop,newObj,Sem.run_bind,Sem.run,Fence.wide]
  rfl
 ·have ec:a.eval (.const (.func (.yield l) #[] #[]))= .func (.yield l) #[] #[]:=rfl
  simp [resolve,r.evalVal hev,Deferred.ofValue,ec]
 ·simp [invoke,G]
 ·refine callsIn_wide.2 ((hv l rec (p l (by omega)) ?_ W1 M).mono ?_)
  ·
   intro args h1 J z u W2 R
   obtain ⟨vs,rfl,D,u⟩:∃ vs,args=vs/\vs.length=zs.length/\B vs h1 J:=by
    obtain ⟨vs,D,e,u⟩:=exL.out u
    exact ⟨vs,e,D,u⟩
   have y:W2.heap[l]? = some (.loop rec):=R l _ (C4 h1 l _)
   have H:=Cz y
   refine ⟨fn,(ps.zip args.toArray).foldl (fun tmps (t,v)=>tmps.setIfInBounds t v) a.tmps,asg,body,?_,fun m=>?_⟩
   ·unfold Instr.yield
    simp only [Sem.run_bind,Dt y,aD]
    rw [<- hrec]
    simp [D,hlen]
   ·have O:Sim h1 W2:=by
     intro b o e
     have d:b≠l:=by rintro rfl;rw [z] at e;cases e
     exact R b o (by rw [B7 _ _ d];exact e)
    have hz:(ps.zip args.toArray).foldl (fun tmps (t,v)=>tmps.setIfInBounds t v) a.tmps=(ps.toList.zip args).foldl (fun tmps (t,v)=>tmps.setIfInBounds t v) a.tmps:=by
     rw [<- Array.foldl_toList];simp
    have gr:=g.round hps (vs:=args) O
    obtain ⟨K2,V,aa⟩:=hQ l args h1 J _ _ u gr
    rw [hz]
    refine roundIn_of_wpIn (F:=Fence.wide) trivial (V m _ ?_)
    intro st1 h2 a2 W3 Z g2
    have i:W3.heap[l]? = some (.loop rec):=by
     obtain ⟨_,_,ad,_⟩:=g2
     rw [ad.keep l H z];exact y
    refine ⟨World.setO W3 l (.loop { rec with state:=.busy }),?_,?_⟩
    ·unfold Instr.beginRound
     simp only [Sem.run_bind,Dt i,aD,Hl i (by intro c t f h;cases h)]
     rw [<- hrec]
     rfl
    ·refine aa (World.setO W2 l (.loop { rec with state:=.busy })) st1 h2 a2 _ m _ Z (g2.setLoop z H i) ?_
     intro st' h' a' W' hJ g'
     obtain ⟨θ',r',s,_⟩:=g'
     have E:W'.heap[l]? = some (.loop { rec with state:=.busy }):=by
      rw [s.keep l (by simpa [World.setO] using H) z]
      exact Jy y
     have X:h' l=none:=by
      cases e:h' l with
      | none=>rfl
      | some o=>have:=s.new l o z e;simp [World.setO] at this;omega
     refine ⟨.bool true,World.setO W' l (.loop rec),?_,.bool true,h'.put l (.loop rec),rfl,⟨rfl,h',X,rfl,hJ⟩,?_⟩
     ·unfold Instr.endRound
      simp only [Sem.run_bind,Dt E,aD,Hl E (by intro c t f h;cases h)]
      rw [<- hrec]
      rfl
     ·refine ⟨fun b o e=>?_,s.os,s.tape,s.output,?_,fun b u e=>?_,fun b o e L=>?_⟩
      ·by_cases u:b=l
       ·subst u;rw [C4] at e;cases e;exact Jy E
       ·rw [B7 _ _ u] at e
        rw [H2 u];exact s.sim b o e
      ·have:=s.size;simpa [World.setO] using this
      ·have d:b≠l:=by rintro rfl;rw [C4] at e;cases e
       rw [B7 _ _ d] at e
       rw [H2 d,s.keep b (by simpa [World.setO] using u) e,H2 d]
      ·have d:b≠l:=by rintro rfl;rw [C4] at e;cases e
       rw [B7 _ _ d] at e L
       have:=s.new b o e L
       simpa [World.setO] using this
  ·rintro e W3 ⟨rv,h2,rfl,⟨S,N,rfl,ae⟩,j⟩
   have i:W3.heap[l]? = some (.loop rec):=j.sim l _ (C4 S l _)
   have C:Fr h W S (World.setO W3 l (.loop { rec with state:=.exhausted })):=by
    have T:W1.os=W.os/\W1.tape=W.tape/\W1.output=W.output:=by rw [<- hW1];exact ⟨rfl,rfl,rfl⟩
    refine ⟨fun b o e=>?_,j.os.trans T.1,j.tape.trans T.2.1,j.output.trans T.2.2,?_,fun b u e=>?_,fun b o e L=>?_⟩
    ·have d:b≠l:=by rintro rfl;rw [N] at e;cases e
     rw [H2 d]
     exact j.sim b o (by rw [B7 _ _ d];exact e)
    ·have:=j.size
     simp [World.setO];omega
    ·have d:b≠l:=by omega
     rw [H2 d,j.keep b (by omega) (by rw [B7 _ _ d];exact e),A b u]
    ·have d:b≠l:=by rintro rfl;rw [N] at L;cases L
     have:=j.new b o (by rw [B7 _ _ d];exact e) (by rw [B7 _ _ d];exact L)
     omega
   refine ⟨none,World.setO W3 l (.loop { rec with state:=.exhausted }),?_,hK S _ _ ae ⟨θ,?_,fr.trans C,ag⟩⟩
   ·unfold Instr.endLoop
    simp only [Sem.run_bind,Dt i,aD]
    rw [<- hrec] at i ⊢
    simp [Hl i (by intro c t f h;cases h)]
   ·have w:=r.world C
    refine ⟨?_,w.size,w.slot,w.sim,w.own,w.inj,w.wf,w.out⟩
    obtain ⟨rs,n1,n2,n3⟩:=w.defers
    obtain ⟨ab,m1,m2,m3⟩:=r.defers
    have af:rs=ab:=by
     have:=n2.symm.trans m2
     exact (List.map_inj_right (fun a b e=>by injection e)).1 this
    subst af
    refine ⟨W.heap.size::rs,List.nodup_cons.2 ⟨fun hm=>?_,n1⟩,by simp [n2],fun q hq=>?_⟩
    ·have:=Cz (m3 _ hm).2.2;omega
    ·rcases List.mem_cons.1 hq with rfl|hq
     ·refine ⟨fr.size,?_,?_⟩
      ·cases e:S W.heap.size with
       | none=>rfl
       | some o=>
        have:=C.new _ o (p _ (Nat.le_refl _)) e
        have h4:=j.new W.heap.size o (by rw [B7 _ _ (by omega)];exact p _ (Nat.le_refl _)) (by rw [B7 _ _ (by omega)];exact e)
        omega
      ·rw [H2 (by omega),j.keep _ (by omega) (by rw [B7 _ _ (by omega)];exact p _ (Nat.le_refl _))]
       exact Q
     ·exact n3 q hq
def C2k(Q:Exit->Act->aF->Prop):Exit->Act->aF->Prop
 | .goto _,_,_=>False
 | e,a,w=>Q e a w
def T1{b:Frame}{k:List Item}{cs:List Frame}{w:aF}{c:Code}:step P (lone (b.atR a (.code (.scope c)::k)) cs w)= .next (lone (b.atR a (.code c :: .inScope c::k)) cs w):=
 step_lone_go (by simp [stepG,stepG.exec,Frame.atR])
def Xj{b:Frame}{k:List Item}{cs:List Frame}{w:aF}{c:Code}:step P (lone (b.atR a (.inScope c::k)) cs w)= .next (lone (b.atR a k) cs w):=
 step_lone_go (by simp [stepG,stepG.exec,Frame.atR])
def A2p{c:Code}{Q:Exit->Act->aF->Prop}(h:c.wpIn F fu P (C2k Q) a W):(Code.scope c).wpIn F fu P Q a W:=by
 intro b k s r q p
 have g:(lone (b.atR a (.code (.scope c)::k)) s W).fenced P F:=fenced_calm q p rfl
 obtain ⟨e,a₁,w₁,i,d⟩:=h b (.inScope c::k) s r q p
 cases e with
 | normal=>exact ⟨.normal,a₁,w₁,i,.head g T1 (StepsIn.trans d (.one (fenced_calm q p rfl) Xj))⟩
 | exit id'=>
  have u:exitTo id' (.inScope c::k)=exitTo id' k:=by simp [exitTo]
  exact ⟨.exit id',a₁,w₁,i,fun w n=>.head g T1 (d.1 w (by rw [u];exact n)),
   fun o n=>let ⟨k₁,h1,h2⟩:=d.2 o (by rw [u];exact n);⟨k₁,h1,.head g T1 h2⟩⟩
 | goto l=>exact i.elim
 | ret=>exact ⟨_,a₁,w₁,i,.of_steps (.one g T1) d⟩
 | panic ch=>exact ⟨_,a₁,w₁,i,.of_steps (.one g T1) d⟩
 | outgrown=>exact ⟨_,a₁,w₁,i,.of_steps (.one g T1) d⟩
def A6u{fa:FnAnn}(c:Code):∀ {F:Fence} [FOk F] {fu:Nat} {h0:aH} {W0:aF} (cfg:Cfg) (st:VS) (h:aH) (a:Act) (W:aF) (Q:Ex->VS->aH->Prop) (Q':Exit->Act->aF->Prop),cfg.n=n->Bodies P cfg.fns->(cfg.inr=false->F=Fence.wide)->aL n h0 W0 st h a W->
 O7 P fa c cfg st h Q->(∀ e st' h' a' W',Q e st' h'->aL n h0 W0 st' h' a' W'->Agree cfg.lim st st'->Q' e.toExit a' W')->c.wpIn F fu P Q' a W:=by
 induction c with
 | skip=>exact fun {F} _ {fu h0 W0} cfg st h a W Q Q' q s w g d m=>wpIn_skip (m .normal st h a W d g (Agree.refl _ _))
 | region id ops draw=>
  intro F _ fu h0 W0 cfg st h a W Q Q' q s w g d m
  unfold O7 at d
  cases draw with
  | false=>exact wpIn_region (B4z q s _ st h a W g d fun st' h' a' W' i p u=>m .normal st' h' a' W' i p u)
  | true=>
   obtain ⟨o,d⟩:=d.both
   exact A6q q s o g d fun st' h' a' W' i p u=>m .normal st' h' a' W' i p u
 | seq x y ihx ihy=>
  intro F _ fu h0 W0 cfg st h a W Q Q' q s w g d m
  unfold O7 at d
  split at d
  ·refine wpIn_seq (ihx cfg st h a W _ _ q s w g d fun e st' h' a' W' i p u=>?_)
   cases e with
   | normal=>exact ihy cfg st' h' a' W' Q Q' q s w p i fun e D B S W2 k O H=>m e D B S W2 k O (u.trans H)
   | exit id=>exact m (.exit id) st' h' a' W' i p u
   | ret=>exact m .ret st' h' a' W' i p u
  ·rename_i A _
   obtain ⟨o,J,aa,ai⟩:=d.both
   refine wpIn_seq (ihx (cfg.within A) st h a W _ _ q s w g aa fun e st' h' a' W' i p u=>?_)
   cases e with
   | normal=>
    obtain ⟨xs,ys,hx,hy,M,hJ⟩:=i.out
    obtain ⟨hl,hz⟩:=Rh M
    have C:=allL.at ai hl hz h' hJ
    exact ihy cfg _ h' a' W' Q Q' q s w (p.head o u g.wf q hx hy) C fun e D B S W2 k O H=>m e D B S W2 k O (((Agree.head o _).within o).trans H)
   | exit id=>exact m (.exit id) st' h' a' W' i p (u.within o)
   | ret=>exact m .ret st' h' a' W' i p (u.within o)
 | cond c x y ihx ihy=>
  intro F _ fu h0 W0 cfg st h a W Q Q' q s w g d m
  unfold O7 at d
  split at d
  ·rename_i b C
   obtain ⟨θ,r,_,_⟩:=id g
   cases b with
   | true=>exact wpIn_cond_true (r.evalVal C) (ihx cfg st h a W Q Q' q s w g d m)
   | false=>exact wpIn_cond_false (r.evalVal C) (ihy cfg st h a W Q Q' q s w g d m)
  ·exact d.elim
 | block id b ih=>
  intro F _ fu h0 W0 cfg st h a W Q Q' q s w g d m
  unfold O7 at d
  refine wpIn_block (ih cfg st h a W _ _ q s w g d fun e st' h' a' W' i p u=>?_)
  cases e with
  | normal=>exact m .normal st' h' a' W' i p u
  | ret=>exact m .ret st' h' a' W' i p u
  | exit j=>
   by_cases hj:j=id
   ·subst hj
    have i:Q .normal st' h':=by simpa using i
    show Exit.inBlock j Q' (.exit j) a' W'
    simp only [Exit.inBlock,if_true]
    exact m .normal st' h' a' W' i p u
   ·have i:Q (.exit j) st' h':=by simpa [Ce hj] using i
    show Exit.inBlock id Q' (.exit j) a' W'
    simp only [Exit.inBlock,hj,if_false]
    exact m (.exit j) st' h' a' W' i p u
 | loop b ih=>
  intro F _ fu h0 W0 cfg st h a W Q Q' q s w g d m
  unfold O7 at d
  split at d
  ·exact d.elim
  ·rename_i A _
   obtain ⟨o,Inv,μ,h1,B⟩:=d.both
   obtain ⟨xs,ys,hx,hy,M,hI⟩:=h1.out
   have R:=g.wf
   refine Xa (fun (z:List aC × aH) a' W'=>Nd A.zs z.1=true/\Inv z.1 z.2/\aL n h0 W0 (Bq A st z.1) z.2 a' W') (fun z=>μ z.1 z.2) (xs++ys,h) ⟨M,hI,g.head o (Agree.refl _ _) R q hx hy⟩ ?_
   intro z a1 W1 ⟨hk1,hI1,g1⟩
   obtain ⟨hl,hz⟩:=Rh hk1
   have C:=allL.at B hl hz z.2 hI1
   refine ih (cfg.within A) _ z.2 a1 W1 _ _ q s w g1 C fun e st' h' a' W' i p u=>?_
   have E:Agree (some A.lim) st st':=(Agree.head o _).trans u
   cases e with
   | normal=>
    obtain ⟨V,ah,ab,ad,X,Z,hμ⟩:=i.out
    exact ⟨(V++ah,h'),⟨X,Z,p.head o E R q ab ad⟩,hμ⟩
   | exit id=>exact m (.exit id) st' h' a' W' i p (E.within o)
   | ret=>exact m .ret st' h' a' W' i p (E.within o)
 | exit id=>exact fun {F} _ {fu h0 W0} cfg st h a W Q Q' q s w g d m=>wpIn_exit (m (.exit id) st h a W d g (Agree.refl _ _))
 | ret=>exact fun {F} _ {fu h0 W0} cfg st h a W Q Q' q s w g d m=>wpIn_ret (m .ret st h a W d g (Agree.refl _ _))
 | rangeFunc x ps asg body iha ihb=>
  intro F _ fu h0 W0 cfg st h a W Q Q' q s w g d m
  unfold O7 at d
  split at d
  ·rename_i v zs ae aj
   obtain ⟨o,d⟩:=d.both
   simp only [aE,Bool.not_eq_true',aJ] at o
   obtain ⟨⟨N,af⟩,L⟩:=o
   obtain rfl:=w L
   refine A3d g ae (aG N) (fun t ht=>by rw [<- q];exact Nat.le_of_ble_eq_true (af t ht)) d ?_ (fun h' a' W' i p=>m .normal st h' a' W' i p (Agree.refl _ _))
   intro l vs h1 J a1 W1 C g1
   refine ⟨fun T B=>O7 P fa body { cfg with lim:=none,inr:=true } T B fun e _ h3=>
     match e with
     | .normal=>J h3
     | _=>False,fun ac Q2 G=>?_,fun W1' T B S W2 ac Q2 M O G=>?_⟩
   ·refine iha (F:=Fence.wide.inRound l) { cfg with lim:=none,inr:=true } _ h1 a1 W1 _ _ q s (fun e=>by cases e) g1 C fun e st' h' a' W' i p _=>?_
    cases e with
    | normal=>exact G st' h' a' W' i p
    | _=>exact i.elim
   ·refine ihb (F:=Fence.wide.inRound l) { cfg with lim:=none,inr:=true } _ B S W2 _ _ q s (fun e=>by cases e) O M fun e st' h' a' W' i p _=>?_
    cases e with
    | normal=>exact G st' h' a' W' i p
    | _=>exact i.elim
  ·exact d.elim
 | scope b ih=>
  intro F _ fu h0 W0 cfg st h a W Q Q' q s w g d m
  unfold O7 at d
  refine A2p (ih cfg st h a W Q (C2k Q') q s w g d fun e st' h' a' W' i p u=>?_)
  cases e with
  | normal=>exact m .normal st' h' a' W' i p u
  | exit id=>exact m (.exit id) st' h' a' W' i p u
  | ret=>exact m .ret st' h' a' W' i p u
 | label l=>exact fun {F} _ {fu h0 W0} cfg st h a W Q Q' q s w g d m=>wpIn_label (m .normal st h a W d g (Agree.refl _ _))
 | _=>intro F _ fu h0 W0 cfg st h a W Q Q' q s w g d m;exact d.elim
def B5b(args:List aC):VS:={ env:=fun i=>.val (args.getD i undef),own:=fun _=>none }
def A4w(P:aN)(st:VS):ResultVar->Option aC
 | .tmp t=>match st.env t with
  | .val v=>some v
  | _=>none
 | .cell a t=>match st.env a with
  | .own k off=>match st.own k with
   | some cs=>match Kl P t with
    | some true=>bif Nat.ble (off+P.cellsOf t) cs.length then some (.agg ((cs.drop off).take (P.cellsOf t)).toArray) else none
    | some false=>cs[off]?
    | none=>none
   | none=>none
  | _=>none
def Qu(P:aN)(st:VS):List ResultVar->Option (List aC)
 | []=>some []
 | r::rs=>match A4w P st r with
  | some v=>match Qu P st rs with
   | some vs=>some (v::vs)
   | none=>none
  | none=>none
def A2w:List aC->aC
 | [v]=>v
 | vs=>.tuple vs.toArray
def A39(P:aN)(rs:List ResultVar)(K:VP)(e:Ex)(st:VS)(h:aH):Prop:=
 match e with
 | .exit _=>False
 | _=>match Qu P st rs with
  | some vs=>K (A2w vs) h
  | none=>False
def C17(P:aN)(fa:FnAnn)(cfg:Cfg)(rs:List ResultVar)(c:Code)(args:List aC)(h:aH)(K:VP):Prop:=
 O7 P fa c cfg (B5b args) h (A39 P rs K)
def A6d{θ:Nat->Nat}(r:Rel s0 n θ st h a W){rv:ResultVar}{v:aC}(e:A4w P st rv=some v):
 (match rv with
  | .tmp t=>(pure (a.tmps.getD t undef):Sem aC)
  | .cell x t=>do loadVar t (<- asAddr (a.tmps.getD x undef))).run P W= .ok v W:=by
 cases rv with
 | tmp t=>
  simp only [A4w] at e
  have:=r.slot' t
  split at e
  ·rename_i u d
   injection e with e;subst e
   rw [d] at this
   have this:a.tmps.getD t undef=u:=this
   simp [this]
  ·cases e
 | cell x t=>
  simp only [A4w] at e
  have g:=r.slot' x
  split at e
  ·rename_i k c m
   rw [m] at g
   have g:a.tmps.getD x undef= .pointer (some ⟨θ k,c,none⟩):=g
   split at e
   ·rename_i j i
    have o:T4 P t j c fun w=>w= .val v:=by
     split at e
     ·rename_i b
      cases hb:Nat.ble (c+P.cellsOf t) j.length with
      | false=>rw [hb] at e;cases e
      | true=>
       rw [hb] at e;injection e with e
       unfold T4;rw [b]
       simp only [Iy b,hb,Bool.and_self]
       show _=_
       rw [e]
     ·rename_i b
      unfold T4;rw [b];simp only [e]
     ·cases e
    obtain ⟨u,d,l⟩:=Ke r i o
    injection d with d;subst d
    simp only [Instr.loadAt,Instr.sureAddr,Sem.run_bind,Sem.run_pure,aD] at l
    simp only [g,asAddr,Sem.run_bind,Sem.run_pure,aD,l]
   ·cases e
  ·cases e
def A3a{θ:Nat->Nat}(r:Rel s0 n θ st h a W)(rs:List ResultVar):∀ {vs:List aC},Qu P st rs=some vs->
 (rs.mapM fun (rv:ResultVar)=>match rv with
  | .tmp t=>(pure (a.tmps.getD t undef):Sem aC)
  | .cell x t=>do loadVar t (<- asAddr (a.tmps.getD x undef))).run P W= .ok vs W:=by
 induction rs with
 | nil=>intro vs e;injection e with e;subst e;simp
 | cons rv rs ih=>
  intro vs e
  unfold Qu at e
  split at e
  ·rename_i v c
   split at e
   ·rename_i d b
    injection e with e;subst e
    rw [List.mapM_cons]
    simp only [Sem.run_bind,A6d r c,aD,ih b,Sem.run_pure]
   ·cases e
  ·cases e
def A5k(fn:Func):Code:=
 match fn.body with
 | some c=>c
 | none=>.skip
def Bodies.nil:Bodies P []:=fun g a=>by cases a
def B0{g:Nat}{l:List Nat}(hg:∀ args W,(callFunc g args).run P W= .ok (.enter g args) W)(hl:Bodies P l):Bodies P (g::l):=fun k a=>by
 cases a with
 | head=>exact hg
 | tail _ a=>exact hl k a
def Ph{r:Nat}(e:W.heap[r]? = some (.deferred (some []))):(Instr.takeDeferred r).run P W= .ok [] (World.setO W r (.deferred none)):=by
 simp [Instr.takeDeferred,getObj,Sem.run_bind,Sem.run,e,Hl e (by intro c t f h;cases h)]
def A9d{fn:Func}{tmps:Array aC}{R:Ending->aF->Prop}: ∀ (ds:List Deferred) (W:aF) (rs:List Nat),rs.Nodup->ds.map (·.target)=rs.map Target.collected->(∀ r∈rs,W.heap[r]? = some (.deferred (some [])))->
 (∀ W2:aF,W2.os=W.os->W2.tape=W.tape->W2.output=W.output->W2.heap.size=W.heap.size->(∀ b,b∉rs->W2.heap[b]? = W.heap[b]?)->∃ v,(results fn tmps).run P W2= .ok v W2/\R (.returned v) W2)->
 LeavesInM Fence.wide 0 P fn tmps R ds .returning W:=by
 intro ds
 induction ds with
 | nil=>
  intro W rs _ e _ x
  exact x W rfl rfl rfl rfl (fun _ _=>rfl)
 | cons d ds ih=>
  intro W rs o e i x
  cases rs with
  | nil=>cases e
  | cons r rs=>
   simp only [List.map_cons,List.cons.injEq] at e
   have k:=i r (by simp)
   obtain ⟨g,a⟩:=List.nodup_cons.1 o
   refine ⟨by simp,.inl ⟨r,_,e.1,Ph k,ih _ rs a e.2 (fun q j=>?_) (fun W2 p n m l s=>x W2 p n m (by rw [l];simp [World.setO]) (fun b c=>?_))⟩⟩
   ·rw [H2 (by rintro rfl;exact g j)];exact i q (by simp [j])
   ·simp only [List.mem_cons,not_or] at c
    rw [s b c.2,H2 c.1]
def B3l{f:FuncId}{fn:Func}(hf:P.funcs[f]? = some fn){c:Code}(hb:fn.body=some c){rs:List ResultVar}(hr:fn.results.toList=rs){fa:FnAnn}{cfg:Cfg}{args:List aC}(hn:cfg.n=args.length+(fn.ntmps-args.length))(hfn:Bodies P cfg.fns){h:aH}{K:VP}
 (hv:C17 P fa cfg rs c args h K):FCall P f args.toArray h K:=by
 intro W H
 subst hr
 have g:aL cfg.n h W (B5b args) h { tmps:=args.toArray++Array.replicate (fn.ntmps-args.toArray.size) undef,defers:=[] } W:=by
  refine ⟨fun _=>0,⟨MarksOk.nil,by simp [hn],fun i E=>?_,H,(fun k J e=>by cases e),(fun k k' C=>by cases C),(fun i k L e=>by cases e),fun i E=>?_⟩,Fr.refl H,(fun k C=>by cases C)⟩
  ·show _=args.getD i undef
   rcases Nat.lt_or_ge i args.length with x|x
   ·simp [Array.getD,x,aO];omega
   ·have:i<args.length+(fn.ntmps-args.length):=by rw [<- hn];exact E
    simp [Array.getD,this,aO,Array.getElem_append,Nat.not_lt.2 x]
  ·show AVal.val (args.getD i undef)=_
   have:args.length<=i:=by rw [hn] at E;omega
   simp [aO,List.getElem?_eq_none this]
 refine callsIn_wide.1 (callsIn_of_wp_marks (n:=0) hf hb trivial (A6u c (F:=Fence.wide) cfg _ h _ W _ _ rfl hfn (fun _=>rfl) g hv fun e A s y W' a N _=>?_))
 obtain ⟨θ,r,p,_⟩:=N
 have z:∀ d,Qu P A fn.results.toList=some d->K (A2w d) s->bodyPostM Fence.wide 0 P fn (fun e W'=>∃ r s,e= .returned r/\K r s/\Fr h W s W') .ret y W':=by
  intro d j a
  obtain ⟨rs,V,Z,m⟩:=r.defers
  refine A9d y.defers W' rs V Z (fun q X=>(m q X).2.2) ?_
  intro W2 Q M R T D
  have B:Fr h W s W2:=by
   refine ⟨fun b o e=>?_,Q.trans p.os,M.trans p.tape,R.trans p.output,by rw [T];exact p.size,fun b hb e=>?_,p.new⟩
   ·rw [D b (fun u=>by rw [(m b u).2.1] at e;cases e)];exact p.sim b o e
   ·rw [D b (fun u=>by have:=(m b u).1;omega)];exact p.keep b hb e
  have S:Rel W.heap.size cfg.n θ A s { y with defers:=[] } W2:=by
   refine ⟨MarksOk.nil,r.size,r.slot,B.sim,fun k J e=>?_,r.inj,r.wf,r.out⟩
   obtain ⟨t,G,O⟩:=r.own k J e
   exact ⟨t,by rw [D _ (fun u=>by rw [(m _ u).2.2] at G;cases G)];exact G,O⟩
  refine ⟨A2w d,?_,_,s,rfl,a,B⟩
  have u:=A3a (P:=P) S fn.results.toList j
  have e:(results fn y.tmps).run P W2=((fn.results.toList.mapM (fun (rv:ResultVar)=>match rv with
   | .tmp t=>(pure (y.tmps.getD t undef):Sem aC)
   | .cell x t=>do loadVar t (<- asAddr (y.tmps.getD x undef)))).run P W2).andThen fun l w=>.ok (if h:l.toArray.size=1 then l.toArray[0] else .tuple l.toArray) w:=by
   unfold results
   rw [Sem.run_bind,Array.mapM_eq_mapM_toList]
   simp only [map_eq_pure_bind,Sem.run_bind]
   generalize Sem.run P _ W2=x
   cases x<;>simp
  rw [e,u,aD]
  cases d with
  | nil=>rfl
  | cons v d=>cases d<;>rfl
 cases e with
 | exit id=>exact a.elim
 | normal=>
  unfold A39 at a
  split at a
  ·exact a.elim
  ·split at a
   ·rename_i d j;exact z d j a
   ·exact a.elim
 | ret=>
  unfold A39 at a
  split at a
  ·exact a.elim
  ·split at a
   ·rename_i d j;exact z d j a
   ·exact a.elim
def C20{L:List Nat}(hL:Bodies P L){f:FuncId}{fn:Func}(hf:P.funcs[f]? = some fn)(rs:List ResultVar)(fa:FnAnn)(n:Nat)(own fns wr:List Nat){args:List aC}{h:aH}{K:VP}{T:Prop}
 (e:(fn.body.isSome,fn.results.toList,n,fns.all (has L),C17 P fa { n:=n,own:=own,lim:=none,fns:=fns,wr:=wr } rs (A5k fn) args h K)=(true,rs,args.length+(fn.ntmps-args.length),true,T)) (hvc:T):FCall P f args.toArray h K:=by
 simp only [Prod.mk.injEq] at e
 obtain ⟨a,b,k,d,j⟩:=e
 have l:fn.body=some (A5k fn):=by
  unfold A5k
  cases hx:fn.body with
  | none=>rw [hx] at a;cases a
  | some c=>rfl
 exact B3l hf l b k (fun g i=>hL g (T9.1 (List.all_eq_true.1 d g i))) (j.mpr hvc)
end
abbrev I(n:Int):aC:=.int .i64 n
abbrev I32(n:Int):aC:=.int .i32 n
abbrev U(n:Int):aC:=.int .u64 n
abbrev U32(n:Int):aC:=.int .u32 n
abbrev Y(n:Int):aC:=.int .u8 n
abbrev B5(n:Int):Int:=IntKind.i64.wrap n
abbrev C3t(n:Int):Int:=IntKind.i32.wrap n
abbrev B8(n:Int):Int:=IntKind.u64.wrap n
abbrev E9(n:Int):Int:=IntKind.u32.wrap n
abbrev wu8(n:Int):Int:=IntKind.u8.wrap n
def Lk(k:IntKind)(x y:Int):Int:=k.wrap (BitVec.ofInt k.bits x &&& BitVec.ofInt k.bits y).toNat
def bor(k:IntKind)(x y:Int):Int:=k.wrap (BitVec.ofInt k.bits x ||| BitVec.ofInt k.bits y).toNat
