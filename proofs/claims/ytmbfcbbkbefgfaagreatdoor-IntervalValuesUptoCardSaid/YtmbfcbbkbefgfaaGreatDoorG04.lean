/- A part. -/
import Derived.Test.YtmbfcbbkbefgfaaGreatDoorG03
set_option linter.all false
open _root_.Array renaming getElem?_push->aK
open Bool renaming and_eq_true->aE
open List renaming all_eq_true->aJ,drop_length_add_append->aM,getD->aO
open Nat renaming eq_of_beq_eq_true->aG,beq->aI
open _root_.Go.Result renaming andThen_ok->aD
open _root_.Go renaming Value->aC,World->aF,Program->aN
open _root_.Go.Proofs.YtmbfcbbkbefgfaaGreatDoor renaming Heap->aH,Good->aL
namespace Go.Proofs.YtmbfcbbkbefgfaaGreatDoor
open Go
inductive Ex where
 | normal
 | exit (id:Nat)
 | ret
structure Ann where
 slots:List Nat
 owns:List (Nat × Nat)
 zs:List aC
 lim:Lim
structure FnAnn where
 loops:List (Nat × Ann):=[]
 cuts:List (Nat × Ann):=[]
 orders:List (Nat × List Nat × List (List Nat)):=[]
 rounds:List (Nat × List aC):=[]
 alts:List (Nat × List (Nat × List Nat)):=[]
def an0:FnAnn:=⟨[],[],[],[],[]⟩
def Il{α:Type}:List (Nat × α)->Nat->Option α
 | [],_=>none
 | (k,x)::r,i=>bif aI i k then some x else Il r i
def C0i(l m:List Nat):List Nat:=m.foldr (fun x l=>bif has l x then l else x::l) l
def A8r:List Oper->List (List Nat)->List (List Nat)
 | [],acc=>acc
 | o::r,acc=>A8r r (acc++[o.after.toList.foldr (fun e l=>bif Region.binds .any e then C0i l (e.on::acc.getD e.on []) else l) []])
def C0d(fa:FnAnn)(id:Nat)(ops:Array Oper):List Nat × List (List Nat):=
 match Il fa.orders id with
 | none=>(List.range ops.size,A8r ops.toList [])
 | some (o,[])=>(o,A8r ops.toList [])
 | some (o,a::l)=>(o,a::l)
def I9:Code->Option Nat
 | .region id _ _=>some id
 | .seq a b=>match I9 a with
  | some i=>some i
  | none=>I9 b
 | .block _ b=>I9 b
 | .loop b=>I9 b
 | .scope b=>I9 b
 | .cond _ a b=>match I9 a with
  | some i=>some i
  | none=>I9 b
 | _=>none
def A1y:List Nat->Nat->Nat->Option Nat
 | [],_,_=>none
 | x::xs,i,j=>bif aI i x then some j else A1y xs i (j+1)
def Cr:List (Nat × Nat)->Nat->Nat->Option (Nat × Nat)
 | [],_,_=>none
 | (k,n)::r,i,j=>bif aI i k then some (j,n) else Cr r i (j+n)
def Bk(ann:Ann)(st:VS)(vs:List aC):VS:=
 { env:=fun i=>match A1y ann.slots i 0 with
    | some j=>.val (vs.getD j undef)
    | none=>bif has ann.lim.slots i then .any else st.env i
   own:=fun k=>match Cr ann.owns k ann.slots.length with
    | some (j,n)=>some ((vs.drop j).take n)
    | none=>st.own k }
def Bl(st:VS):List Nat->Option (List aC)
 | []=>some []
 | i::is=>match st.env i with
  | .val v=>match Bl st is with
   | some vs=>some (v::vs)
   | none=>none
  | _=>none
def Ly(st:VS):List (Nat × Nat)->Option (List aC)
 | []=>some []
 | (k,n)::r=>match st.own k with
  | some cs=>bif aI cs.length n then (match Ly st r with
   | some vs=>some (cs++vs)
   | none=>none) else none
  | none=>none
def Lx:List aC->List aC->Bool
 | [],[]=>true
 | z::zs,v::vs=>Zs z v&&Lx zs vs
 | _,_=>false
def keep(ann:Ann)(st:VS)(h:aH)(K:LP):Prop:=
 match Bl st ann.slots with
 | some xs=>match Ly st ann.owns with
  | some ys=>When (Lx ann.zs (xs++ys)) (K (xs++ys) h)
  | none=>False
 | none=>False
def Nq(cfg:Cfg)(ann:Ann)(st:VS):Bool:=
 ann.lim.slots.all (fun d=>Zo cfg d)&&ann.lim.keys.all (fun k=>Zx cfg.lim k&&((st.own k).isNone||(Cr ann.owns k 0).isSome)) &&
 ann.slots.all (has ann.lim.slots)&&ann.owns.all (fun p=>has ann.lim.keys p.1)&&kindsLen ann
where
 kindsLen (ann:Ann):Bool:=aI ann.zs.length (ann.slots.length+ann.owns.foldr (fun p s=>p.2+s) 0)
def Cfg.within(cfg:Cfg)(ann:Ann):Cfg:={ n:=cfg.n,own:=cfg.own,lim:=some ann.lim,fns:=cfg.fns,wr:=cfg.wr,inr:=cfg.inr }
def B70(ann:Ann)(cfg:Cfg)(body:Cfg->VS->aH->(Ex->VS->aH->Prop)->Prop)(st:VS)(h:aH)(Q:Ex->VS->aH->Prop):Prop:=
 When (Nq cfg ann st) <|
 ∃ (Inv:LP) (μ:LN),keep ann st h Inv/\
  allL ann.zs fun d=>∀ h,Inv d h->body (cfg.within ann) (Bk ann st d) h fun e b c=>
   match e with
   | .normal=>keep ann b c fun a c=>Inv a c/\μ a c<μ d h
   | e=>Q e b c
def B9y(ann:Ann)(cfg:Cfg)(a b:Cfg->VS->aH->(Ex->VS->aH->Prop)->Prop)(st:VS)(h:aH)(Q:Ex->VS->aH->Prop):Prop:=
 When (Nq cfg ann st) <|
 ∃ J:LP,(a (cfg.within ann) st h fun e c g=>
    match e with
    | .normal=>keep ann c g J
    | e=>Q e c g)/\
  allL ann.zs fun d=>∀ h,J d h->b cfg (Bk ann st d) h Q
def B1i:AVal->AVal
 | .own _ _=>.any
 | v=>v
def putAll:VS->List Nat->List aC->VS
 | st,t::ts,v::vs=>putAll (st.put t (.val v)) ts vs
 | st,_,_=>st
def Wa(st:VS)(ps:List Nat)(vs:List aC):VS:=putAll { env:=fun i=>B1i (st.env i),own:=fun _=>none } ps vs
def P8(P:aN)(fa:FnAnn):Code->Cfg->VS->aH->(Ex->VS->aH->Prop)->Prop
 | .skip,_,st,h,Q=>Q .normal st h
 | .region id ops draw,cfg,st,h,Q=>
  match draw with
  | false=>B0o P cfg ops false (List.range ops.size) st h (Q .normal)
  | true=>
   match C0d fa id ops with
   | (ord,anc)=>When (A8j P ops ord anc) (Ck P cfg ops anc (fun j=>((Il fa.alts id).bind (fun l=>Il l j)).getD []) ord.length ord st h (Q .normal))
 | .seq a b,cfg,st,h,Q=>
  match (I9 b).bind (Il fa.cuts) with
  | none=>P8 P fa a cfg st h fun e st' h'=>
   match e with
   | .normal=>P8 P fa b cfg st' h' Q
   | e=>Q e st' h'
  | some ann=>B9y ann cfg (P8 P fa a) (P8 P fa b) st h Q
 | .cond c t e,cfg,st,h,Q=>
  match C7 st c with
  | .val (.bool b)=>Br b (P8 P fa t cfg st h Q) (P8 P fa e cfg st h Q)
  | _=>False
 | .block id b,cfg,st,h,Q=>P8 P fa b cfg st h fun e st' h'=>
  match e with
  | .exit j=>bif aI j id then Q .normal st' h' else Q (.exit j) st' h'
  | e=>Q e st' h'
 | .loop b,cfg,st,h,Q=>
  match (I9 b).bind (Il fa.loops) with
  | none=>False
  | some ann=>B70 ann cfg (P8 P fa b) st h Q
 | .rangeFunc g ps asg body,cfg,st,h,Q=>
  match C7 st g,(I9 body).bind (Il fa.rounds) with
  | .val v,some zs=>
   When (aI zs.length ps.size&&ps.toList.all (fun t=>Nat.blt t cfg.n) && !cfg.inr)
    (B3z P v h (fun args h1 J=>exL zs fun vs=>args=vs/\P8 P fa asg { cfg with lim:=none,inr:=true } (Wa st ps.toList vs) h1 fun e st1 h2=>
     match e with
     | .normal=>P8 P fa body { cfg with lim:=none,inr:=true } st1 h2 fun e _ h3=>
      match e with
      | .normal=>J h3
      | _=>False
     | _=>False) (Q .normal st))
  | _,_=>False
 | .exit id,_,st,h,Q=>Q (.exit id) st h
 | .ret,_,st,h,Q=>Q .ret st h
 | .scope b,cfg,st,h,Q=>P8 P fa b cfg st h Q
 | .label _,_,st,h,Q=>Q .normal st h
 | _,_,_,_,_=>False
section
variable {P:aN} {s0:Nat} {F:Fence} {fu:Nat} {n:Nat} {st:VS} {h:aH} {a:Act} {W:aF}
def Ua{l:List Nat}: ∀ {i j p:Nat},A1y l i j=some p->∃ q,p=j+q/\l[q]? = some i:=by
 induction l with
 | nil=>intro i j p e;cases e
 | cons x xs ih=>
  intro i j p e
  unfold A1y at e
  cases hb:aI i x with
  | true=>
   rw [hb] at e
   have:=aG hb
   simp only [cond_true,Option.some.injEq] at e
   exact ⟨0,by omega,by simp [this]⟩
  | false=>
   rw [hb] at e
   obtain ⟨q,b,a⟩:=ih e
   exact ⟨q+1,by omega,by simpa using a⟩
def A2a{l:List Nat}: ∀ {vs:List aC} {q i:Nat},Bl st l=some vs->l[q]? = some i->∃ v,vs[q]? = some v/\st.env i= .val v:=by
 induction l with
 | nil=>intro vs q i _ e;simp at e
 | cons x xs ih=>
  intro vs q i a e
  unfold Bl at a
  split at a
  ·rename_i v c
   split at a
   ·rename_i d b
    injection a with a;subst a
    cases q with
    | zero=>simp at e;subst e;exact ⟨v,by simp,c⟩
    | succ q=>simp at e;simpa using ih b e
   ·cases a
  ·cases a
def Qp{l:List Nat}: ∀ {vs:List aC},Bl st l=some vs->vs.length=l.length:=by
 induction l with
 | nil=>intro vs e;injection e with e;subst e;rfl
 | cons x xs ih=>
  intro vs a
  unfold Bl at a
  split at a
  ·split at a
   ·rename_i c b;injection a with a;subst a;simp [ih b]
   ·cases a
  ·cases a
def A53{l:List (Nat × Nat)}: ∀ {vs:List aC} {k j p m:Nat},Ly st l=some vs->Cr l k j=some (p,m)->∃ q,p=j+q/\st.own k=some ((vs.drop q).take m):=by
 induction l with
 | nil=>intro vs k j p m _ e;cases e
 | cons x xs ih=>
  obtain ⟨n,g⟩:=x
  intro vs k j p m a e
  unfold Ly at a
  split at a
  ·rename_i o d
   cases hb:aI o.length g with
   | false=>rw [hb] at a;cases a
   | true=>
    rw [hb] at a
    have b:=aG hb
    simp only [cond_true] at a
    split at a
    ·rename_i s c
     injection a with a;subst a
     unfold Cr at e
     cases hk:aI k n with
     | true=>
      rw [hk] at e
      have:=aG hk;subst this
      simp only [cond_true,Option.some.injEq,Prod.mk.injEq] at e
      obtain ⟨rfl,rfl⟩:=e
      exact ⟨0,by omega,by rw [d,List.drop_zero,<- b,List.take_left'];rfl⟩
     | false=>
      rw [hk] at e
      obtain ⟨q,r,i⟩:=ih c e
      refine ⟨g+q,by omega,?_⟩
      rw [i,<- b,aM]
    ·cases a
  ·cases a
def Qk{zs:List aC}: ∀ {vs:List aC},Lx zs vs=true->vs.length=zs.length/\∀ p∈zs.zip vs,Zs p.1 p.2=true:=by
 induction zs with
 | nil=>
  intro vs e
  cases vs with
  | nil=>exact ⟨rfl,fun p a=>by cases a⟩
  | cons=>cases e
 | cons z zs ih=>
  intro vs e
  cases vs with
  | nil=>cases e
  | cons v vs=>
   simp only [Lx,aE] at e
   obtain ⟨b,c⟩:=ih e.2
   refine ⟨by simp [b],fun p a=>?_⟩
   simp only [List.zip_cons_cons,List.mem_cons] at a
   rcases a with rfl|a
   ·exact e.1
   ·exact c p a
def keep.out{ann:Ann}{K:LP}(x:keep ann st h K):
 ∃ xs ys,Bl st ann.slots=some xs/\Ly st ann.owns=some ys/\Lx ann.zs (xs++ys)=true/\K (xs++ys) h:=by
 unfold keep at x
 split at x
 ·split at x
  ·rename_i xs b _ ys a
   exact ⟨xs,ys,b,a,x.both.1,x.both.2⟩
  ·exact x.elim
 ·exact x.elim
def Zj{l:List (Nat × Nat)}: ∀ {k i j:Nat},(Cr l k i).isSome=(Cr l k j).isSome:=by
 induction l with
 | nil=>intros;rfl
 | cons x xs ih=>
  obtain ⟨a,b⟩:=x
  intro k i j
  unfold Cr
  cases aI k a with
  | true=>rfl
  | false=>exact ih
def Good.head{cfg:Cfg}{h0:aH}{W0:aF}{ann:Ann}{st0:VS}(g:aL n h0 W0 st h a W)(hok:Nq cfg ann st0=true)(ag:Agree (some ann.lim) st0 st)(g0:∀ i k off,st0.env i= .own k off->(st0.own k).isSome=true)(hn:cfg.n=n)
 {xs ys:List aC} (hx:Bl st ann.slots=some xs) (hy:Ly st ann.owns=some ys):aL n h0 W0 (Bk ann st0 (xs++ys)) h a W:=by
 obtain ⟨θ,r,f,F⟩:=g
 simp only [Nq,aE,aJ] at hok
 obtain ⟨⟨⟨⟨L,E⟩,N⟩,M⟩,_⟩:=hok
 have s:=Qp hx
 have l:∀ i,(∃ v,(Bk ann st0 (xs++ys)).env i= .val v/\st.env i= .val v)\/((Bk ann st0 (xs++ys)).env i= .any/\has ann.lim.slots i=true)\/((Bk ann st0 (xs++ys)).env i=st.env i/\st.env i=st0.env i):=by
  intro i
  show (∃ v,(match A1y ann.slots i 0 with
   | some j=>AVal.val ((xs++ys).getD j undef)
   | none=>bif has ann.lim.slots i then .any else st0.env i)=_/\_)\/(_=_/\_)\/(_=_/\_)
  simp only [Bk]
  cases hp:A1y ann.slots i 0 with
  | some p=>
   obtain ⟨q,A,D⟩:=Ua hp
   obtain ⟨v,C,H⟩:=A2a hx D
   refine .inl ⟨v,?_,H⟩
   have x:q<xs.length:=(List.getElem?_eq_some_iff.1 C).1
   have:p=q:=by omega
   subst this
   simp [aO,List.getElem?_append_left x,C]
  | none=>
   cases hh:has ann.lim.slots i with
   | true=>exact .inr (.inl ⟨rfl,rfl⟩)
   | false=>exact .inr (.inr ⟨(ag.env i hh).symm,ag.env i hh⟩)
 have c:∀ k d,(Bk ann st0 (xs++ys)).own k=some d->st.own k=some d:=by
  intro k d e
  simp only [Bk] at e
  cases hp:Cr ann.owns k ann.slots.length with
  | some p=>
   obtain ⟨p,m⟩:=p
   rw [hp] at e
   obtain ⟨q,A,G⟩:=A53 hy hp
   injection e with e
   rw [G,<- e,A,<- s,aM]
  | none=>
   rw [hp] at e
   have e:st0.own k=some d:=e
   cases hh:has ann.lim.keys k with
   | false=>rw [ag.own k hh];exact e
   | true=>
    have:=(E k (U5.1 hh)).2
    rw [e,Zj (j:=ann.slots.length),hp] at this
    cases this
 refine ⟨θ,⟨r.defers,r.size,fun i u=>?_,r.sim,fun k d e=>r.own k d (c k d e),fun k B y w e=>?_,fun i k off e=>?_,fun i u=>?_⟩,f,fun k y=>?_⟩
 ·rcases l i with ⟨v,b,o⟩|⟨b,_⟩|⟨b,_⟩
  ·rw [b];have:=r.slot i u;rw [o] at this;exact this
  ·rw [b];trivial
  ·rw [b];exact r.slot i u
 ·obtain ⟨d,b⟩:=Option.isSome_iff_exists.1 y
  obtain ⟨z,o⟩:=Option.isSome_iff_exists.1 w
  exact r.inj k B (by rw [c k d b];rfl) (by rw [c B z o];rfl) e
 ·rcases l i with ⟨v,b,_⟩|⟨b,_⟩|⟨b,o⟩
  ·rw [b] at e;cases e
  ·rw [b] at e;cases e
  ·have J:=g0 i k off (by rw [<- o,<- b,e])
   simp only [Bk]
   cases hp:Cr ann.owns k ann.slots.length with
   | some p=>rfl
   | none=>exact J
 ·rcases l i with ⟨v,b,o⟩|⟨b,o⟩|⟨b,o⟩
  ·have:=r.out i u;rw [b];rw [o] at this;exact this
  ·have:=L i (U5.1 o)
   simp only [Zo,aE] at this
   have:=Nat.le_of_ble_eq_true this.1
   omega
  ·rw [b];exact r.out i u
 ·obtain ⟨d,b⟩:=Option.isSome_iff_exists.1 y
  exact F k (by rw [c k d b];rfl)
def Agree.within{cfg:Cfg}{ann:Ann}{st0 st':VS}(hok:Nq cfg ann st0=true){s:VS}(x:Agree (some ann.lim) s st'):Agree cfg.lim s st':=by
 simp only [Nq,aE,aJ] at hok
 obtain ⟨⟨⟨⟨d,c⟩,_⟩,_⟩,_⟩:=hok
 refine ⟨fun i a=>x.env i ?_,fun k b=>x.own k ?_⟩
 ·cases hh:has ann.lim.slots i with
  | false=>exact hh
  | true=>
   have:=d i (U5.1 hh)
   simp only [Zo,aE] at this
   rw [this.2] at a;cases a
 ·cases hh:has ann.lim.keys k with
  | false=>exact hh
  | true=>have:=(c k (U5.1 hh)).1;rw [this] at b;cases b
def Agree.head{ann:Ann}{cfg:Cfg}{st0:VS}(hok:Nq cfg ann st0=true)(vs:List aC):Agree (some ann.lim) st0 (Bk ann st0 vs):=by
 simp only [Nq,aE,aJ] at hok
 obtain ⟨⟨⟨⟨w,u⟩,s⟩,o⟩,_⟩:=hok
 refine ⟨fun i a=>?_,fun k b=>?_⟩
 ·have a:has ann.lim.slots i=false:=a
  simp only [Bk]
  cases hp:A1y ann.slots i 0 with
  | some p=>
   obtain ⟨q,_,g⟩:=Ua hp
   have:=s i (List.mem_of_getElem? g)
   rw [this] at a;cases a
  | none=>simp [a]
 ·have b:has ann.lim.keys k=false:=b
  simp only [Bk]
  cases hp:Cr ann.owns k ann.slots.length with
  | none=>rfl
  | some p=>
   exfalso
   have d:∀ {l:List (Nat × Nat)} {j:Nat} {p:Nat × Nat},Cr l k j=some p->∃ m,(k,m)∈l:=by
    intro l
    induction l with
    | nil=>intro j p e;cases e
    | cons x xs ih=>
     obtain ⟨n,r⟩:=x
     intro j p e
     unfold Cr at e
     cases hb:aI k n with
     | true=>have:=aG hb;subst this;exact ⟨r,by simp⟩
     | false=>rw [hb] at e;obtain ⟨m,c⟩:=ih e;exact ⟨m,by simp [c]⟩
   obtain ⟨m,c⟩:=d hp
   have:=o (k,m) c
   rw [this] at b;cases b
def Vp{α:Type}{c:Code}{Q:Exit->Act->aF->Prop}(I:α->Act->aF->Prop)(μ:α->Nat)(z0:α)(h₀:I z0 a W)
 (round:∀ z a w,I z a w->c.wpIn F fu P (Exit.then (fun a' w'=>∃ z',I z' a' w'/\μ z'<μ z) Q) a w):(Code.loop c).wpIn F fu P Q a W:=by
 intro b k r o q p
 have key:∀ m z a w,μ z=m->I z a w->∃ e a' w',Q e a' w'/\ArrivesIn (Machine.fenced P F) P (lone (b.atR a (.code c :: .inLoop c::k)) r w) b k r e a' w':=by
  intro m
  induction m using Nat.strongRecOn with
  | _ m ih=>
   intro z a w B A
   obtain ⟨e,a₁,w₁,g,d⟩:=round z a w A b (.inLoop c::k) r o q p
   cases e with
   | normal=>
    obtain ⟨z',s,u⟩:=g
    obtain ⟨e,a',w',y,i⟩:=ih _ (by omega) z' a₁ w₁ rfl s
    exact ⟨e,a',w',y,.of_steps (StepsIn.trans d (.one (fenced_calm q p rfl) stepR_inLoop)) i⟩
   | exit id=>exact ⟨_,a₁,w₁,g,.pass (x:=.inLoop c) rfl (fun _ _=>.inl (by simp)) d⟩
   | goto l=>exact ⟨_,a₁,w₁,g,.pass (x:=.inLoop c) rfl (fun _ _=>.inl (by simp)) d⟩
   | ret=>exact ⟨_,a₁,w₁,g,.pass (x:=.inLoop c) rfl (fun _ _=>.inl (by simp)) d⟩
   | panic ch=>exact ⟨_,a₁,w₁,g,.pass (x:=.inLoop c) rfl (fun _ _=>.inl (by simp)) d⟩
   | outgrown=>exact ⟨_,a₁,w₁,g,.pass (x:=.inLoop c) rfl (fun _ _=>.inl (by simp)) d⟩
 obtain ⟨e,a',w',g,d⟩:=key _ z0 a W rfl h₀
 exact ⟨e,a',w',g,.of_steps (.one (fenced_calm q p rfl) stepR_loop) d⟩
def Ex.toExit:Ex->Exit
 | .normal=>.normal
 | .exit id=>.exit id
 | .ret=>.ret
def Good.wf{h0:aH}{W0:aF}(g:aL n h0 W0 st h a W):∀ i k off,st.env i= .own k off->(st.own k).isSome=true:=by
 obtain ⟨θ,r,_,_⟩:=g;exact r.wf
def Ty:∀ (ps:List Nat) (vs:List aC) (st:VS),(putAll st ps vs).own=st.own
 | [],_,_=>rfl
 | _::_,[],_=>rfl
 | t::ts,v::vs,st=>by rw [putAll,Ty ts vs];rfl
def Rel.putAll{θ:Nat->Nat}: ∀ (ps:List Nat) (vs:List aC) (st:VS) (a:Act),Rel s0 n θ st h a W->(∀ t∈ps,t<n)->Rel s0 n θ (putAll st ps vs) h { a with tmps:=(ps.zip vs).foldl (fun tmps (t,v)=>tmps.setIfInBounds t v) a.tmps } W
 | [],_,_,_,r,_=>r
 | _::_,[],_,_,r,_=>r
 | t::ts,v::vs,st,a,r,hp=>by
  have:=Rel.putAll ts vs (st.put t (.val v)) (a.put (some t) v) (r.put (hp t (by simp)) (v:=.val v) rfl (fun _ _ e=>by cases e)) (fun b c=>hp b (by simp [c]))
  exact this
def Good.round{h0:aH}{W0:aF}(g:aL n h0 W0 st h a W){ps:List Nat}(hps:∀ t∈ps,t<n){vs:List aC}{h1:aH}{W1:aF}(hs:Sim h1 W1):
 aL n h1 W1 (Wa st ps vs) h1 { tmps:=(ps.zip vs).foldl (fun tmps (t,v)=>tmps.setIfInBounds t v) a.tmps,defers:=[] } W1:=by
 obtain ⟨θ,r,_,_⟩:=g
 have j:Rel W1.heap.size n θ { env:=fun i=>B1i (st.env i),own:=fun _=>none } h1 { tmps:=a.tmps,defers:=[] } W1:=by
  refine ⟨MarksOk.nil,r.size,fun i c=>?_,hs,(fun k m e=>by cases e),(fun k l e=>by cases e),fun i k b e=>?_,fun i c=>?_⟩
  ·have:=r.slot i c
   show rel θ (B1i (st.env i)) _
   cases hx:st.env i with
   | own k b=>trivial
   | val v=>rw [hx] at this;exact this
   | any=>trivial
  ·exfalso
   simp only at e
   cases hx:st.env i<;>rw [hx] at e<;>cases e
  ·show B1i (st.env i)=_
   rw [r.out i c];rfl
 refine ⟨θ,j.putAll ps vs _ _ hps,Fr.refl hs,fun k d=>?_⟩
 unfold Wa at d
 rw [Ty] at d;cases d
def Dp{l:Nat}{rec:Loop}(e:W.heap[l]? = some (.loop rec)):(Instr.getLoop l).run P W= .ok rec W:=by
 simp [Instr.getLoop,getObj,Sem.run_bind,Sem.run,e]
def World.setO(W:aF)(l:Nat)(o:Obj):aF:={ W with heap:=W.heap.setIfInBounds l o }
def Gw{l:Nat}{o o':Obj}(e:W.heap[l]? = some o')(hc:∀ c t f,o' ≠ .cells c t f):(setObj l o).run P W= .ok () (World.setO W l o):=by
 cases o' with
 | cells c t f=>exact absurd rfl (hc c t f)
 | _=>simp [setObj,Sem.run,e,World.setO]
def Jn{l:Nat}{o o':Obj}(e:W.heap[l]? = some o'):(World.setO W l o).heap[l]? = some o:=by
 have:=Ct e
 simp [World.setO,this]
def G8{l b:Nat}{o:Obj}(hb:b≠l):(World.setO W l o).heap[b]? = W.heap[b]? :=by
 simp [World.setO,Ne.symm hb]
def Good.setLoop{h0:aH}{W2 W3:aF}{l:Nat}{rec rec':Loop}(g:aL n h0 W2 st h a W3)(hl:h0 l=none)(hs:l<W2.heap.size)(e:W3.heap[l]? = some (.loop rec)):aL n h0 (World.setO W2 l (.loop rec')) st h a (World.setO W3 l (.loop rec')):=by
 obtain ⟨θ,r,i,y⟩:=g
 have m:h l=none:=by
  cases x:h l with
  | none=>rfl
  | some o=>have:=i.new l o hl x;omega
 have j:∀ (W:aF) (o:Obj),(World.setO W l o).heap.size=W.heap.size:=fun W o=>by simp [World.setO]
 refine ⟨θ,⟨?_,r.size,r.slot,fun b o d=>?_,fun k B F=>?_,r.inj,r.wf,r.out⟩,⟨fun b o d=>?_,i.os,i.tape,i.output,by rw [j,j];exact i.size,fun b p d=>?_,fun b o G z=>by rw [j];exact i.new b o G z⟩,fun k J=>by rw [j];exact y k J⟩
 ·obtain ⟨H,D,C,E⟩:=r.defers
  refine ⟨H,D,C,fun q w=>?_⟩
  obtain ⟨M,A,s⟩:=E q w
  have c:q≠l:=by rintro rfl;rw [e] at s;cases s
  exact ⟨by rw [j];exact M,A,by rw [G8 c];exact s⟩
 ·have c:b≠l:=by rintro rfl;rw [m] at d;cases d
  rw [G8 c];exact r.sim b o d
 ·obtain ⟨t,u,L⟩:=r.own k B F
  have c:θ k≠l:=by intro x;rw [x,e] at u;cases u
  exact ⟨t,by rw [G8 c];exact u,L⟩
 ·have c:b≠l:=by rintro rfl;rw [m] at d;cases d
  rw [G8 c];exact i.sim b o d
 ·rw [j] at p
  by_cases c:b=l
  ·subst c
   rw [Jn e,Jn (o':=W2.heap[b]) (Array.getElem?_eq_getElem p)]
  ·rw [G8 c,G8 c];exact i.keep b p d
def A1v{h0:aH}{W0:aF}{x:Operand}{ps:Array Tmp}{asg body:Code}{v:aC}{zs:List aC}{B:List aC->aH->(aH->Prop)->Prop}{K:aH->Prop}{Q':Exit->Act->aF->Prop}
 (g:aL n h0 W0 st h a W) (hev:C7 st x= .val v) (hlen:zs.length=ps.size) (hps:∀ t∈ps.toList,t<n)
 (hv:B3z P v h (fun args h1 J=>exL zs fun vs=>args=vs/\B vs h1 J) K)
 (hQ:∀ (l:Nat) vs h1 J a1 W1,B vs h1 J->aL n h1 W1 (Wa st ps.toList vs) h1 a1 W1->∃ K2:VS->aH->Prop,
  (∀ fu' (Q2:Exit->Act->aF->Prop),(∀ st' h' a' W',K2 st' h'->aL n h1 W1 st' h' a' W'->Q2 .normal a' W')->asg.wpIn (Fence.wide.inRound l) fu' P Q2 a1 W1)/\
  ∀ W1' st1 h2 a2 W2 fu' (Q2:Exit->Act->aF->Prop),K2 st1 h2->aL n h1 W1' st1 h2 a2 W2->(∀ st' h' a' W',J h'->aL n h1 W1' st' h' a' W'->Q2 .normal a' W')->body.wpIn (Fence.wide.inRound l) fu' P Q2 a2 W2)
 (hK:∀ h' a' W',K h'->aL n h0 W0 st h' a' W'->Q' .normal a' W'):(Code.rangeFunc x ps asg body).wpIn Fence.wide fu P Q' a W:=by
 obtain ⟨f,first,k,rfl,E,hv⟩:=hv
 obtain ⟨θ,r,fr,ad⟩:=id g
 refine wpIn_rangeFunc fun fn _=>?_
 generalize hrec:({ state:=.ready,pending:=none,fn:=fn,tmps:=a.tmps,params:=ps,assign:=asg,body:=body,defers:=W.heap.size }:Loop)=rec
 generalize hl:W.heap.size+1=l
 generalize hW1:({ W with heap:=(W.heap.push (.deferred (some []))).push (.loop rec) }:aF)=W1
 have ah:W1.heap.size=W.heap.size+2:=by rw [<- hW1];simp
 have ag:W1.heap[l]? = some (.loop rec):=by
  rw [<- hW1,<- hl]
  simp only [aK,Array.size_push]
  simp
 have R:W1.heap[W.heap.size]? = some (.deferred (some [])):=by rw [<- hW1];simp [aK]
 have A:∀ b,b<W.heap.size->W1.heap[b]? = W.heap[b]? :=by
  intro b u
  rw [<- hW1]
  simp only [aK,Array.size_push]
  rw [iN (by omega),iN (by omega)]
 have s:∀ b,W.heap.size<=b->h b=none:=by
  intro b u
  cases e:h b with
  | none=>rfl
  | some o=>have:=Ct (r.sim b o e);omega
 have Q:Sim (h.put l (.loop rec)) W1:=by
  intro b o e
  by_cases u:b=l
  ·subst u;rw [B8] at e;cases e;exact ag
  ·rw [B6 _ _ u] at e
   have h1:=r.sim b o e
   rw [A b (Ct h1)];exact h1
 refine ⟨l,[{ target:=.collected W.heap.size,args:=#[] }],W1,{ target:=.fn (.func f) k,args:=first ++ #[.func (.yield l) #[] #[]] },W1,f,first ++ #[.func (.yield l) #[] #[]]++k,W1,?_,?_,fun _ _=>trivial,?_,(fun e=>by cases e),?_⟩
 ·rw [<- hW1,<- hl,<- hrec]
  simp [Instr.enterLoop,newObj,Sem.run_bind,Sem.run,Fence.wide]
  rfl
 ·have ec:a.eval (.const (.func (.yield l) #[] #[]))= .func (.yield l) #[] #[]:=rfl
  simp [resolve,r.evalVal hev,Deferred.ofValue,ec]
 ·simp [invoke,E]
 ·refine callsIn_wide.2 ((hv l rec (s l (by omega)) ?_ W1 Q).mono ?_)
  ·
   intro args h1 J z u W2 O
   obtain ⟨vs,rfl,H,u⟩:∃ vs,args=vs/\vs.length=zs.length/\B vs h1 J:=by
    obtain ⟨vs,H,e,u⟩:=exL.out u
    exact ⟨vs,e,H,u⟩
   have y:W2.heap[l]? = some (.loop rec):=O l _ (B8 h1 l _)
   have G:=Ct y
   refine ⟨fn,(ps.zip args.toArray).foldl (fun tmps (t,v)=>tmps.setIfInBounds t v) a.tmps,asg,body,?_,fun m=>?_⟩
   ·unfold Instr.yield
    simp only [Sem.run_bind,Dp y,aD]
    rw [<- hrec]
    simp [H,hlen]
   ·have M:Sim h1 W2:=by
     intro b o e
     have d:b≠l:=by rintro rfl;rw [z] at e;cases e
     exact O b o (by rw [B6 _ _ d];exact e)
    have hz:(ps.zip args.toArray).foldl (fun tmps (t,v)=>tmps.setIfInBounds t v) a.tmps=(ps.toList.zip args).foldl (fun tmps (t,v)=>tmps.setIfInBounds t v) a.tmps:=by
     rw [<- Array.foldl_toList];simp
    have gr:=g.round hps (vs:=args) M
    obtain ⟨K2,aa,ac⟩:=hQ l args h1 J _ _ u gr
    rw [hz]
    refine roundIn_of_wpIn (F:=Fence.wide) trivial (aa m _ ?_)
    intro st1 h2 a2 W3 af g2
    have i:W3.heap[l]? = some (.loop rec):=by
     obtain ⟨_,_,ae,_⟩:=g2
     rw [ae.keep l G z];exact y
    refine ⟨World.setO W3 l (.loop { rec with state:=.busy }),?_,?_⟩
    ·unfold Instr.beginRound
     simp only [Sem.run_bind,Dp i,aD,Gw i (by intro c t f h;cases h)]
     rw [<- hrec]
     rfl
    ·refine ac (World.setO W2 l (.loop { rec with state:=.busy })) st1 h2 a2 _ m _ af (g2.setLoop z G i) ?_
     intro st' h' a' W' hJ g'
     obtain ⟨θ',r',p,_⟩:=g'
     have D:W'.heap[l]? = some (.loop { rec with state:=.busy }):=by
      rw [p.keep l (by simpa [World.setO] using G) z]
      exact Jn y
     have Z:h' l=none:=by
      cases e:h' l with
      | none=>rfl
      | some o=>have:=p.new l o z e;simp [World.setO] at this;omega
     refine ⟨.bool true,World.setO W' l (.loop rec),?_,.bool true,h'.put l (.loop rec),rfl,⟨rfl,h',Z,rfl,hJ⟩,?_⟩
     ·unfold Instr.endRound
      simp only [Sem.run_bind,Dp D,aD,Gw D (by intro c t f h;cases h)]
      rw [<- hrec]
      rfl
     ·refine ⟨fun b o e=>?_,p.os,p.tape,p.output,?_,fun b u e=>?_,fun b o e L=>?_⟩
      ·by_cases u:b=l
       ·subst u;rw [B8] at e;cases e;exact Jn D
       ·rw [B6 _ _ u] at e
        rw [G8 u];exact p.sim b o e
      ·have:=p.size;simpa [World.setO] using this
      ·have d:b≠l:=by rintro rfl;rw [B8] at e;cases e
       rw [B6 _ _ d] at e
       rw [G8 d,p.keep b (by simpa [World.setO] using u) e,G8 d]
      ·have d:b≠l:=by rintro rfl;rw [B8] at e;cases e
       rw [B6 _ _ d] at e L
       have:=p.new b o e L
       simpa [World.setO] using this
  ·rintro e W3 ⟨rv,h2,rfl,⟨S,N,rfl,V⟩,j⟩
   have i:W3.heap[l]? = some (.loop rec):=j.sim l _ (B8 S l _)
   have C:Fr h W S (World.setO W3 l (.loop { rec with state:=.exhausted })):=by
    have e1:W1.os=W.os/\W1.tape=W.tape/\W1.output=W.output:=by rw [<- hW1];exact ⟨rfl,rfl,rfl⟩
    refine ⟨fun b o e=>?_,j.os.trans e1.1,j.tape.trans e1.2.1,j.output.trans e1.2.2,?_,fun b u e=>?_,fun b o e L=>?_⟩
    ·have d:b≠l:=by rintro rfl;rw [N] at e;cases e
     rw [G8 d]
     exact j.sim b o (by rw [B6 _ _ d];exact e)
    ·have:=j.size
     simp [World.setO];omega
    ·have d:b≠l:=by omega
     rw [G8 d,j.keep b (by omega) (by rw [B6 _ _ d];exact e),A b u]
    ·have d:b≠l:=by rintro rfl;rw [N] at L;cases L
     have:=j.new b o (by rw [B6 _ _ d];exact e) (by rw [B6 _ _ d];exact L)
     omega
   refine ⟨none,World.setO W3 l (.loop { rec with state:=.exhausted }),?_,hK S _ _ V ⟨θ,?_,fr.trans C,ad⟩⟩
   ·unfold Instr.endLoop
    simp only [Sem.run_bind,Dp i,aD]
    rw [<- hrec] at i ⊢
    simp [Gw i (by intro c t f h;cases h)]
   ·have w:=r.world C
    refine ⟨?_,w.size,w.slot,w.sim,w.own,w.inj,w.wf,w.out⟩
    obtain ⟨rs,n1,n2,n3⟩:=w.defers
    obtain ⟨X,m1,m2,m3⟩:=r.defers
    have ab:rs=X:=by
     have:=n2.symm.trans m2
     exact (List.map_inj_right (fun a b e=>by injection e)).1 this
    subst ab
    refine ⟨W.heap.size::rs,List.nodup_cons.2 ⟨fun hm=>?_,n1⟩,by simp [n2],fun q T=>?_⟩
    ·have:=Ct (m3 _ hm).2.2;omega
    ·rcases List.mem_cons.1 T with rfl|T
     ·refine ⟨fr.size,?_,?_⟩
      ·cases e:S W.heap.size with
       | none=>rfl
       | some o=>
        have:=C.new _ o (s _ (Nat.le_refl _)) e
        have h4:=j.new W.heap.size o (by rw [B6 _ _ (by omega)];exact s _ (Nat.le_refl _)) (by rw [B6 _ _ (by omega)];exact e)
        omega
      ·rw [G8 (by omega),j.keep _ (by omega) (by rw [B6 _ _ (by omega)];exact s _ (Nat.le_refl _))]
       exact R
     ·exact n3 q T
def C1m(Q:Exit->Act->aF->Prop):Exit->Act->aF->Prop
 | .goto _,_,_=>False
 | e,a,w=>Q e a w
def T9{b:Frame}{k:List Item}{cs:List Frame}{w:aF}{c:Code}:step P (lone (b.atR a (.code (.scope c)::k)) cs w)= .next (lone (b.atR a (.code c :: .inScope c::k)) cs w):=
 step_lone_go (by simp [stepG,stepG.exec,Frame.atR])
def Vy{b:Frame}{k:List Item}{cs:List Frame}{w:aF}{c:Code}:step P (lone (b.atR a (.inScope c::k)) cs w)= .next (lone (b.atR a k) cs w):=
 step_lone_go (by simp [stepG,stepG.exec,Frame.atR])
def A19{c:Code}{Q:Exit->Act->aF->Prop}(h:c.wpIn F fu P (C1m Q) a W):(Code.scope c).wpIn F fu P Q a W:=by
 intro b k u n p o
 have i:(lone (b.atR a (.code (.scope c)::k)) u W).fenced P F:=fenced_calm p o rfl
 obtain ⟨e,a₁,w₁,g,d⟩:=h b (.inScope c::k) u n p o
 cases e with
 | normal=>exact ⟨.normal,a₁,w₁,g,.head i T9 (StepsIn.trans d (.one (fenced_calm p o rfl) Vy))⟩
 | exit id'=>
  have s:exitTo id' (.inScope c::k)=exitTo id' k:=by simp [exitTo]
  exact ⟨.exit id',a₁,w₁,g,fun w q=>.head i T9 (d.1 w (by rw [s];exact q)),
   fun r q=>let ⟨k₁,h1,h2⟩:=d.2 r (by rw [s];exact q);⟨k₁,h1,.head i T9 h2⟩⟩
 | goto l=>exact g.elim
 | ret=>exact ⟨_,a₁,w₁,g,.of_steps (.one i T9) d⟩
 | panic ch=>exact ⟨_,a₁,w₁,g,.of_steps (.one i T9) d⟩
 | outgrown=>exact ⟨_,a₁,w₁,g,.of_steps (.one i T9) d⟩
def A59{fa:FnAnn}(c:Code):∀ {F:Fence} [FOk F] {fu:Nat} {h0:aH} {W0:aF} (cfg:Cfg) (st:VS) (h:aH) (a:Act) (W:aF) (Q:Ex->VS->aH->Prop) (Q':Exit->Act->aF->Prop),cfg.n=n->Bodies P cfg.fns->(cfg.inr=false->F=Fence.wide)->aL n h0 W0 st h a W->
 P8 P fa c cfg st h Q->(∀ e st' h' a' W',Q e st' h'->aL n h0 W0 st' h' a' W'->Agree cfg.lim st st'->Q' e.toExit a' W')->c.wpIn F fu P Q' a W:=by
 induction c with
 | skip=>exact fun {F} _ {fu h0 W0} cfg st h a W Q Q' q s w g d m=>wpIn_skip (m .normal st h a W d g (Agree.refl _ _))
 | region id ops draw=>
  intro F _ fu h0 W0 cfg st h a W Q Q' q s w g d m
  unfold P8 at d
  cases draw with
  | false=>exact wpIn_region (B2w q s _ st h a W g d fun st' h' a' W' i p u=>m .normal st' h' a' W' i p u)
  | true=>
   obtain ⟨o,d⟩:=d.both
   exact A54 q s o g d fun st' h' a' W' i p u=>m .normal st' h' a' W' i p u
 | seq x y ihx ihy=>
  intro F _ fu h0 W0 cfg st h a W Q Q' q s w g d m
  unfold P8 at d
  split at d
  ·refine wpIn_seq (ihx cfg st h a W _ _ q s w g d fun e st' h' a' W' i p u=>?_)
   cases e with
   | normal=>exact ihy cfg st' h' a' W' Q Q' q s w p i fun e E B O W2 k S D=>m e E B O W2 k S (u.trans D)
   | exit id=>exact m (.exit id) st' h' a' W' i p u
   | ret=>exact m .ret st' h' a' W' i p u
  ·rename_i A _
   obtain ⟨o,J,ak,ab⟩:=d.both
   refine wpIn_seq (ihx (cfg.within A) st h a W _ _ q s w g ak fun e st' h' a' W' i p u=>?_)
   cases e with
   | normal=>
    obtain ⟨xs,ys,hx,hy,R,hJ⟩:=i.out
    obtain ⟨V,Z⟩:=Qk R
    have C:=allL.at ab V Z h' hJ
    exact ihy cfg _ h' a' W' Q Q' q s w (p.head o u g.wf q hx hy) C fun e E B O W2 k S D=>m e E B O W2 k S (((Agree.head o _).within o).trans D)
   | exit id=>exact m (.exit id) st' h' a' W' i p (u.within o)
   | ret=>exact m .ret st' h' a' W' i p (u.within o)
 | cond c x y ihx ihy=>
  intro F _ fu h0 W0 cfg st h a W Q Q' q s w g d m
  unfold P8 at d
  split at d
  ·rename_i b C
   obtain ⟨θ,r,_,_⟩:=id g
   cases b with
   | true=>exact wpIn_cond_true (r.evalVal C) (ihx cfg st h a W Q Q' q s w g d m)
   | false=>exact wpIn_cond_false (r.evalVal C) (ihy cfg st h a W Q Q' q s w g d m)
  ·exact d.elim
 | block id b ih=>
  intro F _ fu h0 W0 cfg st h a W Q Q' q s w g d m
  unfold P8 at d
  refine wpIn_block (ih cfg st h a W _ _ q s w g d fun e st' h' a' W' i p u=>?_)
  cases e with
  | normal=>exact m .normal st' h' a' W' i p u
  | ret=>exact m .ret st' h' a' W' i p u
  | exit j=>
   by_cases X:j=id
   ·subst X
    have i:Q .normal st' h':=by simpa using i
    show Exit.inBlock j Q' (.exit j) a' W'
    simp only [Exit.inBlock,if_true]
    exact m .normal st' h' a' W' i p u
   ·have i:Q (.exit j) st' h':=by simpa [Bu X] using i
    show Exit.inBlock id Q' (.exit j) a' W'
    simp only [Exit.inBlock,X,if_false]
    exact m (.exit j) st' h' a' W' i p u
 | loop b ih=>
  intro F _ fu h0 W0 cfg st h a W Q Q' q s w g d m
  unfold P8 at d
  split at d
  ·exact d.elim
  ·rename_i A _
   obtain ⟨o,Inv,μ,h1,B⟩:=d.both
   obtain ⟨xs,ys,hx,hy,R,hI⟩:=h1.out
   have M:=g.wf
   refine Vp (fun (z:List aC × aH) a' W'=>Lx A.zs z.1=true/\Inv z.1 z.2/\aL n h0 W0 (Bk A st z.1) z.2 a' W') (fun z=>μ z.1 z.2) (xs++ys,h) ⟨R,hI,g.head o (Agree.refl _ _) M q hx hy⟩ ?_
   intro z a1 W1 ⟨hk1,hI1,g1⟩
   obtain ⟨V,Z⟩:=Qk hk1
   have C:=allL.at B V Z z.2 hI1
   refine ih (cfg.within A) _ z.2 a1 W1 _ _ q s w g1 C fun e st' h' a' W' i p u=>?_
   have G:Agree (some A.lim) st st':=(Agree.head o _).trans u
   cases e with
   | normal=>
    obtain ⟨ad,af,ah,ai,ac,ae,hμ⟩:=i.out
    exact ⟨(ad++af,h'),⟨ac,ae,p.head o G M q ah ai⟩,hμ⟩
   | exit id=>exact m (.exit id) st' h' a' W' i p (G.within o)
   | ret=>exact m .ret st' h' a' W' i p (G.within o)
 | exit id=>exact fun {F} _ {fu h0 W0} cfg st h a W Q Q' q s w g d m=>wpIn_exit (m (.exit id) st h a W d g (Agree.refl _ _))
 | ret=>exact fun {F} _ {fu h0 W0} cfg st h a W Q Q' q s w g d m=>wpIn_ret (m .ret st h a W d g (Agree.refl _ _))
 | rangeFunc x ps asg body iha ihb=>
  intro F _ fu h0 W0 cfg st h a W Q Q' q s w g d m
  unfold P8 at d
  split at d
  ·rename_i v zs aj am
   obtain ⟨o,d⟩:=d.both
   simp only [aE,Bool.not_eq_true',aJ] at o
   obtain ⟨⟨L,aa⟩,T⟩:=o
   obtain rfl:=w T
   refine A1v g aj (aG L) (fun t ht=>by rw [<- q];exact Nat.le_of_ble_eq_true (aa t ht)) d ?_ (fun h' a' W' i p=>m .normal st h' a' W' i p (Agree.refl _ _))
   intro l vs h1 J a1 W1 C g1
   refine ⟨fun N B=>P8 P fa body { cfg with lim:=none,inr:=true } N B fun e _ h3=>
     match e with
     | .normal=>J h3
     | _=>False,fun al Q2 H=>?_,fun W1' N B O W2 al Q2 R S H=>?_⟩
   ·refine iha (F:=Fence.wide.inRound l) { cfg with lim:=none,inr:=true } _ h1 a1 W1 _ _ q s (fun e=>by cases e) g1 C fun e st' h' a' W' i p _=>?_
    cases e with
    | normal=>exact H st' h' a' W' i p
    | _=>exact i.elim
   ·refine ihb (F:=Fence.wide.inRound l) { cfg with lim:=none,inr:=true } _ B O W2 _ _ q s (fun e=>by cases e) S R fun e st' h' a' W' i p _=>?_
    cases e with
    | normal=>exact H st' h' a' W' i p
    | _=>exact i.elim
  ·exact d.elim
 | scope b ih=>
  intro F _ fu h0 W0 cfg st h a W Q Q' q s w g d m
  unfold P8 at d
  refine A19 (ih cfg st h a W Q (C1m Q') q s w g d fun e st' h' a' W' i p u=>?_)
  cases e with
  | normal=>exact m .normal st' h' a' W' i p u
  | exit id=>exact m (.exit id) st' h' a' W' i p u
  | ret=>exact m .ret st' h' a' W' i p u
 | label l=>exact fun {F} _ {fu h0 W0} cfg st h a W Q Q' q s w g d m=>wpIn_label (m .normal st h a W d g (Agree.refl _ _))
 | _=>intro F _ fu h0 W0 cfg st h a W Q Q' q s w g d m;exact d.elim
def B3b(args:List aC):VS:={ env:=fun i=>.val (args.getD i undef),own:=fun _=>none }
def A3h(P:aN)(st:VS):ResultVar->Option aC
 | .tmp t=>match st.env t with
  | .val v=>some v
  | _=>none
 | .cell a t=>match st.env a with
  | .own k off=>match st.own k with
   | some cs=>match Kb P t with
    | some true=>bif Nat.ble (off+P.cellsOf t) cs.length then some (.agg ((cs.drop off).take (P.cellsOf t)).toArray) else none
    | some false=>cs[off]?
    | none=>none
   | none=>none
  | _=>none
def Pv(P:aN)(st:VS):List ResultVar->Option (List aC)
 | []=>some []
 | r::rs=>match A3h P st r with
  | some v=>match Pv P st rs with
   | some vs=>some (v::vs)
   | none=>none
  | none=>none
def A1g:List aC->aC
 | [v]=>v
 | vs=>.tuple vs.toArray
def A1q(P:aN)(rs:List ResultVar)(K:VP)(e:Ex)(st:VS)(h:aH):Prop:=
 match e with
 | .exit _=>False
 | _=>match Pv P st rs with
  | some vs=>K (A1g vs) h
  | none=>False
def B9x(P:aN)(fa:FnAnn)(cfg:Cfg)(rs:List ResultVar)(c:Code)(args:List aC)(h:aH)(K:VP):Prop:=
 P8 P fa c cfg (B3b args) h (A1q P rs K)
def A4q{θ:Nat->Nat}(r:Rel s0 n θ st h a W){rv:ResultVar}{v:aC}(e:A3h P st rv=some v):
 (match rv with
  | .tmp t=>(pure (a.tmps.getD t undef):Sem aC)
  | .cell x t=>do loadVar t (<- asAddr (a.tmps.getD x undef))).run P W= .ok v W:=by
 cases rv with
 | tmp t=>
  simp only [A3h] at e
  have:=r.slot' t
  split at e
  ·rename_i u d
   injection e with e;subst e
   rw [d] at this
   have this:a.tmps.getD t undef=u:=this
   simp [this]
  ·cases e
 | cell x t=>
  simp only [A3h] at e
  have g:=r.slot' x
  split at e
  ·rename_i k c o
   rw [o] at g
   have g:a.tmps.getD x undef= .pointer (some ⟨θ k,c,none⟩):=g
   split at e
   ·rename_i l i
    have m:U4 P t l c fun w=>w= .val v:=by
     split at e
     ·rename_i b
      cases hb:Nat.ble (c+P.cellsOf t) l.length with
      | false=>rw [hb] at e;cases e
      | true=>
       rw [hb] at e;injection e with e
       unfold U4;rw [b]
       simp only [Ii b,hb,Bool.and_self]
       show _=_
       rw [e]
     ·rename_i b
      unfold U4;rw [b];simp only [e]
     ·cases e
    obtain ⟨u,d,j⟩:=Jv r i m
    injection d with d;subst d
    simp only [Instr.loadAt,Instr.sureAddr,Sem.run_bind,Sem.run_pure,aD] at j
    simp only [g,asAddr,Sem.run_bind,Sem.run_pure,aD,j]
   ·cases e
  ·cases e
def A1r{θ:Nat->Nat}(r:Rel s0 n θ st h a W)(rs:List ResultVar):∀ {vs:List aC},Pv P st rs=some vs->
 (rs.mapM fun (rv:ResultVar)=>match rv with
  | .tmp t=>(pure (a.tmps.getD t undef):Sem aC)
  | .cell x t=>do loadVar t (<- asAddr (a.tmps.getD x undef))).run P W= .ok vs W:=by
 induction rs with
 | nil=>intro vs e;injection e with e;subst e;simp
 | cons rv rs ih=>
  intro vs e
  unfold Pv at e
  split at e
  ·rename_i v c
   split at e
   ·rename_i d b
    injection e with e;subst e
    rw [List.mapM_cons]
    simp only [Sem.run_bind,A4q r c,aD,ih b,Sem.run_pure]
   ·cases e
  ·cases e
def A3z(fn:Func):Code:=
 match fn.body with
 | some c=>c
 | none=>.skip
def Bodies.nil:Bodies P []:=fun g a=>by cases a
def A0{g:Nat}{l:List Nat}(hg:∀ args W,(callFunc g args).run P W= .ok (.enter g args) W)(hl:Bodies P l):Bodies P (g::l):=fun k a=>by
 cases a with
 | head=>exact hg
 | tail _ a=>exact hl k a
def Oh{r:Nat}(e:W.heap[r]? = some (.deferred (some []))):(Instr.takeDeferred r).run P W= .ok [] (World.setO W r (.deferred none)):=by
 simp [Instr.takeDeferred,getObj,Sem.run_bind,Sem.run,e,Gw e (by intro c t f h;cases h)]
def A7m{fn:Func}{tmps:Array aC}{R:Ending->aF->Prop}: ∀ (ds:List Deferred) (W:aF) (rs:List Nat),rs.Nodup->ds.map (·.target)=rs.map Target.collected->(∀ r∈rs,W.heap[r]? = some (.deferred (some [])))->
 (∀ W2:aF,W2.os=W.os->W2.tape=W.tape->W2.output=W.output->W2.heap.size=W.heap.size->(∀ b,b∉rs->W2.heap[b]? = W.heap[b]?)->∃ v,(results fn tmps).run P W2= .ok v W2/\R (.returned v) W2)->
 LeavesInM Fence.wide 0 P fn tmps R ds .returning W:=by
 intro ds
 induction ds with
 | nil=>
  intro W rs _ e _ x
  exact x W rfl rfl rfl rfl (fun _ _=>rfl)
 | cons d ds ih=>
  intro W rs o e j x
  cases rs with
  | nil=>cases e
  | cons r rs=>
   simp only [List.map_cons,List.cons.injEq] at e
   have m:=j r (by simp)
   obtain ⟨g,a⟩:=List.nodup_cons.1 o
   refine ⟨by simp,.inl ⟨r,_,e.1,Oh m,ih _ rs a e.2 (fun q i=>?_) (fun W2 s n l k p=>x W2 s n l (by rw [k];simp [World.setO]) (fun b c=>?_))⟩⟩
   ·rw [G8 (by rintro rfl;exact g i)];exact j q (by simp [i])
   ·simp only [List.mem_cons,not_or] at c
    rw [p b c.2,G8 c.1]
def B1v{f:FuncId}{fn:Func}(hf:P.funcs[f]? = some fn){c:Code}(hb:fn.body=some c){rs:List ResultVar}(hr:fn.results.toList=rs){fa:FnAnn}{cfg:Cfg}{args:List aC}(hn:cfg.n=args.length+(fn.ntmps-args.length))(hfn:Bodies P cfg.fns){h:aH}{K:VP}
 (hv:B9x P fa cfg rs c args h K):FCall P f args.toArray h K:=by
 intro W J
 subst hr
 have g:aL cfg.n h W (B3b args) h { tmps:=args.toArray++Array.replicate (fn.ntmps-args.toArray.size) undef,defers:=[] } W:=by
  refine ⟨fun _=>0,⟨MarksOk.nil,by simp [hn],fun i D=>?_,J,(fun k H e=>by cases e),(fun k k' E=>by cases E),(fun i k O e=>by cases e),fun i D=>?_⟩,Fr.refl J,(fun k E=>by cases E)⟩
  ·show _=args.getD i undef
   rcases Nat.lt_or_ge i args.length with x|x
   ·simp [Array.getD,x,aO];omega
   ·have:i<args.length+(fn.ntmps-args.length):=by rw [<- hn];exact D
    simp [Array.getD,this,aO,Array.getElem_append,Nat.not_lt.2 x]
  ·show AVal.val (args.getD i undef)=_
   have:args.length<=i:=by rw [hn] at D;omega
   simp [aO,List.getElem?_eq_none this]
 refine callsIn_wide.1 (callsIn_of_wp_marks (n:=0) hf hb trivial (A59 c (F:=Fence.wide) cfg _ h _ W _ _ rfl hfn (fun _=>rfl) g hv fun e z u y W' a Z _=>?_))
 obtain ⟨θ,r,p,_⟩:=Z
 have A:∀ d,Pv P z fn.results.toList=some d->K (A1g d) u->bodyPostM Fence.wide 0 P fn (fun e W'=>∃ r u,e= .returned r/\K r u/\Fr h W u W') .ret y W':=by
  intro d j a
  obtain ⟨rs,S,M,m⟩:=r.defers
  refine A7m y.defers W' rs S M (fun q L=>(m q L).2.2) ?_
  intro W2 R Q N X C
  have B:Fr h W u W2:=by
   refine ⟨fun b o e=>?_,R.trans p.os,Q.trans p.tape,N.trans p.output,by rw [X];exact p.size,fun b hb e=>?_,p.new⟩
   ·rw [C b (fun s=>by rw [(m b s).2.1] at e;cases e)];exact p.sim b o e
   ·rw [C b (fun s=>by have:=(m b s).1;omega)];exact p.keep b hb e
  have V:Rel W.heap.size cfg.n θ z u { y with defers:=[] } W2:=by
   refine ⟨MarksOk.nil,r.size,r.slot,B.sim,fun k H e=>?_,r.inj,r.wf,r.out⟩
   obtain ⟨t,G,T⟩:=r.own k H e
   exact ⟨t,by rw [C _ (fun s=>by rw [(m _ s).2.2] at G;cases G)];exact G,T⟩
  refine ⟨A1g d,?_,_,u,rfl,a,B⟩
  have s:=A1r (P:=P) V fn.results.toList j
  have e:(results fn y.tmps).run P W2=((fn.results.toList.mapM (fun (rv:ResultVar)=>match rv with
   | .tmp t=>(pure (y.tmps.getD t undef):Sem aC)
   | .cell x t=>do loadVar t (<- asAddr (y.tmps.getD x undef)))).run P W2).andThen fun l w=>.ok (if h:l.toArray.size=1 then l.toArray[0] else .tuple l.toArray) w:=by
   unfold results
   rw [Sem.run_bind,Array.mapM_eq_mapM_toList]
   simp only [map_eq_pure_bind,Sem.run_bind]
   generalize Sem.run P _ W2=x
   cases x<;>simp
  rw [e,s,aD]
  cases d with
  | nil=>rfl
  | cons v d=>cases d<;>rfl
 cases e with
 | exit id=>exact a.elim
 | normal=>
  unfold A1q at a
  split at a
  ·exact a.elim
  ·split at a
   ·rename_i d j;exact A d j a
   ·exact a.elim
 | ret=>
  unfold A1q at a
  split at a
  ·exact a.elim
  ·split at a
   ·rename_i d j;exact A d j a
   ·exact a.elim
def C0l{L:List Nat}(hL:Bodies P L){f:FuncId}{fn:Func}(hf:P.funcs[f]? = some fn)(rs:List ResultVar)(fa:FnAnn)(n:Nat)(own fns wr:List Nat){args:List aC}{h:aH}{K:VP}{T:Prop}
 (e:(fn.body.isSome,fn.results.toList,n,fns.all (has L),B9x P fa { n:=n,own:=own,lim:=none,fns:=fns,wr:=wr } rs (A3z fn) args h K)=(true,rs,args.length+(fn.ntmps-args.length),true,T)) (hvc:T):FCall P f args.toArray h K:=by
 simp only [Prod.mk.injEq] at e
 obtain ⟨a,j,i,k,l⟩:=e
 have d:fn.body=some (A3z fn):=by
  unfold A3z
  cases hx:fn.body with
  | none=>rw [hx] at a;cases a
  | some c=>rfl
 exact B1v hf d j i (fun g b=>hL g (U5.1 (List.all_eq_true.1 k g b))) (l.mpr hvc)
end
abbrev I(n:Int):aC:=.int .i64 n
abbrev I32(n:Int):aC:=.int .i32 n
abbrev U(n:Int):aC:=.int .u64 n
abbrev U32(n:Int):aC:=.int .u32 n
abbrev Y(n:Int):aC:=.int .u8 n
abbrev B4(n:Int):Int:=IntKind.i64.wrap n
abbrev C2v(n:Int):Int:=IntKind.i32.wrap n
abbrev C0(n:Int):Int:=IntKind.u64.wrap n
abbrev H4(n:Int):Int:=IntKind.u32.wrap n
abbrev wu8(n:Int):Int:=IntKind.u8.wrap n
def So(k:IntKind)(x y:Int):Int:=k.wrap (BitVec.ofInt k.bits x &&& BitVec.ofInt k.bits y).toNat
def bor(k:IntKind)(x y:Int):Int:=k.wrap (BitVec.ofInt k.bits x ||| BitVec.ofInt k.bits y).toNat
