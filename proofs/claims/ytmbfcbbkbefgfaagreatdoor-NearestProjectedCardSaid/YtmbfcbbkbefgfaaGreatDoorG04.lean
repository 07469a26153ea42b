/- A part. -/
import Derived.Test.YtmbfcbbkbefgfaaGreatDoorG03
set_option linter.all false
open _root_.Array renaming getElem?_push->aK
open Bool renaming and_eq_true->aE
open List renaming all_eq_true->aJ,drop_length_add_append->aM,getD->aO
open Nat renaming eq_of_beq_eq_true->aG,beq->aI
open _root_.Go.Result renaming andThen_ok->aD
open _root_.Go renaming Value->aC,World->aF,Program->aN
open _root_.Go.Proofs.YtmbfcbbkbefgfaaGreatDoor renaming Heap->aH,Good->aL
namespace Go.Proofs.YtmbfcbbkbefgfaaGreatDoor
open Go
inductive Ex where
 | normal
 | exit (id:Nat)
 | ret
structure Ann where
 slots:List Nat
 owns:List (Nat × Nat)
 zs:List aC
 lim:Lim
structure FnAnn where
 loops:List (Nat × Ann):=[]
 cuts:List (Nat × Ann):=[]
 orders:List (Nat × List Nat × List (List Nat)):=[]
 rounds:List (Nat × List aC):=[]
 alts:List (Nat × List (Nat × List Nat)):=[]
def an0:FnAnn:=⟨[],[],[],[],[]⟩
def Mc{α:Type}:List (Nat × α)->Nat->Option α
 | [],_=>none
 | (k,x)::r,i=>bif aI i k then some x else Mc r i
def C6f(l m:List Nat):List Nat:=m.foldr (fun x l=>bif has l x then l else x::l) l
def B51:List Oper->List (List Nat)->List (List Nat)
 | [],acc=>acc
 | o::r,acc=>B51 r (acc++[o.after.toList.foldr (fun e l=>bif Region.binds .any e then C6f l (e.on::acc.getD e.on []) else l) []])
def C6b(fa:FnAnn)(id:Nat)(ops:Array Oper):List Nat × List (List Nat):=
 match Mc fa.orders id with
 | none=>(List.range ops.size,B51 ops.toList [])
 | some (o,[])=>(o,B51 ops.toList [])
 | some (o,a::l)=>(o,a::l)
def M0:Code->Option Nat
 | .region id _ _=>some id
 | .seq a b=>match M0 a with
  | some i=>some i
  | none=>M0 b
 | .block _ b=>M0 b
 | .loop b=>M0 b
 | .scope b=>M0 b
 | .cond _ a b=>match M0 a with
  | some i=>some i
  | none=>M0 b
 | _=>none
def A6j:List Nat->Nat->Nat->Option Nat
 | [],_,_=>none
 | x::xs,i,j=>bif aI i x then some j else A6j xs i (j+1)
def Eu:List (Nat × Nat)->Nat->Nat->Option (Nat × Nat)
 | [],_,_=>none
 | (k,n)::r,i,j=>bif aI i k then some (j,n) else Eu r i (j+n)
def Dj(ann:Ann)(st:VS)(vs:List aC):VS:=
 { env:=fun i=>match A6j ann.slots i 0 with
    | some j=>.val (vs.getD j undef)
    | none=>bif has ann.lim.slots i then .any else st.env i
   own:=fun k=>match Eu ann.owns k ann.slots.length with
    | some (j,n)=>some ((vs.drop j).take n)
    | none=>st.own k }
def Dk(st:VS):List Nat->Option (List aC)
 | []=>some []
 | i::is=>match st.env i with
  | .val v=>match Dk st is with
   | some vs=>some (v::vs)
   | none=>none
  | _=>none
def Qm(st:VS):List (Nat × Nat)->Option (List aC)
 | []=>some []
 | (k,n)::r=>match st.own k with
  | some cs=>bif aI cs.length n then (match Qm st r with
   | some vs=>some (cs++vs)
   | none=>none) else none
  | none=>none
def Ql:List aC->List aC->Bool
 | [],[]=>true
 | z::zs,v::vs=>A3z z v&&Ql zs vs
 | _,_=>false
def keep(ann:Ann)(st:VS)(h:aH)(K:LP):Prop:=
 match Dk st ann.slots with
 | some xs=>match Qm st ann.owns with
  | some ys=>When (Ql ann.zs (xs++ys)) (K (xs++ys) h)
  | none=>False
 | none=>False
def Rr(cfg:Cfg)(ann:Ann)(st:VS):Bool:=
 ann.lim.slots.all (fun d=>A3y cfg d)&&ann.lim.keys.all (fun k=>A40 cfg.lim k&&((st.own k).isNone||(Eu ann.owns k 0).isSome)) &&
 ann.slots.all (has ann.lim.slots)&&ann.owns.all (fun p=>has ann.lim.keys p.1)&&kindsLen ann
where
 kindsLen (ann:Ann):Bool:=aI ann.zs.length (ann.slots.length+ann.owns.foldr (fun p s=>p.2+s) 0)
def Cfg.within(cfg:Cfg)(ann:Ann):Cfg:={ n:=cfg.n,own:=cfg.own,lim:=some ann.lim,fns:=cfg.fns,wr:=cfg.wr,inr:=cfg.inr }
def C3s(ann:Ann)(cfg:Cfg)(body:Cfg->VS->aH->(Ex->VS->aH->Prop)->Prop)(st:VS)(h:aH)(Q:Ex->VS->aH->Prop):Prop:=
 When (Rr cfg ann st) <|
 ∃ (Inv:LP) (μ:LN),keep ann st h Inv/\
  allL ann.zs fun d=>∀ h,Inv d h->body (cfg.within ann) (Dj ann st d) h fun e a c=>
   match e with
   | .normal=>keep ann a c fun b c=>Inv b c/\μ b c<μ d h
   | e=>Q e a c
def C61(ann:Ann)(cfg:Cfg)(a b:Cfg->VS->aH->(Ex->VS->aH->Prop)->Prop)(st:VS)(h:aH)(Q:Ex->VS->aH->Prop):Prop:=
 When (Rr cfg ann st) <|
 ∃ J:LP,(a (cfg.within ann) st h fun e c f=>
    match e with
    | .normal=>keep ann c f J
    | e=>Q e c f)/\
  allL ann.zs fun d=>∀ h,J d h->b cfg (Dj ann st d) h Q
def B7x:AVal->AVal
 | .own _ _=>.any
 | v=>v
def putAll:VS->List Nat->List aC->VS
 | st,t::ts,v::vs=>putAll (st.put t (.val v)) ts vs
 | st,_,_=>st
def A0f(st:VS)(ps:List Nat)(vs:List aC):VS:=putAll { env:=fun i=>B7x (st.env i),own:=fun _=>none } ps vs
def S8(P:aN)(fa:FnAnn):Code->Cfg->VS->aH->(Ex->VS->aH->Prop)->Prop
 | .skip,_,st,h,Q=>Q .normal st h
 | .region id ops draw,cfg,st,h,Q=>
  match draw with
  | false=>B6z P cfg ops false (List.range ops.size) st h (Q .normal)
  | true=>
   match C6b fa id ops with
   | (ord,anc)=>When (B4q P ops ord anc) (Em P cfg ops anc (fun j=>((Mc fa.alts id).bind (fun l=>Mc l j)).getD []) ord.length ord st h (Q .normal))
 | .seq a b,cfg,st,h,Q=>
  match (M0 b).bind (Mc fa.cuts) with
  | none=>S8 P fa a cfg st h fun e st' h'=>
   match e with
   | .normal=>S8 P fa b cfg st' h' Q
   | e=>Q e st' h'
  | some ann=>C61 ann cfg (S8 P fa a) (S8 P fa b) st h Q
 | .cond c t e,cfg,st,h,Q=>
  match D3 st c with
  | .val (.bool b)=>Br b (S8 P fa t cfg st h Q) (S8 P fa e cfg st h Q)
  | _=>False
 | .block id b,cfg,st,h,Q=>S8 P fa b cfg st h fun e st' h'=>
  match e with
  | .exit j=>bif aI j id then Q .normal st' h' else Q (.exit j) st' h'
  | e=>Q e st' h'
 | .loop b,cfg,st,h,Q=>
  match (M0 b).bind (Mc fa.loops) with
  | none=>False
  | some ann=>C3s ann cfg (S8 P fa b) st h Q
 | .rangeFunc g ps asg body,cfg,st,h,Q=>
  match D3 st g,(M0 body).bind (Mc fa.rounds) with
  | .val v,some zs=>
   When (aI zs.length ps.size&&ps.toList.all (fun t=>Nat.blt t cfg.n) && !cfg.inr)
    (A59 P v h (fun args h1 J=>exL zs fun vs=>args=vs/\S8 P fa asg { cfg with lim:=none,inr:=true } (A0f st ps.toList vs) h1 fun e st1 h2=>
     match e with
     | .normal=>S8 P fa body { cfg with lim:=none,inr:=true } st1 h2 fun e _ h3=>
      match e with
      | .normal=>J h3
      | _=>False
     | _=>False) (Q .normal st))
  | _,_=>False
 | .exit id,_,st,h,Q=>Q (.exit id) st h
 | .ret,_,st,h,Q=>Q .ret st h
 | .scope b,cfg,st,h,Q=>S8 P fa b cfg st h Q
 | .label _,_,st,h,Q=>Q .normal st h
 | _,_,_,_,_=>False
section
variable {P:aN} {s0:Nat} {F:Fence} {fu:Nat} {n:Nat} {st:VS} {h:aH} {a:Act} {W:aF}
def Yn{l:List Nat}: ∀ {i j p:Nat},A6j l i j=some p->∃ q,p=j+q/\l[q]? = some i:=by
 induction l with
 | nil=>intro i j p e;cases e
 | cons x xs ih=>
  intro i j p e
  unfold A6j at e
  cases hb:aI i x with
  | true=>
   rw [hb] at e
   have:=aG hb
   simp only [cond_true,Option.some.injEq] at e
   exact ⟨0,by omega,by simp [this]⟩
  | false=>
   rw [hb] at e
   obtain ⟨q,b,a⟩:=ih e
   exact ⟨q+1,by omega,by simpa using a⟩
def A6r{l:List Nat}: ∀ {vs:List aC} {q i:Nat},Dk st l=some vs->l[q]? = some i->∃ v,vs[q]? = some v/\st.env i= .val v:=by
 induction l with
 | nil=>intro vs q i _ e;simp at e
 | cons x xs ih=>
  intro vs q i a e
  unfold Dk at a
  split at a
  ·rename_i v c
   split at a
   ·rename_i d b
    injection a with a;subst a
    cases q with
    | zero=>simp at e;subst e;exact ⟨v,by simp,c⟩
    | succ q=>simp at e;simpa using ih b e
   ·cases a
  ·cases a
def Uz{l:List Nat}: ∀ {vs:List aC},Dk st l=some vs->vs.length=l.length:=by
 induction l with
 | nil=>intro vs e;injection e with e;subst e;rfl
 | cons x xs ih=>
  intro vs a
  unfold Dk at a
  split at a
  ·split at a
   ·rename_i c b;injection a with a;subst a;simp [ih b]
   ·cases a
  ·cases a
def B0k{l:List (Nat × Nat)}: ∀ {vs:List aC} {k j p m:Nat},Qm st l=some vs->Eu l k j=some (p,m)->∃ q,p=j+q/\st.own k=some ((vs.drop q).take m):=by
 induction l with
 | nil=>intro vs k j p m _ e;cases e
 | cons x xs ih=>
  obtain ⟨i,f⟩:=x
  intro vs k j p m a e
  unfold Qm at a
  split at a
  ·rename_i g d
   cases hb:aI g.length f with
   | false=>rw [hb] at a;cases a
   | true=>
    rw [hb] at a
    have b:=aG hb
    simp only [cond_true] at a
    split at a
    ·rename_i o c
     injection a with a;subst a
     unfold Eu at e
     cases hk:aI k i with
     | true=>
      rw [hk] at e
      have:=aG hk;subst this
      simp only [cond_true,Option.some.injEq,Prod.mk.injEq] at e
      obtain ⟨rfl,rfl⟩:=e
      exact ⟨0,by omega,by rw [d,List.drop_zero,<- b,List.take_left'];rfl⟩
     | false=>
      rw [hk] at e
      obtain ⟨q,r,n⟩:=ih c e
      refine ⟨f+q,by omega,?_⟩
      rw [n,<- b,aM]
    ·cases a
  ·cases a
def Ux{zs:List aC}: ∀ {vs:List aC},Ql zs vs=true->vs.length=zs.length/\∀ p∈zs.zip vs,A3z p.1 p.2=true:=by
 induction zs with
 | nil=>
  intro vs e
  cases vs with
  | nil=>exact ⟨rfl,fun p a=>by cases a⟩
  | cons=>cases e
 | cons z zs ih=>
  intro vs e
  cases vs with
  | nil=>cases e
  | cons v vs=>
   simp only [Ql,aE] at e
   obtain ⟨c,b⟩:=ih e.2
   refine ⟨by simp [c],fun p a=>?_⟩
   simp only [List.zip_cons_cons,List.mem_cons] at a
   rcases a with rfl|a
   ·exact e.1
   ·exact b p a
def keep.out{ann:Ann}{K:LP}(x:keep ann st h K):
 ∃ xs ys,Dk st ann.slots=some xs/\Qm st ann.owns=some ys/\Ql ann.zs (xs++ys)=true/\K (xs++ys) h:=by
 unfold keep at x
 split at x
 ·split at x
  ·rename_i xs a _ ys b
   exact ⟨xs,ys,a,b,x.both.1,x.both.2⟩
  ·exact x.elim
 ·exact x.elim
def A3o{l:List (Nat × Nat)}: ∀ {k i j:Nat},(Eu l k i).isSome=(Eu l k j).isSome:=by
 induction l with
 | nil=>intros;rfl
 | cons x xs ih=>
  obtain ⟨a,b⟩:=x
  intro k i j
  unfold Eu
  cases aI k a with
  | true=>rfl
  | false=>exact ih
def Good.head{cfg:Cfg}{h0:aH}{W0:aF}{ann:Ann}{st0:VS}(g:aL n h0 W0 st h a W)(hok:Rr cfg ann st0=true)(ag:Agree (some ann.lim) st0 st)(g0:∀ i k off,st0.env i= .own k off->(st0.own k).isSome=true)(hn:cfg.n=n)
 {xs ys:List aC} (hx:Dk st ann.slots=some xs) (hy:Qm st ann.owns=some ys):aL n h0 W0 (Dj ann st0 (xs++ys)) h a W:=by
 obtain ⟨θ,r,f,G⟩:=g
 simp only [Rr,aE,aJ] at hok
 obtain ⟨⟨⟨⟨D,F⟩,M⟩,L⟩,_⟩:=hok
 have s:=Uz hx
 have d:∀ i,(∃ v,(Dj ann st0 (xs++ys)).env i= .val v/\st.env i= .val v)\/((Dj ann st0 (xs++ys)).env i= .any/\has ann.lim.slots i=true)\/((Dj ann st0 (xs++ys)).env i=st.env i/\st.env i=st0.env i):=by
  intro i
  show (∃ v,(match A6j ann.slots i 0 with
   | some j=>AVal.val ((xs++ys).getD j undef)
   | none=>bif has ann.lim.slots i then .any else st0.env i)=_/\_)\/(_=_/\_)\/(_=_/\_)
  simp only [Dj]
  cases hp:A6j ann.slots i 0 with
  | some p=>
   obtain ⟨q,B,H⟩:=Yn hp
   obtain ⟨v,A,J⟩:=A6r hx H
   refine .inl ⟨v,?_,J⟩
   have w:q<xs.length:=(List.getElem?_eq_some_iff.1 A).1
   have:p=q:=by omega
   subst this
   simp [aO,List.getElem?_append_left w,A]
  | none=>
   cases hh:has ann.lim.slots i with
   | true=>exact .inr (.inl ⟨rfl,rfl⟩)
   | false=>exact .inr (.inr ⟨(ag.env i hh).symm,ag.env i hh⟩)
 have c:∀ k l,(Dj ann st0 (xs++ys)).own k=some l->st.own k=some l:=by
  intro k l e
  simp only [Dj] at e
  cases hp:Eu ann.owns k ann.slots.length with
  | some p=>
   obtain ⟨p,m⟩:=p
   rw [hp] at e
   obtain ⟨q,B,E⟩:=B0k hy hp
   injection e with e
   rw [E,<- e,B,<- s,aM]
  | none=>
   rw [hp] at e
   have e:st0.own k=some l:=e
   cases hh:has ann.lim.keys k with
   | false=>rw [ag.own k hh];exact e
   | true=>
    have:=(F k (Y3.1 hh)).2
    rw [e,A3o (j:=ann.slots.length),hp] at this
    cases this
 refine ⟨θ,⟨r.defers,r.size,fun i t=>?_,r.sim,fun k l e=>r.own k l (c k l e),fun k z y u e=>?_,fun i k off e=>?_,fun i t=>?_⟩,f,fun k y=>?_⟩
 ·rcases d i with ⟨v,b,o⟩|⟨b,_⟩|⟨b,_⟩
  ·rw [b];have:=r.slot i t;rw [o] at this;exact this
  ·rw [b];trivial
  ·rw [b];exact r.slot i t
 ·obtain ⟨l,b⟩:=Option.isSome_iff_exists.1 y
  obtain ⟨x,o⟩:=Option.isSome_iff_exists.1 u
  exact r.inj k z (by rw [c k l b];rfl) (by rw [c z x o];rfl) e
 ·rcases d i with ⟨v,b,_⟩|⟨b,_⟩|⟨b,o⟩
  ·rw [b] at e;cases e
  ·rw [b] at e;cases e
  ·have C:=g0 i k off (by rw [<- o,<- b,e])
   simp only [Dj]
   cases hp:Eu ann.owns k ann.slots.length with
   | some p=>rfl
   | none=>exact C
 ·rcases d i with ⟨v,b,o⟩|⟨b,o⟩|⟨b,o⟩
  ·have:=r.out i t;rw [b];rw [o] at this;exact this
  ·have:=D i (Y3.1 o)
   simp only [A3y,aE] at this
   have:=Nat.le_of_ble_eq_true this.1
   omega
  ·rw [b];exact r.out i t
 ·obtain ⟨l,b⟩:=Option.isSome_iff_exists.1 y
  exact G k (by rw [c k l b];rfl)
def Agree.within{cfg:Cfg}{ann:Ann}{st0 st':VS}(hok:Rr cfg ann st0=true){s:VS}(x:Agree (some ann.lim) s st'):Agree cfg.lim s st':=by
 simp only [Rr,aE,aJ] at hok
 obtain ⟨⟨⟨⟨c,d⟩,_⟩,_⟩,_⟩:=hok
 refine ⟨fun i a=>x.env i ?_,fun k b=>x.own k ?_⟩
 ·cases hh:has ann.lim.slots i with
  | false=>exact hh
  | true=>
   have:=c i (Y3.1 hh)
   simp only [A3y,aE] at this
   rw [this.2] at a;cases a
 ·cases hh:has ann.lim.keys k with
  | false=>exact hh
  | true=>have:=(d k (Y3.1 hh)).1;rw [this] at b;cases b
def Agree.head{ann:Ann}{cfg:Cfg}{st0:VS}(hok:Rr cfg ann st0=true)(vs:List aC):Agree (some ann.lim) st0 (Dj ann st0 vs):=by
 simp only [Rr,aE,aJ] at hok
 obtain ⟨⟨⟨⟨s,t⟩,r⟩,n⟩,_⟩:=hok
 refine ⟨fun i a=>?_,fun k b=>?_⟩
 ·have a:has ann.lim.slots i=false:=a
  simp only [Dj]
  cases hp:A6j ann.slots i 0 with
  | some p=>
   obtain ⟨q,_,g⟩:=Yn hp
   have:=r i (List.mem_of_getElem? g)
   rw [this] at a;cases a
  | none=>simp [a]
 ·have b:has ann.lim.keys k=false:=b
  simp only [Dj]
  cases hp:Eu ann.owns k ann.slots.length with
  | none=>rfl
  | some p=>
   exfalso
   have d:∀ {l:List (Nat × Nat)} {j:Nat} {p:Nat × Nat},Eu l k j=some p->∃ m,(k,m)∈l:=by
    intro l
    induction l with
    | nil=>intro j p e;cases e
    | cons x xs ih=>
     obtain ⟨f,o⟩:=x
     intro j p e
     unfold Eu at e
     cases hb:aI k f with
     | true=>have:=aG hb;subst this;exact ⟨o,by simp⟩
     | false=>rw [hb] at e;obtain ⟨m,c⟩:=ih e;exact ⟨m,by simp [c]⟩
   obtain ⟨m,c⟩:=d hp
   have:=n (k,m) c
   rw [this] at b;cases b
def A03{α:Type}{c:Code}{Q:Exit->Act->aF->Prop}(I:α->Act->aF->Prop)(μ:α->Nat)(z0:α)(h₀:I z0 a W)
 (round:∀ z a w,I z a w->c.wpIn F fu P (Exit.then (fun a' w'=>∃ z',I z' a' w'/\μ z'<μ z) Q) a w):(Code.loop c).wpIn F fu P Q a W:=by
 intro b k n o q p
 have key:∀ m z a w,μ z=m->I z a w->∃ e a' w',Q e a' w'/\ArrivesIn (Machine.fenced P F) P (lone (b.atR a (.code c :: .inLoop c::k)) n w) b k n e a' w':=by
  intro m
  induction m using Nat.strongRecOn with
  | _ m ih=>
   intro z a w y u
   obtain ⟨e,a₁,w₁,f,d⟩:=round z a w u b (.inLoop c::k) n o q p
   cases e with
   | normal=>
    obtain ⟨z',r,s⟩:=f
    obtain ⟨e,a',w',t,g⟩:=ih _ (by omega) z' a₁ w₁ rfl r
    exact ⟨e,a',w',t,.of_steps (StepsIn.trans d (.one (fenced_calm q p rfl) stepR_inLoop)) g⟩
   | exit id=>exact ⟨_,a₁,w₁,f,.pass (x:=.inLoop c) rfl (fun _ _=>.inl (by simp)) d⟩
   | goto l=>exact ⟨_,a₁,w₁,f,.pass (x:=.inLoop c) rfl (fun _ _=>.inl (by simp)) d⟩
   | ret=>exact ⟨_,a₁,w₁,f,.pass (x:=.inLoop c) rfl (fun _ _=>.inl (by simp)) d⟩
   | panic ch=>exact ⟨_,a₁,w₁,f,.pass (x:=.inLoop c) rfl (fun _ _=>.inl (by simp)) d⟩
   | outgrown=>exact ⟨_,a₁,w₁,f,.pass (x:=.inLoop c) rfl (fun _ _=>.inl (by simp)) d⟩
 obtain ⟨e,a',w',f,d⟩:=key _ z0 a W rfl h₀
 exact ⟨e,a',w',f,.of_steps (.one (fenced_calm q p rfl) stepR_loop) d⟩
def Ex.toExit:Ex->Exit
 | .normal=>.normal
 | .exit id=>.exit id
 | .ret=>.ret
def Good.wf{h0:aH}{W0:aF}(g:aL n h0 W0 st h a W):∀ i k off,st.env i= .own k off->(st.own k).isSome=true:=by
 obtain ⟨θ,r,_,_⟩:=g;exact r.wf
def Yl:∀ (ps:List Nat) (vs:List aC) (st:VS),(putAll st ps vs).own=st.own
 | [],_,_=>rfl
 | _::_,[],_=>rfl
 | t::ts,v::vs,st=>by rw [putAll,Yl ts vs];rfl
def Rel.putAll{θ:Nat->Nat}: ∀ (ps:List Nat) (vs:List aC) (st:VS) (a:Act),Rel s0 n θ st h a W->(∀ t∈ps,t<n)->Rel s0 n θ (putAll st ps vs) h { a with tmps:=(ps.zip vs).foldl (fun tmps (t,v)=>tmps.setIfInBounds t v) a.tmps } W
 | [],_,_,_,r,_=>r
 | _::_,[],_,_,r,_=>r
 | t::ts,v::vs,st,a,r,hp=>by
  have:=Rel.putAll ts vs (st.put t (.val v)) (a.put (some t) v) (r.put (hp t (by simp)) (v:=.val v) rfl (fun _ _ e=>by cases e)) (fun c b=>hp c (by simp [b]))
  exact this
def Good.round{h0:aH}{W0:aF}(g:aL n h0 W0 st h a W){ps:List Nat}(hps:∀ t∈ps,t<n){vs:List aC}{h1:aH}{W1:aF}(hs:Sim h1 W1):
 aL n h1 W1 (A0f st ps vs) h1 { tmps:=(ps.zip vs).foldl (fun tmps (t,v)=>tmps.setIfInBounds t v) a.tmps,defers:=[] } W1:=by
 obtain ⟨θ,r,_,_⟩:=g
 have f:Rel W1.heap.size n θ { env:=fun i=>B7x (st.env i),own:=fun _=>none } h1 { tmps:=a.tmps,defers:=[] } W1:=by
  refine ⟨MarksOk.nil,r.size,fun i b=>?_,hs,(fun k j e=>by cases e),(fun k l e=>by cases e),fun i k d e=>?_,fun i b=>?_⟩
  ·have:=r.slot i b
   show rel θ (B7x (st.env i)) _
   cases hx:st.env i with
   | own k d=>trivial
   | val v=>rw [hx] at this;exact this
   | any=>trivial
  ·exfalso
   simp only at e
   cases hx:st.env i<;>rw [hx] at e<;>cases e
  ·show B7x (st.env i)=_
   rw [r.out i b];rfl
 refine ⟨θ,f.putAll ps vs _ _ hps,Fr.refl hs,fun k c=>?_⟩
 unfold A0f at c
 rw [Yl] at c;cases c
def Gd{l:Nat}{rec:Loop}(e:W.heap[l]? = some (.loop rec)):(Instr.getLoop l).run P W= .ok rec W:=by
 simp [Instr.getLoop,getObj,Sem.run_bind,Sem.run,e]
def World.setO(W:aF)(l:Nat)(o:Obj):aF:={ W with heap:=W.heap.setIfInBounds l o }
def Kd{l:Nat}{o o':Obj}(e:W.heap[l]? = some o')(hc:∀ c t f,o' ≠ .cells c t f):(setObj l o).run P W= .ok () (World.setO W l o):=by
 cases o' with
 | cells c t f=>exact absurd rfl (hc c t f)
 | _=>simp [setObj,Sem.run,e,World.setO]
def Nr{l:Nat}{o o':Obj}(e:W.heap[l]? = some o'):(World.setO W l o).heap[l]? = some o:=by
 have:=Ey e
 simp [World.setO,this]
def J2{l b:Nat}{o:Obj}(hb:b≠l):(World.setO W l o).heap[b]? = W.heap[b]? :=by
 simp [World.setO,Ne.symm hb]
def Good.setLoop{h0:aH}{W2 W3:aF}{l:Nat}{rec rec':Loop}(g:aL n h0 W2 st h a W3)(hl:h0 l=none)(hs:l<W2.heap.size)(e:W3.heap[l]? = some (.loop rec)):aL n h0 (World.setO W2 l (.loop rec')) st h a (World.setO W3 l (.loop rec')):=by
 obtain ⟨θ,r,f,H⟩:=g
 have j:h l=none:=by
  cases x:h l with
  | none=>rfl
  | some o=>have:=f.new l o hl x;omega
 have i:∀ (W:aF) (o:Obj),(World.setO W l o).heap.size=W.heap.size:=fun W o=>by simp [World.setO]
 refine ⟨θ,⟨?_,r.size,r.slot,fun b o d=>?_,fun k B w=>?_,r.inj,r.wf,r.out⟩,⟨fun b o d=>?_,f.os,f.tape,f.output,by rw [i,i];exact f.size,fun b m d=>?_,fun b o u F=>by rw [i];exact f.new b o u F⟩,fun k C=>by rw [i];exact H k C⟩
 ·obtain ⟨G,J,E,L⟩:=r.defers
  refine ⟨G,J,E,fun q z=>?_⟩
  obtain ⟨A,y,p⟩:=L q z
  have c:q≠l:=by rintro rfl;rw [e] at p;cases p
  exact ⟨by rw [i];exact A,y,by rw [J2 c];exact p⟩
 ·have c:b≠l:=by rintro rfl;rw [j] at d;cases d
  rw [J2 c];exact r.sim b o d
 ·obtain ⟨t,s,D⟩:=r.own k B w
  have c:θ k≠l:=by intro x;rw [x,e] at s;cases s
  exact ⟨t,by rw [J2 c];exact s,D⟩
 ·have c:b≠l:=by rintro rfl;rw [j] at d;cases d
  rw [J2 c];exact f.sim b o d
 ·rw [i] at m
  by_cases c:b=l
  ·subst c
   rw [Nr e,Nr (o':=W2.heap[b]) (Array.getElem?_eq_getElem m)]
  ·rw [J2 c,J2 c];exact f.keep b m d
def A6h{h0:aH}{W0:aF}{x:Operand}{ps:Array Tmp}{asg body:Code}{v:aC}{zs:List aC}{B:List aC->aH->(aH->Prop)->Prop}{K:aH->Prop}{Q':Exit->Act->aF->Prop}
 (g:aL n h0 W0 st h a W) (hev:D3 st x= .val v) (hlen:zs.length=ps.size) (hps:∀ t∈ps.toList,t<n)
 (hv:A59 P v h (fun args h1 J=>exL zs fun vs=>args=vs/\B vs h1 J) K)
 (hQ:∀ (l:Nat) vs h1 J a1 W1,B vs h1 J->aL n h1 W1 (A0f st ps.toList vs) h1 a1 W1->∃ K2:VS->aH->Prop,
  (∀ fu' (Q2:Exit->Act->aF->Prop),(∀ st' h' a' W',K2 st' h'->aL n h1 W1 st' h' a' W'->Q2 .normal a' W')->asg.wpIn (Fence.wide.inRound l) fu' P Q2 a1 W1)/\
  ∀ W1' st1 h2 a2 W2 fu' (Q2:Exit->Act->aF->Prop),K2 st1 h2->aL n h1 W1' st1 h2 a2 W2->(∀ st' h' a' W',J h'->aL n h1 W1' st' h' a' W'->Q2 .normal a' W')->body.wpIn (Fence.wide.inRound l) fu' P Q2 a2 W2)
 (hK:∀ h' a' W',K h'->aL n h0 W0 st h' a' W'->Q' .normal a' W'):(Code.rangeFunc x ps asg body).wpIn Fence.wide fu P Q' a W:=by
 obtain ⟨f,first,k,rfl,E,hv⟩:=hv
 obtain ⟨θ,r,fr,ae⟩:=id g
 refine wpIn_rangeFunc fun fn _=>?_
 generalize hrec:({ state:=.ready,pending:=none,fn:=fn,tmps:=a.tmps,params:=ps,assign:=asg,body:=body,defers:=W.heap.size }:Loop)=rec
 generalize hl:W.heap.size+1=l
 generalize hW1:({ W with heap:=(W.heap.push (.deferred (some []))).push (.loop rec) }:aF)=W1
 have ai:W1.heap.size=W.heap.size+2:=by rw [<- hW1];simp
 have ah:W1.heap[l]? = some (.loop rec):=by
  rw [<- hW1,<- hl]
  simp only [aK,Array.size_push]
  simp
 have M:W1.heap[W.heap.size]? = some (.deferred (some [])):=by rw [<- hW1];simp [aK]
 have A:∀ b,b<W.heap.size->W1.heap[b]? = W.heap[b]? :=by
  intro b u
  rw [<- hW1]
  simp only [aK,Array.size_push]
  rw [iN (by omega),iN (by omega)]
 have p:∀ b,W.heap.size<=b->h b=none:=by
  intro b u
  cases e:h b with
  | none=>rfl
  | some o=>have:=Ey (r.sim b o e);omega
 have Q:Sim (h.put l (.loop rec)) W1:=by
  intro b o e
  by_cases u:b=l
  ·subst u;rw [C2] at e;cases e;exact ah
  ·rw [B8 _ _ u] at e
   have h1:=r.sim b o e
   rw [A b (Ey h1)];exact h1
 refine ⟨l,[{ target:=.collected W.heap.size,args:=#[] }],W1,{ target:=.fn (.func f) k,args:=first ++ #[.func (.yield l) #[] #[]] },W1,f,first ++ #[.func (.yield l) #[] #[]]++k,W1,?_,?_,fun _ _=>trivial,?_,(fun e=>by cases e),?_⟩
 ·rw [<- hW1,<- hl,<- hrec]
  simp [Instr.enterLoop,newObj,Sem.run_bind,Sem.run,Fence.wide]
  rfl
 ·have ec:a.eval (.const (.func (.yield l) #[] #[]))= .func (.yield l) #[] #[]:=rfl
  simp [resolve,r.evalVal hev,Deferred.ofValue,ec]
 ·simp [invoke,E]
 ·refine callsIn_wide.2 ((hv l rec (p l (by omega)) ?_ W1 Q).mono ?_)
  ·
   intro args h1 J z u W2 R
   obtain ⟨vs,rfl,G,u⟩:∃ vs,args=vs/\vs.length=zs.length/\B vs h1 J:=by
    obtain ⟨vs,G,e,u⟩:=exL.out u
    exact ⟨vs,e,G,u⟩
   have y:W2.heap[l]? = some (.loop rec):=R l _ (C2 h1 l _)
   have D:=Ey y
   refine ⟨fn,(ps.zip args.toArray).foldl (fun tmps (t,v)=>tmps.setIfInBounds t v) a.tmps,asg,body,?_,fun m=>?_⟩
   ·unfold Instr.yield
    simp only [Sem.run_bind,Gd y,aD]
    rw [<- hrec]
    simp [G,hlen]
   ·have N:Sim h1 W2:=by
     intro b o e
     have d:b≠l:=by rintro rfl;rw [z] at e;cases e
     exact R b o (by rw [B8 _ _ d];exact e)
    have hz:(ps.zip args.toArray).foldl (fun tmps (t,v)=>tmps.setIfInBounds t v) a.tmps=(ps.toList.zip args).foldl (fun tmps (t,v)=>tmps.setIfInBounds t v) a.tmps:=by
     rw [<- Array.foldl_toList];simp
    have gr:=g.round hps (vs:=args) N
    obtain ⟨K2,af,aa⟩:=hQ l args h1 J _ _ u gr
    rw [hz]
    refine roundIn_of_wpIn (F:=Fence.wide) trivial (af m _ ?_)
    intro st1 h2 a2 W3 ag g2
    have i:W3.heap[l]? = some (.loop rec):=by
     obtain ⟨_,_,ac,_⟩:=g2
     rw [ac.keep l D z];exact y
    refine ⟨World.setO W3 l (.loop { rec with state:=.busy }),?_,?_⟩
    ·unfold Instr.beginRound
     simp only [Sem.run_bind,Gd i,aD,Kd i (by intro c t f h;cases h)]
     rw [<- hrec]
     rfl
    ·refine aa (World.setO W2 l (.loop { rec with state:=.busy })) st1 h2 a2 _ m _ ag (g2.setLoop z D i) ?_
     intro st' h' a' W' hJ g'
     obtain ⟨θ',r',s,_⟩:=g'
     have C:W'.heap[l]? = some (.loop { rec with state:=.busy }):=by
      rw [s.keep l (by simpa [World.setO] using D) z]
      exact Nr y
     have Z:h' l=none:=by
      cases e:h' l with
      | none=>rfl
      | some o=>have:=s.new l o z e;simp [World.setO] at this;omega
     refine ⟨.bool true,World.setO W' l (.loop rec),?_,.bool true,h'.put l (.loop rec),rfl,⟨rfl,h',Z,rfl,hJ⟩,?_⟩
     ·unfold Instr.endRound
      simp only [Sem.run_bind,Gd C,aD,Kd C (by intro c t f h;cases h)]
      rw [<- hrec]
      rfl
     ·refine ⟨fun b o e=>?_,s.os,s.tape,s.output,?_,fun b u e=>?_,fun b o e L=>?_⟩
      ·by_cases u:b=l
       ·subst u;rw [C2] at e;cases e;exact Nr C
       ·rw [B8 _ _ u] at e
        rw [J2 u];exact s.sim b o e
      ·have:=s.size;simpa [World.setO] using this
      ·have d:b≠l:=by rintro rfl;rw [C2] at e;cases e
       rw [B8 _ _ d] at e
       rw [J2 d,s.keep b (by simpa [World.setO] using u) e,J2 d]
      ·have d:b≠l:=by rintro rfl;rw [C2] at e;cases e
       rw [B8 _ _ d] at e L
       have:=s.new b o e L
       simpa [World.setO] using this
  ·rintro e W3 ⟨rv,h2,rfl,⟨S,O,rfl,V⟩,j⟩
   have i:W3.heap[l]? = some (.loop rec):=j.sim l _ (C2 S l _)
   have H:Fr h W S (World.setO W3 l (.loop { rec with state:=.exhausted })):=by
    have X:W1.os=W.os/\W1.tape=W.tape/\W1.output=W.output:=by rw [<- hW1];exact ⟨rfl,rfl,rfl⟩
    refine ⟨fun b o e=>?_,j.os.trans X.1,j.tape.trans X.2.1,j.output.trans X.2.2,?_,fun b u e=>?_,fun b o e L=>?_⟩
    ·have d:b≠l:=by rintro rfl;rw [O] at e;cases e
     rw [J2 d]
     exact j.sim b o (by rw [B8 _ _ d];exact e)
    ·have:=j.size
     simp [World.setO];omega
    ·have d:b≠l:=by omega
     rw [J2 d,j.keep b (by omega) (by rw [B8 _ _ d];exact e),A b u]
    ·have d:b≠l:=by rintro rfl;rw [O] at L;cases L
     have:=j.new b o (by rw [B8 _ _ d];exact e) (by rw [B8 _ _ d];exact L)
     omega
   refine ⟨none,World.setO W3 l (.loop { rec with state:=.exhausted }),?_,hK S _ _ V ⟨θ,?_,fr.trans H,ae⟩⟩
   ·unfold Instr.endLoop
    simp only [Sem.run_bind,Gd i,aD]
    rw [<- hrec] at i ⊢
    simp [Kd i (by intro c t f h;cases h)]
   ·have w:=r.world H
    refine ⟨?_,w.size,w.slot,w.sim,w.own,w.inj,w.wf,w.out⟩
    obtain ⟨rs,n1,n2,n3⟩:=w.defers
    obtain ⟨ad,m1,m2,m3⟩:=r.defers
    have T:rs=ad:=by
     have:=n2.symm.trans m2
     exact (List.map_inj_right (fun a b e=>by injection e)).1 this
    subst T
    refine ⟨W.heap.size::rs,List.nodup_cons.2 ⟨fun hm=>?_,n1⟩,by simp [n2],fun q hq=>?_⟩
    ·have:=Ey (m3 _ hm).2.2;omega
    ·rcases List.mem_cons.1 hq with rfl|hq
     ·refine ⟨fr.size,?_,?_⟩
      ·cases e:S W.heap.size with
       | none=>rfl
       | some o=>
        have:=H.new _ o (p _ (Nat.le_refl _)) e
        have h4:=j.new W.heap.size o (by rw [B8 _ _ (by omega)];exact p _ (Nat.le_refl _)) (by rw [B8 _ _ (by omega)];exact e)
        omega
      ·rw [J2 (by omega),j.keep _ (by omega) (by rw [B8 _ _ (by omega)];exact p _ (Nat.le_refl _))]
       exact M
     ·exact n3 q hq
def C6y(Q:Exit->Act->aF->Prop):Exit->Act->aF->Prop
 | .goto _,_,_=>False
 | e,a,w=>Q e a w
def X5{b:Frame}{k:List Item}{cs:List Frame}{w:aF}{c:Code}:step P (lone (b.atR a (.code (.scope c)::k)) cs w)= .next (lone (b.atR a (.code c :: .inScope c::k)) cs w):=
 step_lone_go (by simp [stepG,stepG.exec,Frame.atR])
def A0c{b:Frame}{k:List Item}{cs:List Frame}{w:aF}{c:Code}:step P (lone (b.atR a (.inScope c::k)) cs w)= .next (lone (b.atR a k) cs w):=
 step_lone_go (by simp [stepG,stepG.exec,Frame.atR])
def A5t{c:Code}{Q:Exit->Act->aF->Prop}(h:c.wpIn F fu P (C6y Q) a W):(Code.scope c).wpIn F fu P Q a W:=by
 intro b k s o q p
 have f:(lone (b.atR a (.code (.scope c)::k)) s W).fenced P F:=fenced_calm q p rfl
 obtain ⟨e,a₁,w₁,g,d⟩:=h b (.inScope c::k) s o q p
 cases e with
 | normal=>exact ⟨.normal,a₁,w₁,g,.head f X5 (StepsIn.trans d (.one (fenced_calm q p rfl) A0c))⟩
 | exit id'=>
  have r:exitTo id' (.inScope c::k)=exitTo id' k:=by simp [exitTo]
  exact ⟨.exit id',a₁,w₁,g,fun t m=>.head f X5 (d.1 t (by rw [r];exact m)),
   fun n m=>let ⟨k₁,h1,h2⟩:=d.2 n (by rw [r];exact m);⟨k₁,h1,.head f X5 h2⟩⟩
 | goto l=>exact g.elim
 | ret=>exact ⟨_,a₁,w₁,g,.of_steps (.one f X5) d⟩
 | panic ch=>exact ⟨_,a₁,w₁,g,.of_steps (.one f X5) d⟩
 | outgrown=>exact ⟨_,a₁,w₁,g,.of_steps (.one f X5) d⟩
def B0u{fa:FnAnn}(c:Code):∀ {F:Fence} [FOk F] {fu:Nat} {h0:aH} {W0:aF} (cfg:Cfg) (st:VS) (h:aH) (a:Act) (W:aF) (Q:Ex->VS->aH->Prop) (Q':Exit->Act->aF->Prop),cfg.n=n->Bodies P cfg.fns->(cfg.inr=false->F=Fence.wide)->aL n h0 W0 st h a W->
 S8 P fa c cfg st h Q->(∀ e st' h' a' W',Q e st' h'->aL n h0 W0 st' h' a' W'->Agree cfg.lim st st'->Q' e.toExit a' W')->c.wpIn F fu P Q' a W:=by
 induction c with
 | skip=>exact fun {F} _ {fu h0 W0} cfg st h a W Q Q' p q u g d i=>wpIn_skip (i .normal st h a W d g (Agree.refl _ _))
 | region id ops draw=>
  intro F _ fu h0 W0 cfg st h a W Q Q' p q u g d i
  unfold S8 at d
  cases draw with
  | false=>exact wpIn_region (B9h p q _ st h a W g d fun st' h' a' W' f o s=>i .normal st' h' a' W' f o s)
  | true=>
   obtain ⟨m,d⟩:=d.both
   exact B0r p q m g d fun st' h' a' W' f o s=>i .normal st' h' a' W' f o s
 | seq x y ihx ihy=>
  intro F _ fu h0 W0 cfg st h a W Q Q' p q u g d i
  unfold S8 at d
  split at d
  ·refine wpIn_seq (ihx cfg st h a W _ _ p q u g d fun e st' h' a' W' f o s=>?_)
   cases e with
   | normal=>exact ihy cfg st' h' a' W' Q Q' p q u o f fun e C A M W2 k N E=>i e C A M W2 k N (s.trans E)
   | exit id=>exact i (.exit id) st' h' a' W' f o s
   | ret=>exact i .ret st' h' a' W' f o s
  ·rename_i w _
   obtain ⟨m,J,al,ai⟩:=d.both
   refine wpIn_seq (ihx (cfg.within w) st h a W _ _ p q u g al fun e st' h' a' W' f o s=>?_)
   cases e with
   | normal=>
    obtain ⟨xs,ys,T,X,L,hJ⟩:=f.out
    obtain ⟨hl,hz⟩:=Ux L
    have B:=allL.at ai hl hz h' hJ
    exact ihy cfg _ h' a' W' Q Q' p q u (o.head m s g.wf p T X) B fun e C A M W2 k N E=>i e C A M W2 k N (((Agree.head m _).within m).trans E)
   | exit id=>exact i (.exit id) st' h' a' W' f o (s.within m)
   | ret=>exact i .ret st' h' a' W' f o (s.within m)
 | cond c x y ihx ihy=>
  intro F _ fu h0 W0 cfg st h a W Q Q' p q u g d i
  unfold S8 at d
  split at d
  ·rename_i b B
   obtain ⟨θ,r,_,_⟩:=id g
   cases b with
   | true=>exact wpIn_cond_true (r.evalVal B) (ihx cfg st h a W Q Q' p q u g d i)
   | false=>exact wpIn_cond_false (r.evalVal B) (ihy cfg st h a W Q Q' p q u g d i)
  ·exact d.elim
 | block id b ih=>
  intro F _ fu h0 W0 cfg st h a W Q Q' p q u g d i
  unfold S8 at d
  refine wpIn_block (ih cfg st h a W _ _ p q u g d fun e st' h' a' W' f o s=>?_)
  cases e with
  | normal=>exact i .normal st' h' a' W' f o s
  | ret=>exact i .ret st' h' a' W' f o s
  | exit j=>
   by_cases V:j=id
   ·subst V
    have f:Q .normal st' h':=by simpa using f
    show Exit.inBlock j Q' (.exit j) a' W'
    simp only [Exit.inBlock,if_true]
    exact i .normal st' h' a' W' f o s
   ·have f:Q (.exit j) st' h':=by simpa [Du V] using f
    show Exit.inBlock id Q' (.exit j) a' W'
    simp only [Exit.inBlock,V,if_false]
    exact i (.exit j) st' h' a' W' f o s
 | loop b ih=>
  intro F _ fu h0 W0 cfg st h a W Q Q' p q u g d i
  unfold S8 at d
  split at d
  ·exact d.elim
  ·rename_i w _
   obtain ⟨m,Inv,μ,h1,A⟩:=d.both
   obtain ⟨xs,ys,T,X,L,hI⟩:=h1.out
   have H:=g.wf
   refine A03 (fun (z:List aC × aH) a' W'=>Ql w.zs z.1=true/\Inv z.1 z.2/\aL n h0 W0 (Dj w st z.1) z.2 a' W') (fun z=>μ z.1 z.2) (xs++ys,h) ⟨L,hI,g.head m (Agree.refl _ _) H p T X⟩ ?_
   intro z a1 W1 ⟨hk1,hI1,g1⟩
   obtain ⟨hl,hz⟩:=Ux hk1
   have B:=allL.at A hl hz z.2 hI1
   refine ih (cfg.within w) _ z.2 a1 W1 _ _ p q u g1 B fun e st' h' a' W' f o s=>?_
   have D:Agree (some w.lim) st st':=(Agree.head m _).trans s
   cases e with
   | normal=>
    obtain ⟨aj,Z,ae,aa,ac,af,hμ⟩:=f.out
    exact ⟨(aj++Z,h'),⟨ac,af,o.head m D H p ae aa⟩,hμ⟩
   | exit id=>exact i (.exit id) st' h' a' W' f o (D.within m)
   | ret=>exact i .ret st' h' a' W' f o (D.within m)
 | exit id=>exact fun {F} _ {fu h0 W0} cfg st h a W Q Q' p q u g d i=>wpIn_exit (i (.exit id) st h a W d g (Agree.refl _ _))
 | ret=>exact fun {F} _ {fu h0 W0} cfg st h a W Q Q' p q u g d i=>wpIn_ret (i .ret st h a W d g (Agree.refl _ _))
 | rangeFunc x ps asg body iha ihb=>
  intro F _ fu h0 W0 cfg st h a W Q Q' p q u g d i
  unfold S8 at d
  split at d
  ·rename_i v zs ad am
   obtain ⟨m,d⟩:=d.both
   simp only [aE,Bool.not_eq_true',aJ] at m
   obtain ⟨⟨S,ah⟩,O⟩:=m
   obtain rfl:=u O
   refine A6h g ad (aG S) (fun t ht=>by rw [<- p];exact Nat.le_of_ble_eq_true (ah t ht)) d ?_ (fun h' a' W' f o=>i .normal st h' a' W' f o (Agree.refl _ _))
   intro l vs h1 J a1 W1 B g1
   refine ⟨fun R A=>S8 P fa body { cfg with lim:=none,inr:=true } R A fun e _ h3=>
     match e with
     | .normal=>J h3
     | _=>False,fun ak Q2 G=>?_,fun W1' R A M W2 ak Q2 L N G=>?_⟩
   ·refine iha (F:=Fence.wide.inRound l) { cfg with lim:=none,inr:=true } _ h1 a1 W1 _ _ p q (fun e=>by cases e) g1 B fun e st' h' a' W' f o _=>?_
    cases e with
    | normal=>exact G st' h' a' W' f o
    | _=>exact f.elim
   ·refine ihb (F:=Fence.wide.inRound l) { cfg with lim:=none,inr:=true } _ A M W2 _ _ p q (fun e=>by cases e) N L fun e st' h' a' W' f o _=>?_
    cases e with
    | normal=>exact G st' h' a' W' f o
    | _=>exact f.elim
  ·exact d.elim
 | scope b ih=>
  intro F _ fu h0 W0 cfg st h a W Q Q' p q u g d i
  unfold S8 at d
  refine A5t (ih cfg st h a W Q (C6y Q') p q u g d fun e st' h' a' W' f o s=>?_)
  cases e with
  | normal=>exact i .normal st' h' a' W' f o s
  | exit id=>exact i (.exit id) st' h' a' W' f o s
  | ret=>exact i .ret st' h' a' W' f o s
 | label l=>exact fun {F} _ {fu h0 W0} cfg st h a W Q Q' p q u g d i=>wpIn_label (i .normal st h a W d g (Agree.refl _ _))
 | _=>intro F _ fu h0 W0 cfg st h a W Q Q' p q u g d i;exact d.elim
def C00(args:List aC):VS:={ env:=fun i=>.val (args.getD i undef),own:=fun _=>none }
def A8f(P:aN)(st:VS):ResultVar->Option aC
 | .tmp t=>match st.env t with
  | .val v=>some v
  | _=>none
 | .cell a t=>match st.env a with
  | .own k off=>match st.own k with
   | some cs=>match Oe P t with
    | some true=>bif Nat.ble (off+P.cellsOf t) cs.length then some (.agg ((cs.drop off).take (P.cellsOf t)).toArray) else none
    | some false=>cs[off]?
    | none=>none
   | none=>none
  | _=>none
def Uj(P:aN)(st:VS):List ResultVar->Option (List aC)
 | []=>some []
 | r::rs=>match A8f P st r with
  | some v=>match Uj P st rs with
   | some vs=>some (v::vs)
   | none=>none
  | none=>none
def A5z:List aC->aC
 | [v]=>v
 | vs=>.tuple vs.toArray
def A6d(P:aN)(rs:List ResultVar)(K:VP)(e:Ex)(st:VS)(h:aH):Prop:=
 match e with
 | .exit _=>False
 | _=>match Uj P st rs with
  | some vs=>K (A5z vs) h
  | none=>False
def C60(P:aN)(fa:FnAnn)(cfg:Cfg)(rs:List ResultVar)(c:Code)(args:List aC)(h:aH)(K:VP):Prop:=
 S8 P fa c cfg (C00 args) h (A6d P rs K)
def B07{θ:Nat->Nat}(r:Rel s0 n θ st h a W){rv:ResultVar}{v:aC}(e:A8f P st rv=some v):
 (match rv with
  | .tmp t=>(pure (a.tmps.getD t undef):Sem aC)
  | .cell x t=>do loadVar t (<- asAddr (a.tmps.getD x undef))).run P W= .ok v W:=by
 cases rv with
 | tmp t=>
  simp only [A8f] at e
  have:=r.slot' t
  split at e
  ·rename_i u d
   injection e with e;subst e
   rw [d] at this
   have this:a.tmps.getD t undef=u:=this
   simp [this]
  ·cases e
 | cell x t=>
  simp only [A8f] at e
  have f:=r.slot' x
  split at e
  ·rename_i k c l
   rw [l] at f
   have f:a.tmps.getD x undef= .pointer (some ⟨θ k,c,none⟩):=f
   split at e
   ·rename_i i g
    have m:X9 P t i c fun w=>w= .val v:=by
     split at e
     ·rename_i b
      cases hb:Nat.ble (c+P.cellsOf t) i.length with
      | false=>rw [hb] at e;cases e
      | true=>
       rw [hb] at e;injection e with e
       unfold X9;rw [b]
       simp only [Lv b,hb,Bool.and_self]
       show _=_
       rw [e]
     ·rename_i b
      unfold X9;rw [b];simp only [e]
     ·cases e
    obtain ⟨u,d,j⟩:=Nw r g m
    injection d with d;subst d
    simp only [Instr.loadAt,Instr.sureAddr,Sem.run_bind,Sem.run_pure,aD] at j
    simp only [f,asAddr,Sem.run_bind,Sem.run_pure,aD,j]
   ·cases e
  ·cases e
def A6e{θ:Nat->Nat}(r:Rel s0 n θ st h a W)(rs:List ResultVar):∀ {vs:List aC},Uj P st rs=some vs->
 (rs.mapM fun (rv:ResultVar)=>match rv with
  | .tmp t=>(pure (a.tmps.getD t undef):Sem aC)
  | .cell x t=>do loadVar t (<- asAddr (a.tmps.getD x undef))).run P W= .ok vs W:=by
 induction rs with
 | nil=>intro vs e;injection e with e;subst e;simp
 | cons rv rs ih=>
  intro vs e
  unfold Uj at e
  split at e
  ·rename_i v c
   split at e
   ·rename_i d b
    injection e with e;subst e
    rw [List.mapM_cons]
    simp only [Sem.run_bind,B07 r c,aD,ih b,Sem.run_pure]
   ·cases e
  ·cases e
def A98(fn:Func):Code:=
 match fn.body with
 | some c=>c
 | none=>.skip
def Bodies.nil:Bodies P []:=fun g a=>by cases a
def B3{g:Nat}{l:List Nat}(hg:∀ args W,(callFunc g args).run P W= .ok (.enter g args) W)(hl:Bodies P l):Bodies P (g::l):=fun k a=>by
 cases a with
 | head=>exact hg
 | tail _ a=>exact hl k a
def Sj{r:Nat}(e:W.heap[r]? = some (.deferred (some []))):(Instr.takeDeferred r).run P W= .ok [] (World.setO W r (.deferred none)):=by
 simp [Instr.takeDeferred,getObj,Sem.run_bind,Sem.run,e,Kd e (by intro c t f h;cases h)]
def B3u{fn:Func}{tmps:Array aC}{R:Ending->aF->Prop}: ∀ (ds:List Deferred) (W:aF) (rs:List Nat),rs.Nodup->ds.map (·.target)=rs.map Target.collected->(∀ r∈rs,W.heap[r]? = some (.deferred (some [])))->
 (∀ W2:aF,W2.os=W.os->W2.tape=W.tape->W2.output=W.output->W2.heap.size=W.heap.size->(∀ b,b∉rs->W2.heap[b]? = W.heap[b]?)->∃ v,(results fn tmps).run P W2= .ok v W2/\R (.returned v) W2)->
 LeavesInM Fence.wide 0 P fn tmps R ds .returning W:=by
 intro ds
 induction ds with
 | nil=>
  intro W rs _ e _ x
  exact x W rfl rfl rfl rfl (fun _ _=>rfl)
 | cons d ds ih=>
  intro W rs n e i x
  cases rs with
  | nil=>cases e
  | cons r rs=>
   simp only [List.map_cons,List.cons.injEq] at e
   have p:=i r (by simp)
   obtain ⟨f,a⟩:=List.nodup_cons.1 n
   refine ⟨by simp,.inl ⟨r,_,e.1,Sj p,ih _ rs a e.2 (fun q g=>?_) (fun W2 m j k l o=>x W2 m j k (by rw [l];simp [World.setO]) (fun b c=>?_))⟩⟩
   ·rw [J2 (by rintro rfl;exact f g)];exact i q (by simp [g])
   ·simp only [List.mem_cons,not_or] at c
    rw [o b c.2,J2 c.1]
def B83{f:FuncId}{fn:Func}(hf:P.funcs[f]? = some fn){c:Code}(hb:fn.body=some c){rs:List ResultVar}(hr:fn.results.toList=rs){fa:FnAnn}{cfg:Cfg}{args:List aC}(hn:cfg.n=args.length+(fn.ntmps-args.length))(hfn:Bodies P cfg.fns){h:aH}{K:VP}
 (hv:C60 P fa cfg rs c args h K):FCall P f args.toArray h K:=by
 intro W J
 subst hr
 have g:aL cfg.n h W (C00 args) h { tmps:=args.toArray++Array.replicate (fn.ntmps-args.toArray.size) undef,defers:=[] } W:=by
  refine ⟨fun _=>0,⟨MarksOk.nil,by simp [hn],fun i C=>?_,J,(fun k H e=>by cases e),(fun k k' D=>by cases D),(fun i k X e=>by cases e),fun i C=>?_⟩,Fr.refl J,(fun k D=>by cases D)⟩
  ·show _=args.getD i undef
   rcases Nat.lt_or_ge i args.length with x|x
   ·simp [Array.getD,x,aO];omega
   ·have:i<args.length+(fn.ntmps-args.length):=by rw [<- hn];exact C
    simp [Array.getD,this,aO,Array.getElem_append,Nat.not_lt.2 x]
  ·show AVal.val (args.getD i undef)=_
   have:args.length<=i:=by rw [hn] at C;omega
   simp [aO,List.getElem?_eq_none this]
 refine callsIn_wide.1 (callsIn_of_wp_marks (n:=0) hf hb trivial (B0u c (F:=Fence.wide) cfg _ h _ W _ _ rfl hfn (fun _=>rfl) g hv fun e B s y W' a Z _=>?_))
 obtain ⟨θ,r,p,_⟩:=Z
 have A:∀ d,Uj P B fn.results.toList=some d->K (A5z d) s->bodyPostM Fence.wide 0 P fn (fun e W'=>∃ r s,e= .returned r/\K r s/\Fr h W s W') .ret y W':=by
  intro d j a
  obtain ⟨rs,L,N,m⟩:=r.defers
  refine B3u y.defers W' rs L N (fun q O=>(m q O).2.2) ?_
  intro W2 M S R T E
  have z:Fr h W s W2:=by
   refine ⟨fun b o e=>?_,M.trans p.os,S.trans p.tape,R.trans p.output,by rw [T];exact p.size,fun b hb e=>?_,p.new⟩
   ·rw [E b (fun u=>by rw [(m b u).2.1] at e;cases e)];exact p.sim b o e
   ·rw [E b (fun u=>by have:=(m b u).1;omega)];exact p.keep b hb e
  have V:Rel W.heap.size cfg.n θ B s { y with defers:=[] } W2:=by
   refine ⟨MarksOk.nil,r.size,r.slot,z.sim,fun k H e=>?_,r.inj,r.wf,r.out⟩
   obtain ⟨t,G,Q⟩:=r.own k H e
   exact ⟨t,by rw [E _ (fun u=>by rw [(m _ u).2.2] at G;cases G)];exact G,Q⟩
  refine ⟨A5z d,?_,_,s,rfl,a,z⟩
  have u:=A6e (P:=P) V fn.results.toList j
  have e:(results fn y.tmps).run P W2=((fn.results.toList.mapM (fun (rv:ResultVar)=>match rv with
   | .tmp t=>(pure (y.tmps.getD t undef):Sem aC)
   | .cell x t=>do loadVar t (<- asAddr (y.tmps.getD x undef)))).run P W2).andThen fun l w=>.ok (if h:l.toArray.size=1 then l.toArray[0] else .tuple l.toArray) w:=by
   unfold results
   rw [Sem.run_bind,Array.mapM_eq_mapM_toList]
   simp only [map_eq_pure_bind,Sem.run_bind]
   generalize Sem.run P _ W2=x
   cases x<;>simp
  rw [e,u,aD]
  cases d with
  | nil=>rfl
  | cons v d=>cases d<;>rfl
 cases e with
 | exit id=>exact a.elim
 | normal=>
  unfold A6d at a
  split at a
  ·exact a.elim
  ·split at a
   ·rename_i d j;exact A d j a
   ·exact a.elim
 | ret=>
  unfold A6d at a
  split at a
  ·exact a.elim
  ·split at a
   ·rename_i d j;exact A d j a
   ·exact a.elim
def C6g{L:List Nat}(hL:Bodies P L){f:FuncId}{fn:Func}(hf:P.funcs[f]? = some fn)(rs:List ResultVar)(fa:FnAnn)(n:Nat)(own fns wr:List Nat){args:List aC}{h:aH}{K:VP}{T:Prop}
 (e:(fn.body.isSome,fn.results.toList,n,fns.all (has L),C60 P fa { n:=n,own:=own,lim:=none,fns:=fns,wr:=wr } rs (A98 fn) args h K)=(true,rs,args.length+(fn.ntmps-args.length),true,T)) (hvc:T):FCall P f args.toArray h K:=by
 simp only [Prod.mk.injEq] at e
 obtain ⟨a,l,b,i,k⟩:=e
 have d:fn.body=some (A98 fn):=by
  unfold A98
  cases hx:fn.body with
  | none=>rw [hx] at a;cases a
  | some c=>rfl
 exact B83 hf d l b (fun g j=>hL g (Y3.1 (List.all_eq_true.1 i g j))) (k.mpr hvc)
end
abbrev I(n:Int):aC:=.int .i64 n
abbrev I32(n:Int):aC:=.int .i32 n
abbrev U(n:Int):aC:=.int .u64 n
abbrev U32(n:Int):aC:=.int .u32 n
abbrev Y(n:Int):aC:=.int .u8 n
abbrev B5(n:Int):Int:=IntKind.i64.wrap n
abbrev C89(n:Int):Int:=IntKind.i32.wrap n
abbrev C0(n:Int):Int:=IntKind.u64.wrap n
abbrev F7(n:Int):Int:=IntKind.u32.wrap n
abbrev wu8(n:Int):Int:=IntKind.u8.wrap n
def Rb(k:IntKind)(x y:Int):Int:=k.wrap (BitVec.ofInt k.bits x &&& BitVec.ofInt k.bits y).toNat
def bor(k:IntKind)(x y:Int):Int:=k.wrap (BitVec.ofInt k.bits x ||| BitVec.ofInt k.bits y).toNat
