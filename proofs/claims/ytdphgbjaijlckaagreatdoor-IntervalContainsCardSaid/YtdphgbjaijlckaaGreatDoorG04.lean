/- A part. -/
import Derived.Test.YtdphgbjaijlckaaGreatDoorG03
set_option linter.all false
open Bool renaming and_eq_true->aF
open _root_.Go.Instr renaming sureAddr->aN,endRound->aO,endLoop->aP,loadAt->aR
open List renaming all_eq_true->aJ,drop_length_add_append->aM
open Nat renaming beq->aH,eq_of_beq_eq_true->aK
open _root_.Go.Result renaming andThen_ok->aC
open _root_.Go renaming Value->aD,World->aE,Program->aL,Code->aQ
open _root_.Go.Proofs.YtdphgbjaijlckaaGreatDoor renaming Heap->aG,Good->aI
namespace Go.Proofs.YtdphgbjaijlckaaGreatDoor
open Go
inductive Ex where
 | normal
 | exit (id:Nat)
 | ret
structure Ann where
 slots:List Nat
 owns:List (Nat × Nat)
 zs:List aD
 lim:Lim
structure FnAnn where
 loops:List (Nat × Ann):=[]
 cuts:List (Nat × Ann):=[]
 orders:List (Nat × List Nat × List (List Nat)):=[]
 rounds:List (Nat × List aD):=[]
 alts:List (Nat × List (Nat × List Nat)):=[]
def an0:FnAnn:=⟨[],[],[],[],[]⟩
def Z5{α:Type}:List (Nat × α)->Nat->Option α
 | [],_=>none
 | (k,x)::r,i=>bif aH i k then some x else Z5 r i
def A3x(l m:List Nat):List Nat:=m.foldr (fun x l=>bif has l x then l else x::l) l
def Tv:List Oper->List (List Nat)->List (List Nat)
 | [],acc=>acc
 | o::r,acc=>Tv r (acc++[o.after.toList.foldr (fun e l=>bif Region.binds .any e then A3x l (e.on::acc.getD e.on []) else l) []])
def A3t(fa:FnAnn)(id:Nat)(ops:Array Oper):List Nat × List (List Nat):=
 match Z5 fa.orders id with
 | none=>(List.range ops.size,Tv ops.toList [])
 | some (o,[])=>(o,Tv ops.toList [])
 | some (o,a::l)=>(o,a::l)
def E6:aQ->Option Nat
 | .region id _ _=>some id
 | .seq a b=>match E6 a with
  | some i=>some i
  | none=>E6 b
 | .block _ b=>E6 b
 | .loop b=>E6 b
 | .scope b=>E6 b
 | .cond _ a b=>match E6 a with
  | some i=>some i
  | none=>E6 b
 | _=>none
def Nk:List Nat->Nat->Nat->Option Nat
 | [],_,_=>none
 | x::xs,i,j=>bif aH i x then some j else Nk xs i (j+1)
def V3:List (Nat × Nat)->Nat->Nat->Option (Nat × Nat)
 | [],_,_=>none
 | (k,n)::r,i,j=>bif aH i k then some (j,n) else V3 r i (j+n)
def Q1(ann:Ann)(st:VS)(vs:List aD):VS:=
 { env:=fun i=>match Nk ann.slots i 0 with
    | some j=>.val (vs.getD j undef)
    | none=>bif has ann.lim.slots i then .any else st.env i
   own:=fun k=>match V3 ann.owns k ann.slots.length with
    | some (j,n)=>some ((vs.drop j).take n)
    | none=>st.own k }
def Q3(st:VS):List Nat->Option (List aD)
 | []=>some []
 | i::is=>match st.env i with
  | .val v=>match Q3 st is with
   | some vs=>some (v::vs)
   | none=>none
  | _=>none
def Dy(st:VS):List (Nat × Nat)->Option (List aD)
 | []=>some []
 | (k,n)::r=>match st.own k with
  | some cs=>bif aH cs.length n then (match Dy st r with
   | some vs=>some (cs++vs)
   | none=>none) else none
  | none=>none
def Dw:List aD->List aD->Bool
 | [],[]=>true
 | z::zs,v::vs=>Kx z v&&Dw zs vs
 | _,_=>false
def keep(ann:Ann)(st:VS)(h:aG)(K:LP):Prop:=
 match Q3 st ann.slots with
 | some xs=>match Dy st ann.owns with
  | some ys=>When (Dw ann.zs (xs++ys)) (K (xs++ys) h)
  | none=>False
 | none=>False
def Er(cfg:Cfg)(ann:Ann)(st:VS):Bool:=
 ann.lim.slots.all (fun d=>Kw cfg d)&&ann.lim.keys.all (fun k=>Kz cfg.lim k&&((st.own k).isNone||(V3 ann.owns k 0).isSome)) &&
 ann.slots.all (has ann.lim.slots)&&ann.owns.all (fun p=>has ann.lim.keys p.1)&&kindsLen ann
where
 kindsLen (ann:Ann):Bool:=aH ann.zs.length (ann.slots.length+ann.owns.foldr (fun p s=>p.2+s) 0)
def Cfg.within(cfg:Cfg)(ann:Ann):Cfg:={ n:=cfg.n,own:=cfg.own,lim:=some ann.lim,fns:=cfg.fns,wr:=cfg.wr,inr:=cfg.inr }
def A0e(ann:Ann)(cfg:Cfg)(body:Cfg->VS->aG->(Ex->VS->aG->Prop)->Prop)(st:VS)(h:aG)(Q:Ex->VS->aG->Prop):Prop:=
 When (Er cfg ann st) <|
 ∃ (Inv:LP) (μ:LN),keep ann st h Inv/\
  allL ann.zs fun d=>∀ h,Inv d h->body (cfg.within ann) (Q1 ann st d) h fun e a b=>
   match e with
   | .normal=>keep ann a b fun c b=>Inv c b/\μ c b<μ d h
   | e=>Q e a b
def A2q(ann:Ann)(cfg:Cfg)(a b:Cfg->VS->aG->(Ex->VS->aG->Prop)->Prop)(st:VS)(h:aG)(Q:Ex->VS->aG->Prop):Prop:=
 When (Er cfg ann st) <|
 ∃ J:LP,(a (cfg.within ann) st h fun e c d=>
    match e with
    | .normal=>keep ann c d J
    | e=>Q e c d)/\
  allL ann.zs fun g=>∀ h,J g h->b cfg (Q1 ann st g) h Q
def Vs:AVal->AVal
 | .own _ _=>.any
 | v=>v
def putAll:VS->List Nat->List aD->VS
 | st,t::ts,v::vs=>putAll (st.put t (.val v)) ts vs
 | st,_,_=>st
def Dn(st:VS)(ps:List Nat)(vs:List aD):VS:=putAll { env:=fun i=>Vs (st.env i),own:=fun _=>none } ps vs
def J2(P:aL)(fa:FnAnn):aQ->Cfg->VS->aG->(Ex->VS->aG->Prop)->Prop
 | .skip,_,st,h,Q=>Q .normal st h
 | .region id ops draw,cfg,st,h,Q=>
  match draw with
  | false=>Us P cfg ops false (List.range ops.size) st h (Q .normal)
  | true=>
   match A3t fa id ops with
   | (ord,anc)=>When (Tn P ops ord anc) (U9 P cfg ops anc (fun j=>((Z5 fa.alts id).bind (fun l=>Z5 l j)).getD []) ord.length ord st h (Q .normal))
 | .seq a b,cfg,st,h,Q=>
  match (E6 b).bind (Z5 fa.cuts) with
  | none=>J2 P fa a cfg st h fun e st' h'=>
   match e with
   | .normal=>J2 P fa b cfg st' h' Q
   | e=>Q e st' h'
  | some ann=>A2q ann cfg (J2 P fa a) (J2 P fa b) st h Q
 | .cond c t e,cfg,st,h,Q=>
  match C5 st c with
  | .val (.bool b)=>Br b (J2 P fa t cfg st h Q) (J2 P fa e cfg st h Q)
  | _=>False
 | .block id b,cfg,st,h,Q=>J2 P fa b cfg st h fun e st' h'=>
  match e with
  | .exit j=>bif aH j id then Q .normal st' h' else Q (.exit j) st' h'
  | e=>Q e st' h'
 | .loop b,cfg,st,h,Q=>
  match (E6 b).bind (Z5 fa.loops) with
  | none=>False
  | some ann=>A0e ann cfg (J2 P fa b) st h Q
 | .rangeFunc g ps asg body,cfg,st,h,Q=>
  match C5 st g,(E6 body).bind (Z5 fa.rounds) with
  | .val v,some zs=>
   When (aH zs.length ps.size&&ps.toList.all (fun t=>Nat.blt t cfg.n) && !cfg.inr)
    (match (E6 body).bind fun i=>Z5 fa.rounds (i+1000000) with
    | none=>Uj P v h (fun args h1 J=>exL zs fun vs=>args=vs/\J2 P fa asg { cfg with lim:=none,inr:=true } (Dn st ps.toList vs) h1 fun e st1 h2=>
     match e with
     | .normal=>J2 P fa body { cfg with lim:=none,inr:=true } st1 h2 fun e _ h3=>
      match e with
      | .normal=>J h3
      | _=>False
     | _=>False) (Q .normal st)
    | some _=>Ui P v h (fun args h1 J JR=>exL zs fun vs=>args=vs/\J2 P fa asg { cfg with lim:=none,inr:=true } (Dn st ps.toList vs) h1 fun e st1 h2=>
     match e with
     | .normal=>J2 P fa body { cfg with lim:=none,inr:=true } st1 h2 fun e _ h3=>
      match e with
      | .normal=>J h3
      | .ret=>JR h3
      | _=>False
     | _=>False) (Q .normal st) (Q .ret st))
  | _,_=>False
 | .exit id,_,st,h,Q=>Q (.exit id) st h
 | .ret,_,st,h,Q=>Q .ret st h
 | .scope b,cfg,st,h,Q=>J2 P fa b cfg st h Q
 | .label _,_,st,h,Q=>Q .normal st h
 | _,_,_,_,_=>False
section
variable {P:aL} {s0:Nat} {F:Fence} {fu:Nat} {n:Nat} {st:VS} {h:aG} {a:Act} {W:aE}
def Hv{l:List Nat}: ∀ {i j p:Nat},Nk l i j=some p->∃ q,p=j+q/\l[q]? = some i:=by
 induction l with
 | nil=>intro i j p e;cases e
 | cons x xs ih=>
  intro i j p e
  unfold Nk at e
  cases hb:aH i x with
  | true=>
   simp_all
  | false=>
   rw [hb] at e
   obtain ⟨q,b,a⟩:=ih e
   exact ⟨q+1,o,by assumption⟩
def Nq{l:List Nat}: ∀ {vs:List aD} {q i:Nat},Q3 st l=some vs->l[q]? = some i->∃ v,vs[q]? = some v/\st.env i= .val v:=by
 induction l with
 | nil=>grind
 | cons x xs ih=>
  intro vs q i a e
  unfold Q3 at a
  grind
def Gj{l:List Nat}: ∀ {vs:List aD},Q3 st l=some vs->vs.length=l.length:=by
 induction l with
 | nil=>intro vs e;injection e with e;grind
 | cons x xs ih=>
  intro vs a
  unfold Q3 at a
  grind
def Qg{l:List (Nat × Nat)}: ∀ {vs:List aD} {k j p m:Nat},Dy st l=some vs->V3 l k j=some (p,m)->∃ q,p=j+q/\st.own k=some ((vs.drop q).take m):=by
 induction l with
 | nil=>intro vs k j p m _ e;cases e
 | cons x xs ih=>
  obtain ⟨i,d⟩:=x
  intro vs k j p m a e
  unfold Dy at a
  split at a
  ·rename_i n r
   cases hb:aH n.length d with
   | false=>grind
   | true=>
    rw [hb] at a
    have b:=aK hb
    split at a
    ·rename_i u c
     injection a with a;subst a
     unfold V3 at e
     cases hk:aH k i with
     | true=>
      simp_all
     | false=>
      rw [hk] at e
      obtain ⟨q,s,g⟩:=ih c e
      refine ⟨d+q,o,?_⟩
      rw [g,<- b,aM]
    ·cases a
  ·cases a
def Gf{zs:List aD}: ∀ {vs:List aD},Dw zs vs=true->vs.length=zs.length/\∀ p∈zs.zip vs,Kx p.1 p.2=true:=by
 induction zs with
 | nil=>
  intro vs e
  cases vs with
  | nil=>simp_all
  | cons=>cases e
 | cons z zs ih=>
  intro vs e
  cases vs with
  | nil=>cases e
  | cons v vs=>
   simp only [Dw,aF] at e
   obtain ⟨a,b⟩:=ih e.2
   simp_all
def keep.out{ann:Ann}{K:LP}(x:keep ann st h K):
 ∃ xs ys,Q3 st ann.slots=some xs/\Dy st ann.owns=some ys/\Dw ann.zs (xs++ys)=true/\K (xs++ys) h:=by
 unfold keep at x
 split at x
 ·split at x
  ·rename_i xs b _ ys a
   exact ⟨xs,ys,b,a,x.both.1,x.both.2⟩
  grind
 grind
def Kr{l:List (Nat × Nat)}: ∀ {k i j:Nat},(V3 l k i).isSome=(V3 l k j).isSome:=by
 induction l with
 | nil=>intros;rfl
 | cons x xs ih=>
  obtain ⟨b,a⟩:=x
  intro k i j
  unfold V3
  grind
def Good.head{cfg:Cfg}{h0:aG}{W0:aE}{ann:Ann}{st0:VS}(g:aI n h0 W0 st h a W)(hok:Er cfg ann st0=true)(ag:Agree (some ann.lim) st0 st)(g0:∀ i k off,st0.env i= .own k off->(st0.own k).isSome=true)(hn:cfg.n=n)
 {xs ys:List aD} (hx:Q3 st ann.slots=some xs) (hy:Dy st ann.owns=some ys):aI n h0 W0 (Q1 ann st0 (xs++ys)) h a W:=by
 obtain ⟨θ,r,f,N⟩:=g
 simp only [Er,aF,aJ] at hok
 obtain ⟨⟨⟨⟨B,A⟩,H⟩,G⟩,_⟩:=hok
 have l:=Gj hx
 have c:∀ i,(∃ v,(Q1 ann st0 (xs++ys)).env i= .val v/\st.env i= .val v)\/((Q1 ann st0 (xs++ys)).env i= .any/\has ann.lim.slots i=true)\/((Q1 ann st0 (xs++ys)).env i=st.env i/\st.env i=st0.env i):=by
  intro i
  show (∃ v,(match Nk ann.slots i 0 with
   | some j=>AVal.val ((xs++ys).getD j undef)
   | none=>bif has ann.lim.slots i then .any else st0.env i)=_/\_)\/(_=_/\_)\/(_=_/\_)
  simp only [Q1]
  cases hp:Nk ann.slots i 0 with
  | some p=>
   obtain ⟨q,z,E⟩:=Hv hp
   obtain ⟨v,L,M⟩:=Nq hx E
   grind
  | none=>
   cases hh:has ann.lim.slots i with
   | true=>grind
   | false=>exact .inr (.inr ⟨(ag.env i hh).symm,ag.env i hh⟩)
 have u:∀ k d,(Q1 ann st0 (xs++ys)).own k=some d->st.own k=some d:=by
  intro k d e
  simp only [Q1] at e
  cases hp:V3 ann.owns k ann.slots.length with
  | some p=>
   obtain ⟨p,m⟩:=p
   rw [hp] at e
   obtain ⟨q,z,D⟩:=Qg hy hp
   injection e with e
   rw [D,<- e,z,<- l,aM]
  | none=>
   rw [hp] at e
   have e:st0.own k=some d:=e
   cases hh:has ann.lim.keys k with
   | false=>rw [ag.own k hh];exact e
   | true=>
    have:=(A k (N5.1 hh)).2
    rw [e,Kr (j:=ann.slots.length),hp] at this
    cases this
 refine ⟨θ,⟨r.defers,r.size,fun i w=>?_,r.sim,fun k d e=>r.own k d (u k d e),fun k C y x e=>?_,fun i k off e=>?_,fun i w=>?_⟩,f,fun k y=>?_⟩
 ·rcases c i with ⟨v,b,s⟩|⟨b,_⟩|⟨b,_⟩
  ·have:=r.slot i w;grind
  ·rw [b];trivial
  ·rw [b];exact r.slot i w
 ·obtain ⟨d,b⟩:=Option.isSome_iff_exists.1 y
  obtain ⟨F,s⟩:=Option.isSome_iff_exists.1 x
  exact r.inj k C gz0 gz0 e
 ·rcases c i with ⟨v,b,_⟩|⟨b,_⟩|⟨b,s⟩
  ·grind
  ·grind
  ·simp only [Q1]
   grind
 ·rcases c i with ⟨v,b,s⟩|⟨b,s⟩|⟨b,s⟩
  ·have:=r.out i w;grind
  ·have:=B i (N5.1 s)
   simp only [Kw,aF] at this
   have:=Nat.le_of_ble_eq_true this.1
   omega
  ·rw [b];exact r.out i w
 ·obtain ⟨d,b⟩:=Option.isSome_iff_exists.1 y
  grind
def Agree.within{cfg:Cfg}{ann:Ann}{st0 st':VS}(hok:Er cfg ann st0=true){s:VS}(x:Agree (some ann.lim) s st'):Agree cfg.lim s st':=by
 simp only [Er,aF,aJ] at hok
 obtain ⟨⟨⟨⟨b,a⟩,_⟩,_⟩,_⟩:=hok
 refine ⟨fun i c=>x.env i ?_,fun k d=>x.own k ?_⟩
 ·cases hh:has ann.lim.slots i with
  | false=>exact hh
  | true=>
   have:=b i (N5.1 hh)
   simp only [Kw,aF] at this
   grind
 ·cases hh:has ann.lim.keys k with
  | false=>exact hh
  | true=>have:=(a k (N5.1 hh)).1;grind
def Agree.head{ann:Ann}{cfg:Cfg}{st0:VS}(hok:Er cfg ann st0=true)(vs:List aD):Agree (some ann.lim) st0 (Q1 ann st0 vs):=by
 simp only [Er,aF,aJ] at hok
 obtain ⟨⟨⟨⟨s,n⟩,u⟩,r⟩,_⟩:=hok
 refine ⟨fun i a=>?_,fun k b=>?_⟩
 ·have a:has ann.lim.slots i=false:=a
  simp only [Q1]
  cases hp:Nk ann.slots i 0 with
  | some p=>
   obtain ⟨q,_,g⟩:=Hv hp
   grind
  | none=>simp [a]
 ·have b:has ann.lim.keys k=false:=b
  simp only [Q1]
  cases hp:V3 ann.owns k ann.slots.length with
  | none=>rfl
  | some p=>
   exfalso
   have c:∀ {l:List (Nat × Nat)} {j:Nat} {p:Nat × Nat},V3 l k j=some p->∃ m,(k,m)∈l:=by
    intro l
    induction l with
    | nil=>intro j p e;cases e
    | cons x xs ih=>
     obtain ⟨d,w⟩:=x
     intro j p e
     unfold V3 at e
     cases hb:aH k d with
     | true=>simp_all
     | false=>grind
   grind
def Io{α:Type}{c:aQ}{Q:Exit->Act->aE->Prop}(I:α->Act->aE->Prop)(μ:α->Nat)(z0:α)(h₀:I z0 a W)
 (round:∀ z a w,I z a w->c.wpIn F fu P (Exit.then (fun a' w'=>∃ z',I z' a' w'/\μ z'<μ z) Q) a w):(Code.loop c).wpIn F fu P Q a W:=by
 intro b k p u r q
 have key:∀ m z a w,μ z=m->I z a w->∃ e a' w',Q e a' w'/\ArrivesIn (Machine.fenced P F) P (lone (b.atR a (.code c :: .inLoop c::k)) p w) b k p e a' w':=by
  intro m
  induction m using Nat.strongRecOn with
  | _ m ih=>
   intro z a w C A
   obtain ⟨e,a₁,w₁,g,d⟩:=round z a w A b (.inLoop c::k) p u r q
   cases e with
   | normal=>
    obtain ⟨z',s,y⟩:=g
    obtain ⟨e,a',w',B,i⟩:=ih _ o z' a₁ w₁ rfl s
    exact ⟨e,a',w',B,.of_steps (StepsIn.trans d (.one (fenced_calm r q rfl) stepR_inLoop)) i⟩
   | exit id=>exact ⟨_,a₁,w₁,g,.pass (x:=.inLoop c) rfl (fun _ _=>.inl (by simp)) d⟩
   | goto l=>exact ⟨_,a₁,w₁,g,.pass (x:=.inLoop c) rfl (fun _ _=>.inl (by simp)) d⟩
   | ret=>exact ⟨_,a₁,w₁,g,.pass (x:=.inLoop c) rfl (fun _ _=>.inl (by simp)) d⟩
   | panic ch=>exact ⟨_,a₁,w₁,g,.pass (x:=.inLoop c) rfl (fun _ _=>.inl (by simp)) d⟩
   | outgrown=>exact ⟨_,a₁,w₁,g,.pass (x:=.inLoop c) rfl (fun _ _=>.inl (by simp)) d⟩
 obtain ⟨e,a',w',g,d⟩:=key _ z0 a W rfl h₀
 exact ⟨e,a',w',g,.of_steps (.one (fenced_calm r q rfl) stepR_loop) d⟩
def Ex.toExit:Ex->Exit
 | .normal=>.normal
 | .exit id=>.exit id
 | .ret=>.ret
def Good.wf{h0:aG}{W0:aE}(g:aI n h0 W0 st h a W):∀ i k off,st.env i= .own k off->(st.own k).isSome=true:=by
 obtain ⟨θ,r,_,_⟩:=g;exact r.wf
def Ht:∀ (ps:List Nat) (vs:List aD) (st:VS),(putAll st ps vs).own=st.own
 | [],_,_=>rfl
 | _::_,[],_=>rfl
 | t::ts,v::vs,st=>by rw [putAll,Ht ts vs];rfl
def Rel.putAll{θ:Nat->Nat}: ∀ (ps:List Nat) (vs:List aD) (st:VS) (a:Act),Rel s0 n θ st h a W->(∀ t∈ps,t<n)->Rel s0 n θ (putAll st ps vs) h { a with tmps:=(ps.zip vs).foldl (fun tmps (t,v)=>tmps.setIfInBounds t v) a.tmps } W
 | [],_,_,_,r,_=>r
 | _::_,[],_,_,r,_=>r
 | t::ts,v::vs,st,a,r,hp=>by
  have:=Rel.putAll ts vs (st.put t (.val v)) (a.put (some t) v) (r.put (hp t (by simp)) (v:=.val v) rfl (fun _ _ e=>by cases e)) (fun b c=>hp b (by simp [c]))
  exact this
def Good.round{h0:aG}{W0:aE}(g:aI n h0 W0 st h a W){ps:List Nat}(hps:∀ t∈ps,t<n){vs:List aD}{h1:aG}{W1:aE}(hs:Sim h1 W1):
 aI n h1 W1 (Dn st ps vs) h1 { tmps:=(ps.zip vs).foldl (fun tmps (t,v)=>tmps.setIfInBounds t v) a.tmps,defers:=[] } W1:=by
 obtain ⟨θ,r,_,_⟩:=g
 have j:Rel W1.heap.size n θ { env:=fun i=>Vs (st.env i),own:=fun _=>none } h1 { tmps:=a.tmps,defers:=[] } W1:=by
  refine ⟨MarksOk.nil,r.size,fun i d=>?_,hs,(fun k l e=>by cases e),(fun k m e=>by cases e),fun i k c e=>?_,fun i d=>?_⟩
  ·have:=r.slot i d
   show rel θ (Vs (st.env i)) _
   cases hx:st.env i with
   | own k c=>trivial
   | val v=>rw [hx] at this;exact this
   | any=>trivial
  ·exfalso
   simp only at e
   cases hx:st.env i<;>rw [hx] at e<;>cases e
  ·show Vs (st.env i)=_
   rw [r.out i d];rfl
 refine ⟨θ,j.putAll ps vs _ _ hps,Fr.refl hs,fun k b=>?_⟩
 unfold Dn at b
 rw [Ht] at b;cases b
def H8{l:Nat}{rec:Loop}(e:W.heap[l]? = some (.loop rec)):(Instr.getLoop l).run P W= .ok rec W:=by
 simp [Instr.getLoop,getObj,Sem.run_bind,Sem.run,e]
def World.setO(W:aE)(l:Nat)(o:Obj):aE:={ W with heap:=W.heap.setIfInBounds l o }
def N2{l:Nat}{o o':Obj}(e:W.heap[l]? = some o')(hc:∀ c t f,o' ≠ .cells c t f):(setObj l o).run P W= .ok () (World.setO W l o):=by
 cases o' with
 | cells c t f=>grind
 | _=>simp [setObj,Sem.run,e,World.setO]
def R5{l:Nat}{o o':Obj}(e:W.heap[l]? = some o'):(World.setO W l o).heap[l]? = some o:=by
 have:=R7 e
 simp [World.setO,this]
def D3{l b:Nat}{o:Obj}(hb:b≠l):(World.setO W l o).heap[b]? = W.heap[b]? :=by
 simp [World.setO,Ne.symm hb]
def Good.setLoop{h0:aG}{W2 W3:aE}{l:Nat}{rec rec':Loop}(g:aI n h0 W2 st h a W3)(hl:h0 l=none)(hs:l<W2.heap.size)(e:W3.heap[l]? = some (.loop rec)):aI n h0 (World.setO W2 l (.loop rec')) st h a (World.setO W3 l (.loop rec')):=by
 obtain ⟨θ,r,d,N⟩:=g
 have s:h l=none:=by
  cases x:h l with
  | none=>rfl
  | some o=>have:=d.new l o hl x;omega
 have j:∀ (W:aE) (o:Obj),(World.setO W l o).heap.size=W.heap.size:=fun W o=>by simp [World.setO]
 refine ⟨θ,⟨?_,r.size,r.slot,fun b o i=>?_,fun k B A=>?_,r.inj,r.wf,r.out⟩,⟨fun b o i=>?_,d.os,d.tape,d.output,by rw [j,j];exact d.size,fun b m i=>?_,fun b o F C=>by rw [j];exact d.new b o F C⟩,fun k L=>gz0⟩
 ·obtain ⟨D,G,H,w⟩:=r.defers
  refine ⟨D,G,H,fun q z=>?_⟩
  obtain ⟨M,p,u⟩:=w q z
  have c:q≠l:=oo
  exact ⟨gz0,p,by rw [D3 c];exact u⟩
 ·have c:b≠l:=gz0
  rw [D3 c];exact r.sim b o i
 ·obtain ⟨t,E,y⟩:=r.own k B A
  have c:θ k≠l:=gz0
  exact ⟨t,by rw [D3 c];exact E,y⟩
 ·have c:b≠l:=gz0
  rw [D3 c];exact d.sim b o i
 ·rw [j] at m
  by_cases c:b=l
  ·subst c
   rw [R5 e,R5 (o':=W2.heap[b]) (Array.getElem?_eq_getElem m)]
  ·rw [D3 c,D3 c];exact d.keep b m i
def Ng{h0:aG}{W0:aE}{x:Operand}{ps:Array Tmp}{asg body:aQ}{v:aD}{zs:List aD}{B:List aD->aG->(aG->Prop)->Prop}{K:aG->Prop}{Q':Exit->Act->aE->Prop}
 (g:aI n h0 W0 st h a W) (hev:C5 st x= .val v) (hlen:zs.length=ps.size) (hps:∀ t∈ps.toList,t<n)
 (hv:Uj P v h (fun args h1 J=>exL zs fun vs=>args=vs/\B vs h1 J) K)
 (hQ:∀ (l:Nat) vs h1 J a1 W1,B vs h1 J->aI n h1 W1 (Dn st ps.toList vs) h1 a1 W1->∃ K2:VS->aG->Prop,
  (∀ fu' (Q2:Exit->Act->aE->Prop),(∀ st' h' a' W',K2 st' h'->aI n h1 W1 st' h' a' W'->Q2 .normal a' W')->asg.wpIn (Fence.wide.inRound l) fu' P Q2 a1 W1)/\
  ∀ W1' st1 h2 a2 W2 fu' (Q2:Exit->Act->aE->Prop),K2 st1 h2->aI n h1 W1' st1 h2 a2 W2->(∀ st' h' a' W',J h'->aI n h1 W1' st' h' a' W'->Q2 .normal a' W')->body.wpIn (Fence.wide.inRound l) fu' P Q2 a2 W2)
 (hK:∀ h' a' W',K h'->aI n h0 W0 st h' a' W'->Q' .normal a' W'):(Code.rangeFunc x ps asg body).wpIn Fence.wide fu P Q' a W:=by
 obtain ⟨f,first,j,rfl,C,hv⟩:=hv
 obtain ⟨θ,r,fr,aa⟩:=id g
 refine wpIn_rangeFunc fun fn _=>?_
 generalize hrec:({ state:=.ready,pending:=none,fn:=fn,tmps:=a.tmps,params:=ps,assign:=asg,body:=body,defers:=W.heap.size }:Loop)=rec
 generalize hl:W.heap.size+1=l
 generalize hW1:({ W with heap:=(W.heap.push (.deferred (some []))).push (.loop rec) }:aE)=W1
 have ae:W1.heap.size=W.heap.size+2:=gz0
 have H:W1.heap[W.heap.size]? = some (.deferred (some [])):=gz0
 have D:∀ b,b<W.heap.size->W1.heap[b]? = W.heap[b]? :=by
  grind
 have y:∀ b,W.heap.size<=b->h b=none:=by
  intro b s
  cases e:h b with
  | none=>rfl
  | some o=>have:=R7 (r.sim b o e);omega
 have E:Sim (h.put l (.loop rec)) W1:=by
  intro b o e
  by_cases s:b=l
  ·subst s;rw [C2] at e;grind
  ·rw [B6 _ _ s] at e
   have h1:=r.sim b o e
   grind
 refine ⟨l,[{ target:=.collected W.heap.size,args:=#[] }],W1,{ target:=.fn (.func f) j,args:=first ++ #[.func (.yield l) #[] #[]] },W1,f,first ++ #[.func (.yield l) #[] #[]]++j,W1,?_,?_,fun _ _=>trivial,?_,(fun e=>by cases e),?_⟩
 ·rw [<- hW1,<- hl,<- hrec]
  simp [Instr.enterLoop,newObj,Sem.run_bind,Sem.run,Fence.wide]
  rfl
 ·have ec:a.eval (.const (.func (.yield l) #[] #[]))= .func (.yield l) #[] #[]:=rfl
  simp [resolve,r.evalVal hev,Deferred.ofValue,ec]
 ·simp [invoke,C]
 ·refine callsIn_wide.2 ((hv l rec (y l oo) ?_ W1 E).mono ?_)
  ·
   intro args h1 J w s W2 L
   obtain ⟨vs,rfl,S,s⟩:∃ vs,args=vs/\vs.length=zs.length/\B vs h1 J:=by
    obtain ⟨vs,S,e,s⟩:=exL.out s
    grind
   have u:W2.heap[l]? = some (.loop rec):=L l _ (C2 h1 l _)
   have z:=R7 u
   refine ⟨fn,(ps.zip args.toArray).foldl (fun tmps (t,v)=>tmps.setIfInBounds t v) a.tmps,asg,body,?_,fun m=>?_⟩
   ·unfold Instr.yield
    simp only [Sem.run_bind,H8 u,aC]
    rw [<- hrec]
    simp_all
   ·have M:Sim h1 W2:=by
     intro b o e
     have c:b≠l:=gz0
     exact L b o (by rw [B6 _ _ c];exact e)
    have hz:(ps.zip args.toArray).foldl (fun tmps (t,v)=>tmps.setIfInBounds t v) a.tmps=(ps.toList.zip args).foldl (fun tmps (t,v)=>tmps.setIfInBounds t v) a.tmps:=by
     rw [<- Array.foldl_toList];simp
    have gr:=g.round hps (vs:=args) M
    obtain ⟨K2,Q,ac⟩:=hQ l args h1 J _ _ s gr
    rw [hz]
    refine roundIn_of_wpIn (F:=Fence.wide) trivial (Q m _ ?_)
    intro st1 h2 a2 W3 V g2
    have d:W3.heap[l]? = some (.loop rec):=by
     obtain ⟨_,_,T,_⟩:=g2
     rw [T.keep l z w];exact u
    refine ⟨World.setO W3 l (.loop { rec with state:=.busy }),?_,?_⟩
    ·unfold Instr.beginRound
     simp only [Sem.run_bind,H8 d,aC,N2 d gz0]
     rw [<- hrec]
     rfl
    ·refine ac (World.setO W2 l (.loop { rec with state:=.busy })) st1 h2 a2 _ m _ V (g2.setLoop w z d) ?_
     intro st' h' a' W' hJ g'
     obtain ⟨θ',r',k,_⟩:=g'
     have A:W'.heap[l]? = some (.loop { rec with state:=.busy }):=by
      rw [k.keep l (by simpa [World.setO] using z) w]
      exact R5 u
     have X:h' l=none:=by
      cases e:h' l with
      | none=>rfl
      | some o=>have:=k.new l o w e;simp [World.setO] at this;omega
     refine ⟨.bool true,World.setO W' l (.loop rec),?_,.bool true,h'.put l (.loop rec),rfl,⟨rfl,h',X,rfl,hJ⟩,?_⟩
     ·unfold aO
      simp only [Sem.run_bind,H8 A,aC,N2 A gz0]
      rw [<- hrec]
      rfl
     ·refine ⟨fun b o e=>?_,k.os,k.tape,k.output,?_,fun b s e=>?_,fun b o e N=>?_⟩
      ·by_cases s:b=l
       ·subst s;rw [C2] at e;cases e;exact R5 A
       ·rw [B6 _ _ s] at e
        rw [D3 s];exact k.sim b o e
      ·have:=k.size;simpa [World.setO] using this
      ·have c:b≠l:=by rintro rfl;rw [C2] at e;cases e
       rw [B6 _ _ c] at e
       rw [D3 c,k.keep b (by simpa [World.setO] using s) e,D3 c]
      ·have c:b≠l:=by rintro rfl;rw [C2] at e;cases e
       rw [B6 _ _ c] at e N
       have:=k.new b o e N
       simpa [World.setO] using this
  ·rintro e W3 ⟨rv,h2,rfl,⟨O,af,rfl,R⟩,i⟩
   have d:W3.heap[l]? = some (.loop rec):=i.sim l _ (C2 O l _)
   have G:Fr h W O (World.setO W3 l (.loop { rec with state:=.exhausted })):=by
    have e1:W1.os=W.os/\W1.tape=W.tape/\W1.output=W.output:=gz0
    refine ⟨fun b o e=>?_,i.os.trans e1.1,i.tape.trans e1.2.1,i.output.trans e1.2.2,?_,fun b s e=>?_,fun b o e N=>?_⟩
    ·have c:b≠l:=gz0
     rw [D3 c]
     exact i.sim b o (by rw [B6 _ _ c];exact e)
    ·have:=i.size
     simp [World.setO];omega
    ·have c:b≠l:=oo
     rw [D3 c,i.keep b oo (by rw [B6 _ _ c];exact e),D b s]
    ·have c:b≠l:=gz0
     have:=i.new b o (by rw [B6 _ _ c];exact e) (by rw [B6 _ _ c];exact N)
     omega
   refine ⟨none,World.setO W3 l (.loop { rec with state:=.exhausted }),?_,hK O _ _ R ⟨θ,?_,fr.trans G,aa⟩⟩
   ·unfold aP
    simp only [Sem.run_bind,H8 d,aC]
    rw [<- hrec] at d ⊢
    simp [N2 d gz0]
   ·have p:=r.world G
    refine ⟨?_,p.size,p.slot,p.sim,p.own,p.inj,p.wf,p.out⟩
    obtain ⟨rs,n1,n2,n3⟩:=p.defers
    obtain ⟨ab,m1,m2,m3⟩:=r.defers
    have ad:rs=ab:=by
     have:=n2.symm.trans m2
     exact (List.map_inj_right (fun a b e=>by injection e)).1 this
    refine ⟨W.heap.size::rs,List.nodup_cons.2 ⟨fun hm=>?_,n1⟩,by simp [n2],fun q hq=>?_⟩
    ·grind
    ·rcases List.mem_cons.1 hq with rfl|hq
     ·refine ⟨fr.size,?_,?_⟩
      ·cases e:O W.heap.size with
       | none=>rfl
       | some o=>
        have h4:=i.new W.heap.size o (by rw [B6 _ _ oo];grind) (by rw [B6 _ _ oo];exact e)
        omega
      ·rw [D3 oo,i.keep _ oo (by rw [B6 _ _ oo];grind)]
       exact H
     grind
def Km{h0:aG}{W0:aE}{x:Operand}{ps:Array Tmp}{asg body:aQ}{v:aD}{zs:List aD}{B:List aD->aG->(aG->Prop)->(aG->Prop)->Prop}{K KR:aG->Prop}{Q':Exit->Act->aE->Prop}
 (g:aI n h0 W0 st h a W) (hev:C5 st x= .val v) (hlen:zs.length=ps.size) (hps:∀ t∈ps.toList,t<n)
 (hv:Ui P v h (fun args h1 J JR=>exL zs fun vs=>args=vs/\B vs h1 J JR) K KR)
 (hQ:∀ (l:Nat) vs h1 J JR a1 W1,B vs h1 J JR->aI n h1 W1 (Dn st ps.toList vs) h1 a1 W1->∃ K2:VS->aG->Prop,
  (∀ fu' (Q2:Exit->Act->aE->Prop),(∀ st' h' a' W',K2 st' h'->aI n h1 W1 st' h' a' W'->Q2 .normal a' W')->asg.wpIn (Fence.wide.inRound l) fu' P Q2 a1 W1)/\
  ∀ W1' st1 h2 a2 W2 fu' (Q2:Exit->Act->aE->Prop),K2 st1 h2->aI n h1 W1' st1 h2 a2 W2->(∀ st' h' a' W',J h'->aI n h1 W1' st' h' a' W'->Q2 .normal a' W')->(∀ st' h' a' W',JR h'->aI n h1 W1' st' h' a' W'->Q2 .ret a' W')->body.wpIn (Fence.wide.inRound l) fu' P Q2 a2 W2)
 (hK:∀ h' a' W',K h'->aI n h0 W0 st h' a' W'->Q' .normal a' W') (hKR:∀ h' a' W',KR h'->aI n h0 W0 st h' a' W'->Q' .ret a' W'):(Code.rangeFunc x ps asg body).wpIn Fence.wide fu P Q' a W:=by
 obtain ⟨f,first,j,rfl,N,hv⟩:=hv
 obtain ⟨θ,r,fr,aj⟩:=id g
 refine wpIn_rangeFunc fun fn _=>?_
 generalize hrec:({ state:=.ready,pending:=none,fn:=fn,tmps:=a.tmps,params:=ps,assign:=asg,body:=body,defers:=W.heap.size }:Loop)=rec
 generalize hl:W.heap.size+1=l
 generalize hW1:({ W with heap:=(W.heap.push (.deferred (some []))).push (.loop rec) }:aE)=W1
 have an:W1.heap.size=W.heap.size+2:=gz0
 have V:W1.heap[W.heap.size]? = some (.deferred (some [])):=gz0
 have O:∀ b,b<W.heap.size->W1.heap[b]? = W.heap[b]? :=by
  grind
 have G:∀ b,W.heap.size<=b->h b=none:=by
  intro b y
  cases e:h b with
  | none=>rfl
  | some o=>have:=R7 (r.sim b o e);omega
 have S:Sim (h.put l (.loop rec)) W1:=by
  intro b o e
  by_cases y:b=l
  ·subst y;rw [C2] at e;grind
  ·rw [B6 _ _ y] at e
   have h1:=r.sim b o e
   grind
 refine ⟨l,[{ target:=.collected W.heap.size,args:=#[] }],W1,{ target:=.fn (.func f) j,args:=first ++ #[.func (.yield l) #[] #[]] },W1,f,first ++ #[.func (.yield l) #[] #[]]++j,W1,?_,?_,fun _ _=>trivial,?_,(fun e=>by cases e),?_⟩
 ·rw [<- hW1,<- hl,<- hrec]
  simp [Instr.enterLoop,newObj,Sem.run_bind,Sem.run,Fence.wide]
  rfl
 ·have ec:a.eval (.const (.func (.yield l) #[] #[]))= .func (.yield l) #[] #[]:=rfl
  simp [resolve,r.evalVal hev,Deferred.ofValue,ec]
 ·simp [invoke,N]
 ·refine callsIn_wide.2 ((hv l rec (G l oo) ?_ W1 S).mono ?_)
  ·
   intro args h1 J JR E y W2 aa
   obtain ⟨vs,rfl,ad,y⟩:∃ vs,args=vs/\vs.length=zs.length/\B vs h1 J JR:=by
    obtain ⟨vs,ad,e,y⟩:=exL.out y
    grind
   have A:W2.heap[l]? = some (.loop rec):=aa l _ (C2 h1 l _)
   have H:=R7 A
   refine ⟨fn,(ps.zip args.toArray).foldl (fun tmps (t,v)=>tmps.setIfInBounds t v) a.tmps,asg,body,?_,fun m=>?_⟩
   ·unfold Instr.yield
    simp only [Sem.run_bind,H8 A,aC]
    rw [<- hrec]
    simp_all
   ·have ab:Sim h1 W2:=by
     intro b o e
     have d:b≠l:=gz0
     exact aa b o (by rw [B6 _ _ d];exact e)
    have hz:(ps.zip args.toArray).foldl (fun tmps (t,v)=>tmps.setIfInBounds t v) a.tmps=(ps.toList.zip args).foldl (fun tmps (t,v)=>tmps.setIfInBounds t v) a.tmps:=by
     rw [<- Array.foldl_toList];simp
    have gr:=g.round hps (vs:=args) ab
    obtain ⟨K2,ac,al⟩:=hQ l args h1 J JR _ _ y gr
    rw [hz]
    refine roundIn_of_wpIn (F:=Fence.wide) trivial (ac m _ ?_)
    intro st1 h2 a2 W3 af g2
    have k:W3.heap[l]? = some (.loop rec):=by
     obtain ⟨_,_,ae,_⟩:=g2
     rw [ae.keep l H E];exact A
    refine ⟨World.setO W3 l (.loop { rec with state:=.busy }),?_,?_⟩
    ·unfold Instr.beginRound
     simp only [Sem.run_bind,H8 k,aC,N2 k gz0]
     rw [<- hrec]
     rfl
    ·have C:∀ (u:Option aQ) (c:Loop) (bv:Bool),(c={ rec with state:=if u.isNone then .ready else .done,pending:=u })->bv=u.isNone->∀ st' h' a' W',aI n h1 (World.setO W2 l (.loop { rec with state:=.busy })) st' h' a' W'->∀ (X:VP),(∀ p,p l=none->p=h'->X (.bool bv) (p.put l (.loop c)))->∃ v w',(aO l u).run P W'= .ok v w'/\∃ r h',(Ending.returned v)= .returned r/\X r h'/\Fr (h1.put l (.loop rec)) W2 h' w':=by
      intro u c bv Q ag st' h' a' W' R X hX
      obtain ⟨θ',r',s,_⟩:=R
      have L:W'.heap[l]? = some (.loop { rec with state:=.busy }):=by
       rw [s.keep l (by simpa [World.setO] using H) E]
       exact R5 A
      have ai:h' l=none:=by
       cases e:h' l with
       | none=>rfl
       | some o=>have:=s.new l o E e;simp [World.setO] at this;omega
      refine ⟨.bool bv,World.setO W' l (.loop c),?_,.bool bv,h'.put l (.loop c),rfl,hX h' ai rfl,?_⟩
      ·unfold aO
       simp only [Sem.run_bind,H8 L,aC,N2 L gz0]
       rw [Q,ag]
       rfl
      ·refine ⟨fun b o e=>?_,s.os,s.tape,s.output,?_,fun b y e=>?_,fun b o e e'=>?_⟩
       ·by_cases y:b=l
        ·subst y;rw [C2] at e;cases e;exact R5 L
        ·rw [B6 _ _ y] at e
         rw [D3 y];exact s.sim b o e
       ·have:=s.size;simpa [World.setO] using this
       ·have d:b≠l:=by rintro rfl;rw [C2] at e;cases e
        rw [B6 _ _ d] at e
        rw [D3 d,s.keep b (by simpa [World.setO] using y) e,D3 d]
       ·have d:b≠l:=by rintro rfl;rw [C2] at e;cases e
        rw [B6 _ _ d] at e e'
        have:=s.new b o e e'
        simpa [World.setO] using this
     refine al (World.setO W2 l (.loop { rec with state:=.busy })) st1 h2 a2 _ m _ af (g2.setLoop E H k) ?_ ?_
     ·intro st' h' a' W' hJ R
      exact C none rec true gz0 rfl st' h' a' W' R _ fun p z e3=>⟨p,z,.inl ⟨rfl,rfl,gz0⟩⟩
     ·intro st' h' a' W' hJ R
      exact C (some .ret) (Ol rec) false rfl rfl st' h' a' W' R _ fun p z e3=>⟨p,z,.inr ⟨rfl,rfl,gz0⟩⟩
  ·have C:∀ (c:Loop),c.state ≠ .busy->∀ p,p l=none->∀ W3,Fr (h.put l (.loop rec)) W1 (p.put l (.loop c)) W3->(aP l).run P W3= .ok c.pending (World.setO W3 l (.loop { c with state:=.exhausted }))/\aI n h0 W0 st p { a with defers:=[{ target:=.collected W.heap.size,args:=#[] }]++a.defers } (World.setO W3 l (.loop { c with state:=.exhausted })):=by
    intro c ah p z W3 i
    have k:W3.heap[l]? = some (.loop c):=i.sim l _ (C2 p l _)
    have T:Fr h W p (World.setO W3 l (.loop { c with state:=.exhausted })):=by
     have M:W1.os=W.os/\W1.tape=W.tape/\W1.output=W.output:=gz0
     refine ⟨fun b o e=>?_,i.os.trans M.1,i.tape.trans M.2.1,i.output.trans M.2.2,?_,fun b y e=>?_,fun b o e e'=>?_⟩
     ·have d:b≠l:=gz0
      rw [D3 d]
      exact i.sim b o (by rw [B6 _ _ d];exact e)
     ·have:=i.size
      simp [World.setO];omega
     ·have d:b≠l:=oo
      rw [D3 d,i.keep b oo (by rw [B6 _ _ d];exact e),O b y]
     ·have d:b≠l:=gz0
      have:=i.new b o (by rw [B6 _ _ d];exact e) (by rw [B6 _ _ d];exact e')
      omega
    refine ⟨?_,⟨θ,?_,fr.trans T,aj⟩⟩
    ·unfold aP
     simp only [Sem.run_bind,H8 k,aC]
     rw [iN gz0]
     simp [N2 k gz0]
    ·have w:=r.world T
     refine ⟨?_,w.size,w.slot,w.sim,w.own,w.inj,w.wf,w.out⟩
     obtain ⟨rs,n1,n2,n3⟩:=w.defers
     obtain ⟨ak,m1,m2,m3⟩:=r.defers
     have am:rs=ak:=by
      have:=n2.symm.trans m2
      exact (List.map_inj_right (fun a b e=>by injection e)).1 this
     refine ⟨W.heap.size::rs,List.nodup_cons.2 ⟨fun hm=>?_,n1⟩,by simp [n2],fun q hq=>?_⟩
     ·grind
     ·rcases List.mem_cons.1 hq with rfl|hq
      ·refine ⟨fr.size,?_,?_⟩
       ·cases e:p W.heap.size with
        | none=>rfl
        | some o=>
         have h4:=i.new W.heap.size o (by rw [B6 _ _ oo];grind) (by rw [B6 _ _ oo];exact e)
         omega
       ·rw [D3 oo,i.keep _ oo (by rw [B6 _ _ oo];grind)]
        exact V
      grind
   rintro e W3 ⟨rv,h2,rfl,⟨p,z,D⟩,i⟩
   rcases D with ⟨rfl,D⟩|⟨rfl,D⟩
   ·obtain ⟨M,e2⟩:=C rec gz0 p z W3 i
    refine ⟨_,_,M,?_⟩
    grind
   ·obtain ⟨M,e2⟩:=C (Ol rec) (by intro e;cases e) p z W3 i
    exact ⟨_,_,M,wpIn_ret (hKR p _ _ D e2)⟩
def A4d(Q:Exit->Act->aE->Prop):Exit->Act->aE->Prop
 | .goto _,_,_=>False
 | e,a,w=>Q e a w
def L9{b:Frame}{k:List Item}{cs:List Frame}{w:aE}{c:aQ}:step P (lone (b.atR a (.code (.scope c)::k)) cs w)= .next (lone (b.atR a (.code c :: .inScope c::k)) cs w):=
 step_lone_go (by rfl)
def Iv{b:Frame}{k:List Item}{cs:List Frame}{w:aE}{c:aQ}:step P (lone (b.atR a (.inScope c::k)) cs w)= .next (lone (b.atR a k) cs w):=
 step_lone_go (by rfl)
def Mh{c:aQ}{Q:Exit->Act->aE->Prop}(h:c.wpIn F fu P (A4d Q) a W):(Code.scope c).wpIn F fu P Q a W:=by
 intro b k s r q p
 have i:(lone (b.atR a (.code (.scope c)::k)) s W).fenced P F:=fenced_calm q p rfl
 obtain ⟨e,a₁,w₁,g,d⟩:=h b (.inScope c::k) s r q p
 cases e with
 | normal=>exact ⟨.normal,a₁,w₁,g,.head i L9 (StepsIn.trans d (.one (fenced_calm q p rfl) Iv))⟩
 | exit id'=>
  exact ⟨.exit id',a₁,w₁,g,fun w u=>.head i L9 (d.1 w (by assumption)),
   fun n u=>let ⟨k₁,h1,h2⟩:=d.2 n (by assumption);⟨k₁,h1,.head i L9 h2⟩⟩
 | goto l=>exact g.elim
 | ret=>exact ⟨_,a₁,w₁,g,.of_steps (.one i L9) d⟩
 | panic ch=>exact ⟨_,a₁,w₁,g,.of_steps (.one i L9) d⟩
 | outgrown=>exact ⟨_,a₁,w₁,g,.of_steps (.one i L9) d⟩
def Qj{fa:FnAnn}(c:aQ):∀ {F:Fence} [FOk F] {fu:Nat} {h0:aG} {W0:aE} (cfg:Cfg) (st:VS) (h:aG) (a:Act) (W:aE) (Q:Ex->VS->aG->Prop) (Q':Exit->Act->aE->Prop),cfg.n=n->Bodies P cfg.fns->(cfg.inr=false->F=Fence.wide)->aI n h0 W0 st h a W->
 J2 P fa c cfg st h Q->(∀ e st' h' a' W',Q e st' h'->aI n h0 W0 st' h' a' W'->Agree cfg.lim st st'->Q' e.toExit a' W')->c.wpIn F fu P Q' a W:=by
 induction c with
 | skip=>exact fun {F} _ {fu h0 W0} cfg st h a W Q Q' s u A g i p=>wpIn_skip (p .normal st h a W i g (Agree.refl _ _))
 | region id ops draw=>
  intro F _ fu h0 W0 cfg st h a W Q Q' s u A g i p
  cases draw with
  | false=>exact wpIn_region (Wr s u _ st h a W g i fun st' h' a' W' d m w=>p .normal st' h' a' W' d m w)
  | true=>
   obtain ⟨q,i⟩:=i.both
   exact Qh s u q g i fun st' h' a' W' d m w=>p .normal st' h' a' W' d m w
 | seq x y ihx ihy=>
  intro F _ fu h0 W0 cfg st h a W Q Q' s u A g i p
  unfold J2 at i
  split at i
  ·refine wpIn_seq (ihx cfg st h a W _ _ s u A g i fun e st' h' a' W' d m w=>?_)
   cases e with
   | normal=>exact ihy cfg st' h' a' W' Q Q' s u A m d fun e M C T W2 k R L=>p e M C T W2 k R (w.trans L)
   | exit id=>exact p (.exit id) st' h' a' W' d m w
   | ret=>exact p .ret st' h' a' W' d m w
  ·rename_i D _
   obtain ⟨q,J,ae,af⟩:=i.both
   refine wpIn_seq (ihx (cfg.within D) st h a W _ _ s u A g ae fun e st' h' a' W' d m w=>?_)
   cases e with
   | normal=>
    obtain ⟨xs,ys,hx,hy,O,hJ⟩:=d.out
    obtain ⟨hl,hz⟩:=Gf O
    have G:=allL.at af hl hz h' hJ
    exact ihy cfg _ h' a' W' Q Q' s u A (m.head q w g.wf s hx hy) G fun e M C T W2 k R L=>p e M C T W2 k R (((Agree.head q _).within q).trans L)
   | exit id=>exact p (.exit id) st' h' a' W' d m (w.within q)
   | ret=>exact p .ret st' h' a' W' d m (w.within q)
 | cond c x y ihx ihy=>
  intro F _ fu h0 W0 cfg st h a W Q Q' s u A g i p
  unfold J2 at i
  split at i
  ·rename_i b G
   obtain ⟨θ,r,_,_⟩:=id g
   cases b with
   | true=>exact wpIn_cond_true (r.evalVal G) (ihx cfg st h a W Q Q' s u A g i p)
   | false=>exact wpIn_cond_false (r.evalVal G) (ihy cfg st h a W Q Q' s u A g i p)
  grind
 | block id b ih=>
  intro F _ fu h0 W0 cfg st h a W Q Q' s u A g i p
  refine wpIn_block (ih cfg st h a W _ _ s u A g i fun e st' h' a' W' d m w=>?_)
  cases e with
  | normal=>exact p .normal st' h' a' W' d m w
  | ret=>exact p .ret st' h' a' W' d m w
  | exit j=>
   by_cases hj:j=id
   ·subst hj
    have d:Q .normal st' h':=by simp_all
    show Exit.inBlock j Q' (.exit j) a' W'
    simp only [Exit.inBlock,if_true]
    exact p .normal st' h' a' W' d m w
   ·have d:Q (.exit j) st' h':=by simp_all
    show Exit.inBlock id Q' (.exit j) a' W'
    simp only [Exit.inBlock,hj,if_false]
    exact p (.exit j) st' h' a' W' d m w
 | loop b ih=>
  intro F _ fu h0 W0 cfg st h a W Q Q' s u A g i p
  unfold J2 at i
  split at i
  ·exact i.elim
  ·rename_i D _
   obtain ⟨q,Inv,μ,X,C⟩:=i.both
   obtain ⟨xs,ys,hx,hy,O,hI⟩:=X.out
   have aa:=g.wf
   refine Io (fun (z:List aD × aG) a' W'=>Dw D.zs z.1=true/\Inv z.1 z.2/\aI n h0 W0 (Q1 D st z.1) z.2 a' W') (fun z=>μ z.1 z.2) (xs++ys,h) ⟨O,hI,g.head q (Agree.refl _ _) aa s hx hy⟩ ?_
   intro z a1 W1 ⟨hk1,hI1,g1⟩
   obtain ⟨hl,hz⟩:=Gf hk1
   have G:=allL.at C hl hz z.2 hI1
   refine ih (cfg.within D) _ z.2 a1 W1 _ _ s u A g1 G fun e st' h' a' W' d m w=>?_
   have S:Agree (some D.lim) st st':=(Agree.head q _).trans w
   cases e with
   | normal=>
    obtain ⟨ad,ai,ac,ak,ah,al,hμ⟩:=d.out
    exact ⟨(ad++ai,h'),⟨ah,al,m.head q S aa s ac ak⟩,hμ⟩
   | exit id=>exact p (.exit id) st' h' a' W' d m (S.within q)
   | ret=>exact p .ret st' h' a' W' d m (S.within q)
 | exit id=>exact fun {F} _ {fu h0 W0} cfg st h a W Q Q' s u A g i p=>wpIn_exit (p (.exit id) st h a W i g (Agree.refl _ _))
 | ret=>exact fun {F} _ {fu h0 W0} cfg st h a W Q Q' s u A g i p=>wpIn_ret (p .ret st h a W i g (Agree.refl _ _))
 | rangeFunc x ps asg body iha ihb=>
  intro F _ fu h0 W0 cfg st h a W Q Q' s u A g i p
  unfold J2 at i
  split at i
  ·rename_i v zs V am
   obtain ⟨q,i⟩:=i.both
   simp only [aF,Bool.not_eq_true',aJ] at q
   obtain ⟨⟨H,an⟩,ab⟩:=q
   obtain rfl:=A ab
   split at i
   ·refine Ng g V (aK H) (fun t ht=>by simp_all) i ?_ (fun h' a' W' d m=>p .normal st h' a' W' d m (Agree.refl _ _))
    intro l vs X J a1 W1 G g1
    refine ⟨fun E C=>J2 P fa body { cfg with lim:=none,inr:=true } E C fun e _ h3=>
      match e with
      | .normal=>J h3
      | _=>False,fun N Q2 B=>?_,fun W1' E C T W2 N Q2 O R B=>?_⟩
    ·refine iha (F:=Fence.wide.inRound l) { cfg with lim:=none,inr:=true } _ X a1 W1 _ _ s u (fun e=>by cases e) g1 G fun e st' h' a' W' d m _=>?_
     cases e with
     | normal=>exact B st' h' a' W' d m
     | _=>exact d.elim
    ·refine ihb (F:=Fence.wide.inRound l) { cfg with lim:=none,inr:=true } _ C T W2 _ _ s u (fun e=>by cases e) R O fun e st' h' a' W' d m _=>?_
     cases e with
     | normal=>exact B st' h' a' W' d m
     | _=>exact d.elim
   ·refine Km g V (aK H) (fun t ht=>by simp_all) i ?_ (fun h' a' W' d m=>p .normal st h' a' W' d m (Agree.refl _ _)) (fun h' a' W' d m=>p .ret st h' a' W' d m (Agree.refl _ _))
    intro l vs X J JR a1 W1 G g1
    refine ⟨fun E C=>J2 P fa body { cfg with lim:=none,inr:=true } E C fun e _ h3=>
      match e with
      | .normal=>J h3
      | .ret=>JR h3
      | _=>False,fun N Q2 B=>?_,fun W1' E C T W2 N Q2 O R B aj=>?_⟩
    ·refine iha (F:=Fence.wide.inRound l) { cfg with lim:=none,inr:=true } _ X a1 W1 _ _ s u (fun e=>by cases e) g1 G fun e st' h' a' W' d m _=>?_
     cases e with
     | normal=>exact B st' h' a' W' d m
     | _=>exact d.elim
    ·refine ihb (F:=Fence.wide.inRound l) { cfg with lim:=none,inr:=true } _ C T W2 _ _ s u (fun e=>by cases e) R O fun e st' h' a' W' d m _=>?_
     cases e with
     | normal=>exact B st' h' a' W' d m
     | ret=>exact aj st' h' a' W' d m
     | exit _=>exact d.elim
  grind
 | scope b ih=>
  intro F _ fu h0 W0 cfg st h a W Q Q' s u A g i p
  refine Mh (ih cfg st h a W Q (A4d Q') s u A g i fun e st' h' a' W' d m w=>?_)
  cases e with
  | normal=>exact p .normal st' h' a' W' d m w
  | exit id=>exact p (.exit id) st' h' a' W' d m w
  | ret=>exact p .ret st' h' a' W' d m w
 | label l=>exact fun {F} _ {fu h0 W0} cfg st h a W Q Q' s u A g i p=>wpIn_label (p .normal st h a W i g (Agree.refl _ _))
 | _=>intro F _ fu h0 W0 cfg st h a W Q Q' s u A g i p;exact i.elim
def Xk(args:List aD):VS:={ env:=fun i=>.val (args.getD i undef),own:=fun _=>none }
def Oj(P:aL)(st:VS):ResultVar->Option aD
 | .tmp t=>match st.env t with
  | .val v=>some v
  | _=>none
 | .cell a t=>match st.env a with
  | .own k off=>match st.own k with
   | some cs=>match Cw P t with
    | some true=>bif Nat.ble (off+P.cellsOf t) cs.length then some (.agg ((cs.drop off).take (P.cellsOf t)).toArray) else none
    | some false=>cs[off]?
    | none=>none
   | none=>none
  | _=>none
def Ix(P:aL)(st:VS):List ResultVar->Option (List aD)
 | []=>some []
 | r::rs=>match Oj P st r with
  | some v=>match Ix P st rs with
   | some vs=>some (v::vs)
   | none=>none
  | none=>none
def Wv(P:aL)(st:VS)(h:aG):List ResultVar->(List aD->Prop)->Prop
 | [],C=>C []
 | .tmp t::rs,C=>match st.env t with
  | .val v=>Wv P st h rs fun vs=>C (v::vs)
  | _=>False
 | .cell x t::rs,C=>match st.env x with
  | .own k off=>match st.own k with
   | some cs=>L5 P t cs off fun w=>match w with
    | .val v=>Wv P st h rs fun vs=>C (v::vs)
    | _=>False
   | none=>False
  | .val (.pointer (some p))=>L6 P t p h fun w=>match w with
   | .val v=>Wv P st h rs fun vs=>C (v::vs)
   | _=>False
  | _=>False
def Dk:List aD->aD
 | [v]=>v
 | vs=>.tuple vs.toArray
def Nc(P:aL)(rs:List ResultVar)(K:VP)(e:Ex)(st:VS)(h:aG):Prop:=
 match e with
 | .exit _=>False
 | _=>match Ix P st rs with
  | some a=>K (Dk a) h
  | none=>Wv P st h rs fun a=>K (Dk a) h
def A2k(P:aL)(fa:FnAnn)(cfg:Cfg)(rs:List ResultVar)(c:aQ)(args:List aD)(h:aG)(K:VP):Prop:=
 J2 P fa c cfg (Xk args) h fun e a b=>Nc P rs K e a b
def Po{θ:Nat->Nat}(r:Rel s0 n θ st h a W){rv:ResultVar}{v:aD}(e:Oj P st rv=some v):
 (match rv with
  | .tmp t=>(pure (a.tmps.getD t undef):Sem aD)
  | .cell x t=>do loadVar t (<- asAddr (a.tmps.getD x undef))).run P W= .ok v W:=by
 cases rv with
 | tmp t=>
  simp only [Oj] at e
  have:=r.slot' t
  split at e
  ·rename_i u c
   rw [c] at this
   have this:a.tmps.getD t undef=u:=this
   simp_all
  ·cases e
 | cell x t=>
  simp only [Oj] at e
  have g:=r.slot' x
  split at e
  ·rename_i k b m
   rw [m] at g
   have g:a.tmps.getD x undef= .pointer (some ⟨θ k,b,none⟩):=g
   split at e
   ·rename_i l i
    have p:L5 P t l b fun w=>w= .val v:=by
     split at e
     ·rename_i d
      cases hb:Nat.ble (b+P.cellsOf t) l.length with
      | false=>grind
      | true=>
       rw [hb] at e;injection e with e
       unfold L5;rw [d]
       simp only [Bj d,hb,Bool.and_self]
       show _=_
       rw [e]
     ·unfold L5;grind
     ·cases e
    obtain ⟨u,c,j⟩:=T7 r i p
    injection c with c;subst c
    simp only [aR,aN,Sem.run_bind,Sem.run_pure,aC] at j
    simp only [g,asAddr,Sem.run_bind,Sem.run_pure,aC,j]
   ·cases e
  ·cases e
def Ft{θ:Nat->Nat}(r:Rel s0 n θ st h a W)(rs:List ResultVar):∀ {vs:List aD},Ix P st rs=some vs->
 (rs.mapM fun (rv:ResultVar)=>match rv with
  | .tmp t=>(pure (a.tmps.getD t undef):Sem aD)
  | .cell x t=>do loadVar t (<- asAddr (a.tmps.getD x undef))).run P W= .ok vs W:=by
 induction rs with
 | nil=>intro vs e;injection e with e;simp_all
 | cons rv rs ih=>
  intro vs e
  unfold Ix at e
  split at e
  ·rename_i v c
   split at e
   ·rename_i d b
    injection e with e;subst e
    rw [List.mapM_cons]
    simp only [Sem.run_bind,Po r c,aC,ih b,Sem.run_pure]
   ·cases e
  ·cases e
def Ok{θ:Nat->Nat}(r:Rel s0 n θ st h a W)(rs:List ResultVar):∀ {C:List aD->Prop},Wv P st h rs C->∃ vs,C vs/\
 (rs.mapM fun (rv:ResultVar)=>match rv with
  | .tmp t=>(pure (a.tmps.getD t undef):Sem aD)
  | .cell x t=>do loadVar t (<- asAddr (a.tmps.getD x undef))).run P W= .ok vs W:=by
 induction rs with
 | nil=>intro C e;exact ⟨[],e,by simp⟩
 | cons rv rs ih=>
  intro C e
  have next:∀ (v:aD),(match rv with
   | .tmp t=>(pure (a.tmps.getD t undef):Sem aD)
   | .cell x t=>do loadVar t (<- asAddr (a.tmps.getD x undef))).run P W= .ok v W->(Wv P st h rs fun vs=>C (v::vs))->∃ vs,C vs/\
  ((rv::rs).mapM fun (rv:ResultVar)=>match rv with
   | .tmp t=>(pure (a.tmps.getD t undef):Sem aD)
   | .cell x t=>do loadVar t (<- asAddr (a.tmps.getD x undef))).run P W= .ok vs W:=by
   intro v q g
   obtain ⟨w,m,c⟩:=ih g
   simp_all
  cases rv with
  | tmp t=>
   unfold Wv at e
   have:=r.slot' t
   split at e
   ·rename_i u d
    rw [d] at this
    have this:a.tmps.getD t undef=u:=this
    exact next u (by simp_all) e
   grind
  | cell x t=>
   unfold Wv at e
   have b:=r.slot' x
   split at e
   ·rename_i k i g
    rw [g] at b
    have b:a.tmps.getD x undef= .pointer (some ⟨θ k,i,none⟩):=b
    split at e
    ·rename_i s j
     obtain ⟨u,d,c⟩:=T7 r j e
     refine next u ?_ d
     simp only [aR,aN,Sem.run_bind,Sem.run_pure,aC] at c
     simp only [b,asAddr,Sem.run_bind,Sem.run_pure,aC,c]
    grind
   ·rename_i p l
    rw [l] at b
    have b:a.tmps.getD x undef= .pointer (some p):=b
    obtain ⟨u,d,c⟩:=Aw r.sim e
    refine next u ?_ d
    simp only [aR,aN,Sem.run_bind,Sem.run_pure,aC] at c
    simp only [b,asAddr,Sem.run_bind,Sem.run_pure,aC,c]
   grind
def Ba(fn:Func):aQ:=
 match fn.body with
 | some c=>c
 | none=>.skip
def Bodies.nil:Bodies P []:=fun g a=>by cases a
def B0{g:Nat}{l:List Nat}(hg:∀ args W,(callFunc g args).run P W= .ok (.enter g args) W)(hl:Bodies P l):Bodies P (g::l):=fun k a=>by
 cases a with
 | head=>exact hg
 | tail _ a=>exact hl k a
def Et{r:Nat}(e:W.heap[r]? = some (.deferred (some []))):(Instr.takeDeferred r).run P W= .ok [] (World.setO W r (.deferred none)):=by
 simp [Instr.takeDeferred,getObj,Sem.run_bind,Sem.run,e,N2 e gz0]
def Ss{fn:Func}{tmps:Array aD}{R:Ending->aE->Prop}: ∀ (ds:List Deferred) (W:aE) (rs:List Nat),rs.Nodup->ds.map (·.target)=rs.map Target.collected->(∀ r∈rs,W.heap[r]? = some (.deferred (some [])))->
 (∀ W2:aE,W2.os=W.os->W2.tape=W.tape->W2.output=W.output->W2.heap.size=W.heap.size->(∀ b,b∉rs->W2.heap[b]? = W.heap[b]?)->∃ v,(results fn tmps).run P W2= .ok v W2/\R (.returned v) W2)->
 LeavesInM Fence.wide 0 P fn tmps R ds .returning W:=by
 intro ds
 induction ds with
 | nil=>
  intro W rs _ e _ x
  exact x W rfl rfl rfl rfl (fun _ _=>rfl)
 | cons d ds ih=>
  intro W rs i e m x
  cases rs with
  | nil=>cases e
  | cons r rs=>
   simp only [List.map_cons,List.cons.injEq] at e
   have j:=m r (by simp)
   obtain ⟨n,c⟩:=List.nodup_cons.1 i
   refine ⟨by simp,.inl ⟨r,_,e.1,Et j,ih _ rs c e.2 (fun q u=>?_) (fun W2 k l p g s=>x W2 k l p (by rw [g];simp [World.setO]) (fun b a=>?_))⟩⟩
   ·rw [D3 gz0];grind
   ·simp only [List.mem_cons,not_or] at a
    rw [s b a.2,D3 a.1]
def Oz{f:FuncId}{fn:Func}(hf:P.funcs[f]? = some fn){c:aQ}(hb:fn.body=some c){rs:List ResultVar}(hr:fn.results.toList=rs){fa:FnAnn}{cfg:Cfg}{args:List aD}(hn:cfg.n=args.length+(fn.ntmps-args.length))(hfn:Bodies P cfg.fns){h:aG}{K:VP}
 (hv:A2k P fa cfg rs c args h K):FCall P f args.toArray h K:=by
 intro W L
 subst hr
 have g:aI cfg.n h W (Xk args) h { tmps:=args.toArray++Array.replicate (fn.ntmps-args.toArray.size) undef,defers:=[] } W:=by
  refine ⟨fun _=>0,⟨MarksOk.nil,by simp [hn],fun i hi=>?_,L,(fun k H e=>by cases e),(fun k k' C=>by cases C),(fun i k T e=>by cases e),fun i hi=>?_⟩,Fr.refl L,(fun k C=>by cases C)⟩
  ·show _=args.getD i undef
   rcases Nat.lt_or_ge i args.length with x|x
   ·simp_all
   simp_all
  ·show AVal.val (args.getD i undef)=_
   grind
 refine callsIn_wide.1 (callsIn_of_wp_marks (n:=0) hf hb trivial (Qj c (F:=Fence.wide) cfg _ h _ W _ _ rfl hfn (fun _=>rfl) g hv fun e B p y W' a R _=>?_))
 obtain ⟨θ,r,s,_⟩:=R
 have j:(∀ {a2:Act} {W2:aE},Rel W.heap.size cfg.n θ B p a2 W2->∃ d,K (Dk d) p/\(fn.results.toList.mapM fun (rv:ResultVar)=>match rv with
  | .tmp t=>(pure (a2.tmps.getD t undef):Sem aD)
  | .cell x t=>do loadVar t (<- asAddr (a2.tmps.getD x undef))).run P W2= .ok d W2)->bodyPostM Fence.wide 0 P fn (fun e W'=>∃ r p,e= .returned r/\K r p/\Fr h W p W') .ret y W':=by
  intro A
  obtain ⟨rs,O,S,D⟩:=r.defers
  refine Ss y.defers W' rs O S (fun q Q=>(D q Q).2.2) ?_
  intro W2 M V N X G
  have z:Fr h W p W2:=by
   refine ⟨fun b o e=>?_,M.trans s.os,V.trans s.tape,N.trans s.output,by rw [X];exact s.size,fun b hb e=>?_,s.new⟩
   ·rw [G b (fun E=>gz0)];exact s.sim b o e
   ·rw [G b (fun E=>gz0)];exact s.keep b hb e
  have m:Rel W.heap.size cfg.n θ B p { y with defers:=[] } W2:=by
   refine ⟨MarksOk.nil,r.size,r.slot,z.sim,fun k H e=>?_,r.inj,r.wf,r.out⟩
   obtain ⟨t,g1,g2⟩:=r.own k H e
   grind
  obtain ⟨d,a,E⟩:=A m
  refine ⟨Dk d,?_,_,p,rfl,a,z⟩
  have e:(results fn y.tmps).run P W2=((fn.results.toList.mapM (fun (rv:ResultVar)=>match rv with
   | .tmp t=>(pure (y.tmps.getD t undef):Sem aD)
   | .cell x t=>do loadVar t (<- asAddr (y.tmps.getD x undef)))).run P W2).andThen fun l w=>.ok (if h:l.toArray.size=1 then l.toArray[0] else .tuple l.toArray) w:=by
   unfold results
   rw [Sem.run_bind,Array.mapM_eq_mapM_toList]
   simp only [map_eq_pure_bind,Sem.run_bind]
   generalize Sem.run P _ W2=x
   cases x<;>simp
  rw [e,E,aC]
  cases d with
  | nil=>rfl
  | cons v d=>cases d<;>rfl
 cases e with
 | exit id=>exact a.elim
 | normal=>
  unfold Nc at a
  split at a
  ·exact a.elim
  ·split at a
   ·rename_i d u;exact j fun m=>⟨d,a,Ft (P:=P) m fn.results.toList u⟩
   ·exact j fun m=>Ok (P:=P) m fn.results.toList a
 | ret=>
  unfold Nc at a
  split at a
  ·exact a.elim
  ·split at a
   ·rename_i d u;exact j fun m=>⟨d,a,Ft (P:=P) m fn.results.toList u⟩
   ·exact j fun m=>Ok (P:=P) m fn.results.toList a
def A41{L:List Nat}(hL:Bodies P L){f:FuncId}{fn:Func}(hf:P.funcs[f]? = some fn)(rs:List ResultVar)(fa:FnAnn)(n:Nat)(own fns wr:List Nat){args:List aD}{h:aG}{K:VP}{T:Prop}
 (e:(fn.body.isSome,fn.results.toList,n,fns.all (has L),A2k P fa { n:=n,own:=own,lim:=none,fns:=fns,wr:=wr } rs (Ba fn) args h K)=(true,rs,args.length+(fn.ntmps-args.length),true,T)) (hvc:T):FCall P f args.toArray h K:=by
 simp only [Prod.mk.injEq] at e
 obtain ⟨k,j,b,c,a⟩:=e
 have d:fn.body=some (Ba fn):=by
  unfold Ba
  grind
 exact Oz hf d j b (fun g i=>hL g (N5.1 (List.all_eq_true.1 c g i))) (a.mpr hvc)
end
abbrev I(n:Int):aD:=.int .i64 n
abbrev I32(n:Int):aD:=.int .i32 n
abbrev U(n:Int):aD:=.int .u64 n
abbrev U32(n:Int):aD:=.int .u32 n
abbrev Y(n:Int):aD:=.int .u8 n
abbrev B7(n:Int):Int:=IntKind.i64.wrap n
abbrev A4e(n:Int):Int:=IntKind.i32.wrap n
abbrev C1(n:Int):Int:=IntKind.u64.wrap n
abbrev F9(n:Int):Int:=IntKind.u32.wrap n
abbrev wu8(n:Int):Int:=IntKind.u8.wrap n
def Qn(k:IntKind)(x y:Int):Int:=k.wrap (BitVec.ofInt k.bits x &&& BitVec.ofInt k.bits y).toNat
def bor(k:IntKind)(x y:Int):Int:=k.wrap (BitVec.ofInt k.bits x ||| BitVec.ofInt k.bits y).toNat
def A4k(k:IntKind)(x y:Int):Int:=k.wrap (BitVec.ofInt k.bits x ^^^ BitVec.ofInt k.bits y).toNat
def Zz(k:IntKind)(x y:Int):Int:=k.wrap (BitVec.ofInt k.bits x &&& ~~~BitVec.ofInt k.bits y).toNat
