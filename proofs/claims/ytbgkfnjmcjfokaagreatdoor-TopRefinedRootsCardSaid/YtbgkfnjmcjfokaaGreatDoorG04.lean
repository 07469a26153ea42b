/- A part. -/
import Derived.Test.YtbgkfnjmcjfokaaGreatDoorG03
set_option linter.all false
open Bool renaming and_eq_true->aI
open _root_.Go.Instr renaming sureAddr->aQ,endRound->aR,endLoop->aT,loadAt->aV
open List renaming all_eq_true->aN,drop_length_add_append->aP
open Nat renaming beq->aJ,eq_of_beq_eq_true->aL
open _root_.Go.Result renaming andThen_ok->aC
open _root_.Go renaming Value->aE,World->aF,Program->aO,Code->aU
open _root_.Go.Proofs.YtbgkfnjmcjfokaaGreatDoor renaming Heap->aH,Good->aK
namespace Go.Proofs.YtbgkfnjmcjfokaaGreatDoor
open Go
inductive Ex where
 | normal
 | exit (id:Nat)
 | ret
structure Ann where
 slots:List Nat
 owns:List (Nat × Nat)
 zs:List aE
 lim:Lim
structure FnAnn where
 loops:List (Nat × Ann):=[]
 cuts:List (Nat × Ann):=[]
 orders:List (Nat × List Nat × List (List Nat)):=[]
 rounds:List (Nat × List aE):=[]
 alts:List (Nat × List (Nat × List Nat)):=[]
 ent:Nat × Nat:=(0,0)
def an0:FnAnn:={}
def De{α:Type}:List (Nat × α)->Nat->Option α
 | [],_=>none
 | (k,x)::r,i=>bif aJ i k then some x else De r i
def C4v(l m:List Nat):List Nat:=m.foldr (fun x l=>bif has l x then l else x::l) l
def B12:List Oper->List (List Nat)->List (List Nat)
 | [],acc=>acc
 | o::r,acc=>B12 r (acc++[o.after.toList.foldr (fun e l=>bif Region.binds .any e then C4v l (e.on::acc.getD e.on []) else l) []])
def C4p(fa:FnAnn)(id:Nat)(ops:Array Oper):List Nat × List (List Nat):=
 match De fa.orders id with
 | none=>(List.range ops.size,B12 ops.toList [])
 | some (o,[])=>(o,B12 ops.toList [])
 | some (o,a::l)=>(o,a::l)
def J2:aU->Option Nat
 | .region id _ _=>some id
 | .seq a b=>match J2 a with
  | some i=>some i
  | none=>J2 b
 | .block _ b=>J2 b
 | .loop b=>J2 b
 | .scope b=>J2 b
 | .cond _ a b=>match J2 a with
  | some i=>some i
  | none=>J2 b
 | _=>none
def A3e:List Nat->Nat->Nat->Option Nat
 | [],_,_=>none
 | x::xs,i,j=>bif aJ i x then some j else A3e xs i (j+1)
def Fj:List (Nat × Nat)->Nat->Nat->Option (Nat × Nat)
 | [],_,_=>none
 | (k,n)::r,i,j=>bif aJ i k then some (j,n) else Fj r i (j+n)
def Cp(ann:Ann)(st:VS)(vs:List aE):VS:=
 { env:=fun i=>match A3e ann.slots i 0 with
    | some j=>.val (vs.getD j undef)
    | none=>bif has ann.lim.slots i then .any else st.env i
   own:=fun k=>match Fj ann.owns k ann.slots.length with
    | some (j,n)=>some ((vs.drop j).take n)
    | none=>st.own k }
def Cq(st:VS):List Nat->Option (List aE)
 | []=>some []
 | i::is=>match st.env i with
  | .val v=>match Cq st is with
   | some vs=>some (v::vs)
   | none=>none
  | _=>none
def Oq(st:VS):List (Nat × Nat)->Option (List aE)
 | []=>some []
 | (k,n)::r=>match st.own k with
  | some cs=>bif aJ cs.length n then (match Oq st r with
   | some vs=>some (cs++vs)
   | none=>none) else none
  | none=>none
def On:List aE->List aE->Bool
 | [],[]=>true
 | z::zs,v::vs=>A17 z v&&On zs vs
 | _,_=>false
def keep(ann:Ann)(st:VS)(h:aH)(K:LP):Prop:=
 match Cq st ann.slots with
 | some xs=>match Oq st ann.owns with
  | some ys=>When (On ann.zs (xs++ys)) (K (xs++ys) h)
  | none=>False
 | none=>False
def Qc(cfg:Cfg)(ann:Ann)(st:VS):Bool:=
 ann.lim.slots.all (fun d=>A16 cfg d)&&ann.lim.keys.all (fun k=>A1a cfg.lim k&&((st.own k).isNone||(Fj ann.owns k 0).isSome)) &&
 ann.slots.all (has ann.lim.slots)&&ann.owns.all (fun p=>has ann.lim.keys p.1)&&kindsLen ann
where
 kindsLen (ann:Ann):Bool:=aJ ann.zs.length (ann.slots.length+ann.owns.foldr (fun p s=>p.2+s) 0)
def Cfg.within(cfg:Cfg)(ann:Ann):Cfg:={ n:=cfg.n,own:=cfg.own,lim:=some ann.lim,fns:=cfg.fns,wr:=cfg.wr,inr:=cfg.inr,ent:=cfg.ent }
def B9n(ann:Ann)(cfg:Cfg)(body:Cfg->VS->aH->(Ex->VS->aH->Prop)->Prop)(st:VS)(h:aH)(Q:Ex->VS->aH->Prop):Prop:=
 When (Qc cfg ann st) <|
 ∃ (Inv:LP) (μ:LN),keep ann st h Inv/\
  allL ann.zs fun d=>∀ h,Inv d h->body (cfg.within ann) (Cp ann st d) h fun e a b=>
   match e with
   | .normal=>keep ann a b fun c b=>Inv c b/\μ c b<μ d h
   | e=>Q e a b
def C3h(ann:Ann)(cfg:Cfg)(a b:Cfg->VS->aH->(Ex->VS->aH->Prop)->Prop)(st:VS)(h:aH)(Q:Ex->VS->aH->Prop):Prop:=
 When (Qc cfg ann st) <|
 ∃ J:LP,(a (cfg.within ann) st h fun e c d=>
    match e with
    | .normal=>keep ann c d J
    | e=>Q e c d)/\
  allL ann.zs fun g=>∀ h,J g h->b cfg (Cp ann st g) h Q
def B3j:AVal->AVal
 | .own _ _=>.any
 | v=>v
def putAll:VS->List Nat->List aE->VS
 | st,t::ts,v::vs=>putAll (st.put t (.val v)) ts vs
 | st,_,_=>st
def Nv(st:VS)(ps:List Nat)(vs:List aE):VS:=putAll { env:=fun i=>B3j (st.env i),own:=fun _=>none } ps vs
def pub(k b:Nat)(st:VS):VS:=
 { env:=fun i=>match st.env i with
    | .own k' off=>bif aJ k' k then .val (.pointer (some ⟨b,off,none⟩)) else .own k' off
    | v=>v
   own:=fun i=>bif aJ i k then none else st.own i }
def vcPub:List aE->VS->aH->(VS->aH->Prop)->Prop
 | [],st,h,K=>K st h
 | .int _ k::ks,st,h,K=>
  match st.own k.toNat with
  | some cs=>∀ (b t:Nat) (h':aH),h b=none->h'=h.put b (.cells cs.toArray t)->vcPub ks (pub k.toNat b st) h' K
  | none=>False
 | _::_,_,_,_=>False
def vcShow(ks:Option (List aE))(cfg:Cfg)(st:VS)(h:aH)(K:VS->aH->Prop):Prop:=
 match ks with
 | none=>K st h
 | some ks=>When cfg.lim.isNone (vcPub ks st h K)
def U1(P:aO)(fa:FnAnn):aU->Cfg->VS->aH->(Ex->VS->aH->Prop)->Prop
 | .skip,_,st,h,Q=>Q .normal st h
 | .region id ops draw,cfg,st,h,Q=>
  match De fa.rounds (id+2000000) with
  | some _=>False
  | none=>
  vcShow (De fa.rounds (id+3000000)) cfg st h fun st h=>
  match draw with
  | false=>B26 P cfg ops false (List.range ops.size) st h (Q .normal)
  | true=>
   match C4p fa id ops with
   | (ord,anc)=>When (B0q P ops ord anc) (Fg P cfg ops anc (fun j=>((De fa.alts id).bind (fun l=>De l j)).getD []) ord.length ord st h (Q .normal))
 | .seq a b,cfg,st,h,Q=>
  match (J2 b).bind (De fa.cuts) with
  | none=>U1 P fa a cfg st h fun e st' h'=>
   match e with
   | .normal=>U1 P fa b cfg st' h' Q
   | e=>Q e st' h'
  | some ann=>C3h ann cfg (U1 P fa a) (U1 P fa b) st h Q
 | .cond c t e,cfg,st,h,Q=>
  match C9 st c with
  | .val (.bool b)=>Br b (U1 P fa t cfg st h Q) (U1 P fa e cfg st h Q)
  | _=>False
 | .block id b,cfg,st,h,Q=>U1 P fa b cfg st h fun e st' h'=>
  match e with
  | .exit j=>bif aJ j id then Q .normal st' h' else Q (.exit j) st' h'
  | e=>Q e st' h'
 | .loop b,cfg,st,h,Q=>
  match (J2 b).bind (De fa.loops) with
  | none=>False
  | some ann=>B9n ann cfg (U1 P fa b) st h Q
 | .rangeFunc g ps asg body,cfg,st,h,Q=>
  match C9 st g,(J2 body).bind (De fa.rounds) with
  | .val v,some zs=>
   When (aJ zs.length ps.size&&ps.toList.all (fun t=>Nat.blt t cfg.n) && !cfg.inr)
    (match (J2 body).bind fun i=>De fa.rounds (i+1000000) with
    | none=>Wj P v h (fun args h1 J=>exL zs fun vs=>args=vs/\U1 P fa asg { cfg with lim:=none,inr:=true } (Nv st ps.toList vs) h1 fun e st1 h2=>
     match e with
     | .normal=>U1 P fa body { cfg with lim:=none,inr:=true } st1 h2 fun e _ h3=>
      match e with
      | .normal=>J h3
      | _=>False
     | _=>False) (Q .normal st)
    | some _=>B1o P v h (fun args h1 J JR=>exL zs fun vs=>args=vs/\U1 P fa asg { cfg with lim:=none,inr:=true } (Nv st ps.toList vs) h1 fun e st1 h2=>
     match e with
     | .normal=>U1 P fa body { cfg with lim:=none,inr:=true } st1 h2 fun e _ h3=>
      match e with
      | .normal=>J h3
      | .ret=>JR h3
      | _=>False
     | _=>False) (Q .normal st) (Q .ret st))
  | _,_=>False
 | .exit id,_,st,h,Q=>Q (.exit id) st h
 | .ret,_,st,h,Q=>Q .ret st h
 | .scope b,cfg,st,h,Q=>U1 P fa b cfg st h Q
 | .label _,_,st,h,Q=>Q .normal st h
 | _,_,_,_,_=>False
section
variable {P:aO} {s0:Nat} {F:Fence} {fu:Nat} {n:Nat} {st:VS} {h:aH} {a:Act} {W:aF}
def Vl{l:List Nat}: ∀ {i j p:Nat},A3e l i j=some p->∃ q,p=j+q/\l[q]? = some i:=by
 induction l with
 | nil=>intro i j p e;cases e
 | cons x xs ih=>
  intro i j p e
  unfold A3e at e
  cases hb:aJ i x with
  | true=>
   simp_all
  | false=>
   rw [hb] at e
   obtain ⟨q,b,a⟩:=ih e
   exact ⟨q+1,o,by assumption⟩
def A3p{l:List Nat}: ∀ {vs:List aE} {q i:Nat},Cq st l=some vs->l[q]? = some i->∃ v,vs[q]? = some v/\st.env i= .val v:=by
 induction l with
 | nil=>grind
 | cons x xs ih=>
  intro vs q i a e
  unfold Cq at a
  grind
def Sv{l:List Nat}: ∀ {vs:List aE},Cq st l=some vs->vs.length=l.length:=by
 induction l with
 | nil=>intro vs e;injection e with e;grind
 | cons x xs ih=>
  intro vs a
  unfold Cq at a
  grind
def A6i{l:List (Nat × Nat)}: ∀ {vs:List aE} {k j p m:Nat},Oq st l=some vs->Fj l k j=some (p,m)->∃ q,p=j+q/\st.own k=some ((vs.drop q).take m):=by
 induction l with
 | nil=>intro vs k j p m _ e;cases e
 | cons x xs ih=>
  obtain ⟨i,d⟩:=x
  intro vs k j p m a e
  unfold Oq at a
  split at a
  ·rename_i n r
   cases hb:aJ n.length d with
   | false=>grind
   | true=>
    rw [hb] at a
    have b:=aL hb
    split at a
    ·rename_i u c
     injection a with a;subst a
     unfold Fj at e
     cases hk:aJ k i with
     | true=>
      simp_all
     | false=>
      rw [hk] at e
      obtain ⟨q,s,g⟩:=ih c e
      refine ⟨d+q,o,?_⟩
      rw [g,<- b,aP]
    ·cases a
  ·cases a
def So{zs:List aE}: ∀ {vs:List aE},On zs vs=true->vs.length=zs.length/\∀ p∈zs.zip vs,A17 p.1 p.2=true:=by
 induction zs with
 | nil=>
  intro vs e
  cases vs with
  | nil=>simp_all
  | cons=>cases e
 | cons z zs ih=>
  intro vs e
  cases vs with
  | nil=>cases e
  | cons v vs=>
   simp only [On,aI] at e
   obtain ⟨a,b⟩:=ih e.2
   simp_all
def keep.out{ann:Ann}{K:LP}(x:keep ann st h K):
 ∃ xs ys,Cq st ann.slots=some xs/\Oq st ann.owns=some ys/\On ann.zs (xs++ys)=true/\K (xs++ys) h:=by
 unfold keep at x
 split at x
 ·split at x
  ·rename_i xs b _ ys a
   exact ⟨xs,ys,b,a,x.both.1,x.both.2⟩
  grind
 grind
def A0s{l:List (Nat × Nat)}: ∀ {k i j:Nat},(Fj l k i).isSome=(Fj l k j).isSome:=by
 induction l with
 | nil=>intros;rfl
 | cons x xs ih=>
  obtain ⟨b,a⟩:=x
  intro k i j
  unfold Fj
  grind
def Good.head{cfg:Cfg}{h0:aH}{W0:aF}{ann:Ann}{st0:VS}(g:aK n h0 W0 st h a W)(hok:Qc cfg ann st0=true)(ag:Agree (some ann.lim) st0 st)(g0:∀ i k off,st0.env i= .own k off->(st0.own k).isSome=true)(hn:cfg.n=n)
 {xs ys:List aE} (hx:Cq st ann.slots=some xs) (hy:Oq st ann.owns=some ys):aK n h0 W0 (Cp ann st0 (xs++ys)) h a W:=by
 obtain ⟨θ,r,f,N⟩:=g
 simp only [Qc,aI,aN] at hok
 obtain ⟨⟨⟨⟨B,A⟩,H⟩,G⟩,_⟩:=hok
 have l:=Sv hx
 have c:∀ i,(∃ v,(Cp ann st0 (xs++ys)).env i= .val v/\st.env i= .val v)\/((Cp ann st0 (xs++ys)).env i= .any/\has ann.lim.slots i=true)\/((Cp ann st0 (xs++ys)).env i=st.env i/\st.env i=st0.env i):=by
  intro i
  show (∃ v,(match A3e ann.slots i 0 with
   | some j=>AVal.val ((xs++ys).getD j undef)
   | none=>bif has ann.lim.slots i then .any else st0.env i)=_/\_)\/(_=_/\_)\/(_=_/\_)
  simp only [Cp]
  cases hp:A3e ann.slots i 0 with
  | some p=>
   obtain ⟨q,z,E⟩:=Vl hp
   obtain ⟨v,L,M⟩:=A3p hx E
   grind
  | none=>
   cases hh:has ann.lim.slots i with
   | true=>grind
   | false=>exact .inr (.inr ⟨(ag.env i hh).symm,ag.env i hh⟩)
 have u:∀ k d,(Cp ann st0 (xs++ys)).own k=some d->st.own k=some d:=by
  intro k d e
  simp only [Cp] at e
  cases hp:Fj ann.owns k ann.slots.length with
  | some p=>
   obtain ⟨p,m⟩:=p
   rw [hp] at e
   obtain ⟨q,z,D⟩:=A6i hy hp
   injection e with e
   rw [D,<- e,z,<- l,aP]
  | none=>
   rw [hp] at e
   have e:st0.own k=some d:=e
   cases hh:has ann.lim.keys k with
   | false=>rw [ag.own k hh];exact e
   | true=>
    have:=(A k (Ab.1 hh)).2
    rw [e,A0s (j:=ann.slots.length),hp] at this
    cases this
 refine ⟨θ,⟨r.defers,r.size,fun i w=>?_,r.sim,fun k d e=>r.own k d (u k d e),fun k C y x e=>?_,fun i k off e=>?_,fun i w=>?_⟩,f,fun k y=>?_⟩
 ·rcases c i with ⟨v,b,s⟩|⟨b,_⟩|⟨b,_⟩
  ·have:=r.slot i w;grind
  ·rw [b];trivial
  ·rw [b];exact r.slot i w
 ·obtain ⟨d,b⟩:=Option.isSome_iff_exists.1 y
  obtain ⟨F,s⟩:=Option.isSome_iff_exists.1 x
  exact r.inj k C gz0 gz0 e
 ·rcases c i with ⟨v,b,_⟩|⟨b,_⟩|⟨b,s⟩
  ·grind
  ·grind
  ·simp only [Cp]
   grind
 ·rcases c i with ⟨v,b,s⟩|⟨b,s⟩|⟨b,s⟩
  ·have:=r.out i w;grind
  ·have:=B i (Ab.1 s)
   simp only [A16,aI] at this
   have:=Nat.le_of_ble_eq_true this.1
   omega
  ·rw [b];exact r.out i w
 ·obtain ⟨d,b⟩:=Option.isSome_iff_exists.1 y
  grind
def Agree.within{cfg:Cfg}{ann:Ann}{st0 st':VS}(hok:Qc cfg ann st0=true){s:VS}(x:Agree (some ann.lim) s st'):Agree cfg.lim s st':=by
 simp only [Qc,aI,aN] at hok
 obtain ⟨⟨⟨⟨b,a⟩,_⟩,_⟩,_⟩:=hok
 refine ⟨fun i c=>x.env i ?_,fun k d=>x.own k ?_⟩
 ·cases hh:has ann.lim.slots i with
  | false=>exact hh
  | true=>
   have:=b i (Ab.1 hh)
   simp only [A16,aI] at this
   grind
 ·cases hh:has ann.lim.keys k with
  | false=>exact hh
  | true=>have:=(a k (Ab.1 hh)).1;grind
def Agree.head{ann:Ann}{cfg:Cfg}{st0:VS}(hok:Qc cfg ann st0=true)(vs:List aE):Agree (some ann.lim) st0 (Cp ann st0 vs):=by
 simp only [Qc,aI,aN] at hok
 obtain ⟨⟨⟨⟨r,g⟩,s⟩,n⟩,_⟩:=hok
 refine ⟨fun i a=>?_,fun k b=>?_⟩
 ·have a:has ann.lim.slots i=false:=a
  simp only [Cp]
  cases hp:A3e ann.slots i 0 with
  | some p=>
   obtain ⟨q,_,d⟩:=Vl hp
   grind
  | none=>simp [a]
 ·have b:has ann.lim.keys k=false:=b
  simp only [Cp]
  cases hp:Fj ann.owns k ann.slots.length with
  | none=>rfl
  | some p=>
   exfalso
   have mem:∀ {l:List (Nat × Nat)} {j:Nat} {p:Nat × Nat},Fj l k j=some p->∃ m,(k,m)∈l:=by
    intro l
    induction l with
    | nil=>intro j p e;cases e
    | cons x xs ih=>
     obtain ⟨c,u⟩:=x
     intro j p e
     unfold Fj at e
     cases hb:aJ k c with
     | true=>simp_all
     | false=>grind
   grind
def Wo{α:Type}{c:aU}{Q:Exit->Act->aF->Prop}(I:α->Act->aF->Prop)(μ:α->Nat)(z0:α)(h₀:I z0 a W)
 (round:∀ z a w,I z a w->c.wpIn F fu P (Exit.then (fun a' w'=>∃ z',I z' a' w'/\μ z'<μ z) Q) a w):(Code.loop c).wpIn F fu P Q a W:=by
 intro b k p u r q
 have key:∀ m z a w,μ z=m->I z a w->∃ e a' w',Q e a' w'/\ArrivesIn (Machine.fenced P F) P (lone (b.atR a (.code c :: .inLoop c::k)) p w) b k p e a' w':=by
  intro m
  induction m using Nat.strongRecOn with
  | _ m ih=>
   intro z a w C A
   obtain ⟨e,a₁,w₁,g,d⟩:=round z a w A b (.inLoop c::k) p u r q
   cases e with
   | normal=>
    obtain ⟨z',s,y⟩:=g
    obtain ⟨e,a',w',B,i⟩:=ih _ o z' a₁ w₁ rfl s
    exact ⟨e,a',w',B,.of_steps (StepsIn.trans d (.one (fenced_calm r q rfl) stepR_inLoop)) i⟩
   | exit id=>exact ⟨_,a₁,w₁,g,.pass (x:=.inLoop c) rfl (fun _ _=>.inl (by simp)) d⟩
   | goto l=>exact ⟨_,a₁,w₁,g,.pass (x:=.inLoop c) rfl (fun _ _=>.inl (by simp)) d⟩
   | ret=>exact ⟨_,a₁,w₁,g,.pass (x:=.inLoop c) rfl (fun _ _=>.inl (by simp)) d⟩
   | panic ch=>exact ⟨_,a₁,w₁,g,.pass (x:=.inLoop c) rfl (fun _ _=>.inl (by simp)) d⟩
   | outgrown=>exact ⟨_,a₁,w₁,g,.pass (x:=.inLoop c) rfl (fun _ _=>.inl (by simp)) d⟩
 obtain ⟨e,a',w',g,d⟩:=key _ z0 a W rfl h₀
 exact ⟨e,a',w',g,.of_steps (.one (fenced_calm r q rfl) stepR_loop) d⟩
def Ex.toExit:Ex->Exit
 | .normal=>.normal
 | .exit id=>.exit id
 | .ret=>.ret
def Good.wf{h0:aH}{W0:aF}(g:aK n h0 W0 st h a W):∀ i k off,st.env i= .own k off->(st.own k).isSome=true:=by
 obtain ⟨θ,r,_,_⟩:=g;exact r.wf
def Vj:∀ (ps:List Nat) (vs:List aE) (st:VS),(putAll st ps vs).own=st.own
 | [],_,_=>rfl
 | _::_,[],_=>rfl
 | t::ts,v::vs,st=>by rw [putAll,Vj ts vs];rfl
def Rel.putAll{θ:Nat->Nat}: ∀ (ps:List Nat) (vs:List aE) (st:VS) (a:Act),Rel s0 n θ st h a W->(∀ t∈ps,t<n)->Rel s0 n θ (putAll st ps vs) h { a with tmps:=(ps.zip vs).foldl (fun tmps (t,v)=>tmps.setIfInBounds t v) a.tmps } W
 | [],_,_,_,r,_=>r
 | _::_,[],_,_,r,_=>r
 | t::ts,v::vs,st,a,r,hp=>by
  have:=Rel.putAll ts vs (st.put t (.val v)) (a.put (some t) v) (r.put (hp t (by simp)) (v:=.val v) rfl (fun _ _ e=>by cases e)) (fun b c=>hp b (by simp [c]))
  exact this
def Good.round{h0:aH}{W0:aF}(g:aK n h0 W0 st h a W){ps:List Nat}(hps:∀ t∈ps,t<n){vs:List aE}{h1:aH}{W1:aF}(hs:Sim h1 W1):
 aK n h1 W1 (Nv st ps vs) h1 { tmps:=(ps.zip vs).foldl (fun tmps (t,v)=>tmps.setIfInBounds t v) a.tmps,defers:=[] } W1:=by
 obtain ⟨θ,r,_,_⟩:=g
 have j:Rel W1.heap.size n θ { env:=fun i=>B3j (st.env i),own:=fun _=>none } h1 { tmps:=a.tmps,defers:=[] } W1:=by
  refine ⟨MarksOk.nil,r.size,fun i d=>?_,hs,(fun k l e=>by cases e),(fun k m e=>by cases e),fun i k c e=>?_,fun i d=>?_⟩
  ·have:=r.slot i d
   show rel θ (B3j (st.env i)) _
   cases hx:st.env i with
   | own k c=>trivial
   | val v=>rw [hx] at this;exact this
   | any=>trivial
  ·exfalso
   simp only at e
   cases hx:st.env i<;>rw [hx] at e<;>cases e
  ·show B3j (st.env i)=_
   rw [r.out i d];rfl
 refine ⟨θ,j.putAll ps vs _ _ hps,Fr.refl hs,fun k b=>?_⟩
 unfold Nv at b
 rw [Vj] at b;cases b
def S4{l:Nat}{rec:Loop}(e:W.heap[l]? = some (.loop rec)):(Instr.getLoop l).run P W= .ok rec W:=by
 simp [Instr.getLoop,getObj,Sem.run_bind,Sem.run,e]
def World.setO(W:aF)(l:Nat)(o:Obj):aF:={ W with heap:=W.heap.setIfInBounds l o }
def Z8{l:Nat}{o o':Obj}(e:W.heap[l]? = some o')(hc:∀ c t f,o' ≠ .cells c t f):(setObj l o).run P W= .ok () (World.setO W l o):=by
 cases o' with
 | cells c t f=>grind
 | _=>simp [setObj,Sem.run,e,World.setO]
def Dt{l:Nat}{o o':Obj}(e:W.heap[l]? = some o'):(World.setO W l o).heap[l]? = some o:=by
 have:=Dy e
 simp [World.setO,this]
def F5{l b:Nat}{o:Obj}(hb:b≠l):(World.setO W l o).heap[b]? = W.heap[b]? :=by
 simp [World.setO,Ne.symm hb]
def Good.setLoop{h0:aH}{W2 W3:aF}{l:Nat}{rec rec':Loop}(g:aK n h0 W2 st h a W3)(hl:h0 l=none)(hs:l<W2.heap.size)(e:W3.heap[l]? = some (.loop rec)):aK n h0 (World.setO W2 l (.loop rec')) st h a (World.setO W3 l (.loop rec')):=by
 obtain ⟨θ,r,d,N⟩:=g
 have s:h l=none:=by
  cases x:h l with
  | none=>rfl
  | some o=>have:=d.new l o hl x;omega
 have j:∀ (W:aF) (o:Obj),(World.setO W l o).heap.size=W.heap.size:=fun W o=>by simp [World.setO]
 refine ⟨θ,⟨?_,r.size,r.slot,fun b o i=>?_,fun k B A=>?_,r.inj,r.wf,r.out⟩,⟨fun b o i=>?_,d.os,d.tape,d.output,by rw [j,j];exact d.size,fun b m i=>?_,fun b o F C=>by rw [j];exact d.new b o F C⟩,fun k L=>gz0⟩
 ·obtain ⟨D,G,H,w⟩:=r.defers
  refine ⟨D,G,H,fun q z=>?_⟩
  obtain ⟨M,p,u⟩:=w q z
  have c:q≠l:=oo
  exact ⟨gz0,p,by rw [F5 c];exact u⟩
 ·have c:b≠l:=gz0
  rw [F5 c];exact r.sim b o i
 ·obtain ⟨t,E,y⟩:=r.own k B A
  have c:θ k≠l:=gz0
  exact ⟨t,by rw [F5 c];exact E,y⟩
 ·have c:b≠l:=gz0
  rw [F5 c];exact d.sim b o i
 ·rw [j] at m
  by_cases c:b=l
  ·subst c
   rw [Dt e,Dt (o':=W2.heap[b]) (Array.getElem?_eq_getElem m)]
  ·rw [F5 c,F5 c];exact d.keep b m i
def A37{h0:aH}{W0:aF}{x:Operand}{ps:Array Tmp}{asg body:aU}{v:aE}{zs:List aE}{B:List aE->aH->(aH->Prop)->Prop}{K:aH->Prop}{Q':Exit->Act->aF->Prop}
 (g:aK n h0 W0 st h a W) (hev:C9 st x= .val v) (hlen:zs.length=ps.size) (hps:∀ t∈ps.toList,t<n)
 (hv:Wj P v h (fun args h1 J=>exL zs fun vs=>args=vs/\B vs h1 J) K)
 (hQ:∀ (l:Nat) vs h1 J a1 W1,B vs h1 J->aK n h1 W1 (Nv st ps.toList vs) h1 a1 W1->∃ K2:VS->aH->Prop,
  (∀ fu' (Q2:Exit->Act->aF->Prop),(∀ st' h' a' W',K2 st' h'->aK n h1 W1 st' h' a' W'->Q2 .normal a' W')->asg.wpIn (Fence.wide.inRound l) fu' P Q2 a1 W1)/\
  ∀ W1' st1 h2 a2 W2 fu' (Q2:Exit->Act->aF->Prop),K2 st1 h2->aK n h1 W1' st1 h2 a2 W2->(∀ st' h' a' W',J h'->aK n h1 W1' st' h' a' W'->Q2 .normal a' W')->body.wpIn (Fence.wide.inRound l) fu' P Q2 a2 W2)
 (hK:∀ h' a' W',K h'->aK n h0 W0 st h' a' W'->Q' .normal a' W'):(Code.rangeFunc x ps asg body).wpIn Fence.wide fu P Q' a W:=by
 obtain ⟨f,first,j,rfl,C,hv⟩:=hv
 obtain ⟨θ,r,fr,aa⟩:=id g
 refine wpIn_rangeFunc fun fn _=>?_
 generalize hrec:({ state:=.ready,pending:=none,fn:=fn,tmps:=a.tmps,params:=ps,assign:=asg,body:=body,defers:=W.heap.size }:Loop)=rec
 generalize hl:W.heap.size+1=l
 generalize hW1:({ W with heap:=(W.heap.push (.deferred (some []))).push (.loop rec) }:aF)=W1
 have ae:W1.heap.size=W.heap.size+2:=gz0
 have H:W1.heap[W.heap.size]? = some (.deferred (some [])):=gz0
 have D:∀ b,b<W.heap.size->W1.heap[b]? = W.heap[b]? :=by
  grind
 have y:∀ b,W.heap.size<=b->h b=none:=by
  intro b s
  cases e:h b with
  | none=>rfl
  | some o=>have:=Dy (r.sim b o e);omega
 have E:Sim (h.put l (.loop rec)) W1:=by
  intro b o e
  by_cases s:b=l
  ·subst s;rw [B8] at e;grind
  ·rw [B6 _ _ s] at e
   have h1:=r.sim b o e
   grind
 refine ⟨l,[{ target:=.collected W.heap.size,args:=#[] }],W1,{ target:=.fn (.func f) j,args:=first ++ #[.func (.yield l) #[] #[]] },W1,f,first ++ #[.func (.yield l) #[] #[]]++j,W1,?_,?_,fun _ _=>trivial,?_,(fun e=>by cases e),?_⟩
 ·rw [<- hW1,<- hl,<- hrec]
  simp [Instr.enterLoop,newObj,Sem.run_bind,Sem.run,Fence.wide]
  rfl
 ·have ec:a.eval (.const (.func (.yield l) #[] #[]))= .func (.yield l) #[] #[]:=rfl
  simp [resolve,r.evalVal hev,Deferred.ofValue,ec]
 ·simp [invoke,C]
 ·refine callsIn_wide.2 ((hv l rec (y l oo) ?_ W1 E).mono ?_)
  ·
   intro args h1 J w s W2 L
   obtain ⟨vs,rfl,S,s⟩:∃ vs,args=vs/\vs.length=zs.length/\B vs h1 J:=by
    obtain ⟨vs,S,e,s⟩:=exL.out s
    grind
   have u:W2.heap[l]? = some (.loop rec):=L l _ (B8 h1 l _)
   have z:=Dy u
   refine ⟨fn,(ps.zip args.toArray).foldl (fun tmps (t,v)=>tmps.setIfInBounds t v) a.tmps,asg,body,?_,fun m=>?_⟩
   ·unfold Instr.yield
    simp only [Sem.run_bind,S4 u,aC]
    rw [<- hrec]
    simp_all
   ·have M:Sim h1 W2:=by
     intro b o e
     have c:b≠l:=gz0
     exact L b o (by rw [B6 _ _ c];exact e)
    have hz:(ps.zip args.toArray).foldl (fun tmps (t,v)=>tmps.setIfInBounds t v) a.tmps=(ps.toList.zip args).foldl (fun tmps (t,v)=>tmps.setIfInBounds t v) a.tmps:=by
     rw [<- Array.foldl_toList];simp
    have gr:=g.round hps (vs:=args) M
    obtain ⟨K2,Q,ac⟩:=hQ l args h1 J _ _ s gr
    rw [hz]
    refine roundIn_of_wpIn (F:=Fence.wide) trivial (Q m _ ?_)
    intro st1 h2 a2 W3 V g2
    have d:W3.heap[l]? = some (.loop rec):=by
     obtain ⟨_,_,T,_⟩:=g2
     rw [T.keep l z w];exact u
    refine ⟨World.setO W3 l (.loop { rec with state:=.busy }),?_,?_⟩
    ·unfold Instr.beginRound
     simp only [Sem.run_bind,S4 d,aC,Z8 d gz0]
     rw [<- hrec]
     rfl
    ·refine ac (World.setO W2 l (.loop { rec with state:=.busy })) st1 h2 a2 _ m _ V (g2.setLoop w z d) ?_
     intro st' h' a' W' hJ g'
     obtain ⟨θ',r',k,_⟩:=g'
     have A:W'.heap[l]? = some (.loop { rec with state:=.busy }):=by
      rw [k.keep l (by simpa [World.setO] using z) w]
      exact Dt u
     have X:h' l=none:=by
      cases e:h' l with
      | none=>rfl
      | some o=>have:=k.new l o w e;simp [World.setO] at this;omega
     refine ⟨.bool true,World.setO W' l (.loop rec),?_,.bool true,h'.put l (.loop rec),rfl,⟨rfl,h',X,rfl,hJ⟩,?_⟩
     ·unfold aR
      simp only [Sem.run_bind,S4 A,aC,Z8 A gz0]
      rw [<- hrec]
      rfl
     ·refine ⟨fun b o e=>?_,k.os,k.tape,k.output,?_,fun b s e=>?_,fun b o e N=>?_⟩
      ·by_cases s:b=l
       ·subst s;rw [B8] at e;cases e;exact Dt A
       ·rw [B6 _ _ s] at e
        rw [F5 s];exact k.sim b o e
      ·have:=k.size;simpa [World.setO] using this
      ·have c:b≠l:=by rintro rfl;rw [B8] at e;cases e
       rw [B6 _ _ c] at e
       rw [F5 c,k.keep b (by simpa [World.setO] using s) e,F5 c]
      ·have c:b≠l:=by rintro rfl;rw [B8] at e;cases e
       rw [B6 _ _ c] at e N
       have:=k.new b o e N
       simpa [World.setO] using this
  ·rintro e W3 ⟨rv,h2,rfl,⟨O,af,rfl,R⟩,i⟩
   have d:W3.heap[l]? = some (.loop rec):=i.sim l _ (B8 O l _)
   have G:Fr h W O (World.setO W3 l (.loop { rec with state:=.exhausted })):=by
    have e1:W1.os=W.os/\W1.tape=W.tape/\W1.output=W.output:=gz0
    refine ⟨fun b o e=>?_,i.os.trans e1.1,i.tape.trans e1.2.1,i.output.trans e1.2.2,?_,fun b s e=>?_,fun b o e N=>?_⟩
    ·have c:b≠l:=gz0
     rw [F5 c]
     exact i.sim b o (by rw [B6 _ _ c];exact e)
    ·have:=i.size
     simp [World.setO];omega
    ·have c:b≠l:=oo
     rw [F5 c,i.keep b oo (by rw [B6 _ _ c];exact e),D b s]
    ·have c:b≠l:=gz0
     have:=i.new b o (by rw [B6 _ _ c];exact e) (by rw [B6 _ _ c];exact N)
     omega
   refine ⟨none,World.setO W3 l (.loop { rec with state:=.exhausted }),?_,hK O _ _ R ⟨θ,?_,fr.trans G,aa⟩⟩
   ·unfold aT
    simp only [Sem.run_bind,S4 d,aC]
    rw [<- hrec] at d ⊢
    simp [Z8 d gz0]
   ·have p:=r.world G
    refine ⟨?_,p.size,p.slot,p.sim,p.own,p.inj,p.wf,p.out⟩
    obtain ⟨rs,n1,n2,n3⟩:=p.defers
    obtain ⟨ab,m1,m2,m3⟩:=r.defers
    have ad:rs=ab:=by
     have:=n2.symm.trans m2
     exact (List.map_inj_right (fun a b e=>by injection e)).1 this
    refine ⟨W.heap.size::rs,List.nodup_cons.2 ⟨fun hm=>?_,n1⟩,by simp [n2],fun q hq=>?_⟩
    ·grind
    ·rcases List.mem_cons.1 hq with rfl|hq
     ·refine ⟨fr.size,?_,?_⟩
      ·cases e:O W.heap.size with
       | none=>rfl
       | some o=>
        have h4:=i.new W.heap.size o (by rw [B6 _ _ oo];grind) (by rw [B6 _ _ oo];exact e)
        omega
      ·rw [F5 oo,i.keep _ oo (by rw [B6 _ _ oo];grind)]
       exact H
     grind
def A0i{h0:aH}{W0:aF}{x:Operand}{ps:Array Tmp}{asg body:aU}{v:aE}{zs:List aE}{B:List aE->aH->(aH->Prop)->(aH->Prop)->Prop}{K KR:aH->Prop}{Q':Exit->Act->aF->Prop}
 (g:aK n h0 W0 st h a W) (hev:C9 st x= .val v) (hlen:zs.length=ps.size) (hps:∀ t∈ps.toList,t<n)
 (hv:B1o P v h (fun args h1 J JR=>exL zs fun vs=>args=vs/\B vs h1 J JR) K KR)
 (hQ:∀ (l:Nat) vs h1 J JR a1 W1,B vs h1 J JR->aK n h1 W1 (Nv st ps.toList vs) h1 a1 W1->∃ K2:VS->aH->Prop,
  (∀ fu' (Q2:Exit->Act->aF->Prop),(∀ st' h' a' W',K2 st' h'->aK n h1 W1 st' h' a' W'->Q2 .normal a' W')->asg.wpIn (Fence.wide.inRound l) fu' P Q2 a1 W1)/\
  ∀ W1' st1 h2 a2 W2 fu' (Q2:Exit->Act->aF->Prop),K2 st1 h2->aK n h1 W1' st1 h2 a2 W2->(∀ st' h' a' W',J h'->aK n h1 W1' st' h' a' W'->Q2 .normal a' W')->(∀ st' h' a' W',JR h'->aK n h1 W1' st' h' a' W'->Q2 .ret a' W')->body.wpIn (Fence.wide.inRound l) fu' P Q2 a2 W2)
 (hK:∀ h' a' W',K h'->aK n h0 W0 st h' a' W'->Q' .normal a' W') (hKR:∀ h' a' W',KR h'->aK n h0 W0 st h' a' W'->Q' .ret a' W'):(Code.rangeFunc x ps asg body).wpIn Fence.wide fu P Q' a W:=by
 obtain ⟨f,first,j,rfl,N,hv⟩:=hv
 obtain ⟨θ,r,fr,aj⟩:=id g
 refine wpIn_rangeFunc fun fn _=>?_
 generalize hrec:({ state:=.ready,pending:=none,fn:=fn,tmps:=a.tmps,params:=ps,assign:=asg,body:=body,defers:=W.heap.size }:Loop)=rec
 generalize hl:W.heap.size+1=l
 generalize hW1:({ W with heap:=(W.heap.push (.deferred (some []))).push (.loop rec) }:aF)=W1
 have an:W1.heap.size=W.heap.size+2:=gz0
 have V:W1.heap[W.heap.size]? = some (.deferred (some [])):=gz0
 have O:∀ b,b<W.heap.size->W1.heap[b]? = W.heap[b]? :=by
  grind
 have G:∀ b,W.heap.size<=b->h b=none:=by
  intro b y
  cases e:h b with
  | none=>rfl
  | some o=>have:=Dy (r.sim b o e);omega
 have S:Sim (h.put l (.loop rec)) W1:=by
  intro b o e
  by_cases y:b=l
  ·subst y;rw [B8] at e;grind
  ·rw [B6 _ _ y] at e
   have h1:=r.sim b o e
   grind
 refine ⟨l,[{ target:=.collected W.heap.size,args:=#[] }],W1,{ target:=.fn (.func f) j,args:=first ++ #[.func (.yield l) #[] #[]] },W1,f,first ++ #[.func (.yield l) #[] #[]]++j,W1,?_,?_,fun _ _=>trivial,?_,(fun e=>by cases e),?_⟩
 ·rw [<- hW1,<- hl,<- hrec]
  simp [Instr.enterLoop,newObj,Sem.run_bind,Sem.run,Fence.wide]
  rfl
 ·have ec:a.eval (.const (.func (.yield l) #[] #[]))= .func (.yield l) #[] #[]:=rfl
  simp [resolve,r.evalVal hev,Deferred.ofValue,ec]
 ·simp [invoke,N]
 ·refine callsIn_wide.2 ((hv l rec (G l oo) ?_ W1 S).mono ?_)
  ·
   intro args h1 J JR E y W2 aa
   obtain ⟨vs,rfl,ad,y⟩:∃ vs,args=vs/\vs.length=zs.length/\B vs h1 J JR:=by
    obtain ⟨vs,ad,e,y⟩:=exL.out y
    grind
   have A:W2.heap[l]? = some (.loop rec):=aa l _ (B8 h1 l _)
   have H:=Dy A
   refine ⟨fn,(ps.zip args.toArray).foldl (fun tmps (t,v)=>tmps.setIfInBounds t v) a.tmps,asg,body,?_,fun m=>?_⟩
   ·unfold Instr.yield
    simp only [Sem.run_bind,S4 A,aC]
    rw [<- hrec]
    simp_all
   ·have ab:Sim h1 W2:=by
     intro b o e
     have d:b≠l:=gz0
     exact aa b o (by rw [B6 _ _ d];exact e)
    have hz:(ps.zip args.toArray).foldl (fun tmps (t,v)=>tmps.setIfInBounds t v) a.tmps=(ps.toList.zip args).foldl (fun tmps (t,v)=>tmps.setIfInBounds t v) a.tmps:=by
     rw [<- Array.foldl_toList];simp
    have gr:=g.round hps (vs:=args) ab
    obtain ⟨K2,ac,al⟩:=hQ l args h1 J JR _ _ y gr
    rw [hz]
    refine roundIn_of_wpIn (F:=Fence.wide) trivial (ac m _ ?_)
    intro st1 h2 a2 W3 af g2
    have k:W3.heap[l]? = some (.loop rec):=by
     obtain ⟨_,_,ae,_⟩:=g2
     rw [ae.keep l H E];exact A
    refine ⟨World.setO W3 l (.loop { rec with state:=.busy }),?_,?_⟩
    ·unfold Instr.beginRound
     simp only [Sem.run_bind,S4 k,aC,Z8 k gz0]
     rw [<- hrec]
     rfl
    ·have C:∀ (u:Option aU) (c:Loop) (bv:Bool),(c={ rec with state:=if u.isNone then .ready else .done,pending:=u })->bv=u.isNone->∀ st' h' a' W',aK n h1 (World.setO W2 l (.loop { rec with state:=.busy })) st' h' a' W'->∀ (X:VP),(∀ p,p l=none->p=h'->X (.bool bv) (p.put l (.loop c)))->∃ v w',(aR l u).run P W'= .ok v w'/\∃ r h',(Ending.returned v)= .returned r/\X r h'/\Fr (h1.put l (.loop rec)) W2 h' w':=by
      intro u c bv Q ag st' h' a' W' R X hX
      obtain ⟨θ',r',s,_⟩:=R
      have L:W'.heap[l]? = some (.loop { rec with state:=.busy }):=by
       rw [s.keep l (by simpa [World.setO] using H) E]
       exact Dt A
      have ai:h' l=none:=by
       cases e:h' l with
       | none=>rfl
       | some o=>have:=s.new l o E e;simp [World.setO] at this;omega
      refine ⟨.bool bv,World.setO W' l (.loop c),?_,.bool bv,h'.put l (.loop c),rfl,hX h' ai rfl,?_⟩
      ·unfold aR
       simp only [Sem.run_bind,S4 L,aC,Z8 L gz0]
       rw [Q,ag]
       rfl
      ·refine ⟨fun b o e=>?_,s.os,s.tape,s.output,?_,fun b y e=>?_,fun b o e e'=>?_⟩
       ·by_cases y:b=l
        ·subst y;rw [B8] at e;cases e;exact Dt L
        ·rw [B6 _ _ y] at e
         rw [F5 y];exact s.sim b o e
       ·have:=s.size;simpa [World.setO] using this
       ·have d:b≠l:=by rintro rfl;rw [B8] at e;cases e
        rw [B6 _ _ d] at e
        rw [F5 d,s.keep b (by simpa [World.setO] using y) e,F5 d]
       ·have d:b≠l:=by rintro rfl;rw [B8] at e;cases e
        rw [B6 _ _ d] at e e'
        have:=s.new b o e e'
        simpa [World.setO] using this
     refine al (World.setO W2 l (.loop { rec with state:=.busy })) st1 h2 a2 _ m _ af (g2.setLoop E H k) ?_ ?_
     ·intro st' h' a' W' hJ R
      exact C none rec true gz0 rfl st' h' a' W' R _ fun p z e3=>⟨p,z,.inl ⟨rfl,rfl,gz0⟩⟩
     ·intro st' h' a' W' hJ R
      exact C (some .ret) (A4s rec) false rfl rfl st' h' a' W' R _ fun p z e3=>⟨p,z,.inr ⟨rfl,rfl,gz0⟩⟩
  ·have C:∀ (c:Loop),c.state ≠ .busy->∀ p,p l=none->∀ W3,Fr (h.put l (.loop rec)) W1 (p.put l (.loop c)) W3->(aT l).run P W3= .ok c.pending (World.setO W3 l (.loop { c with state:=.exhausted }))/\aK n h0 W0 st p { a with defers:=[{ target:=.collected W.heap.size,args:=#[] }]++a.defers } (World.setO W3 l (.loop { c with state:=.exhausted })):=by
    intro c ah p z W3 i
    have k:W3.heap[l]? = some (.loop c):=i.sim l _ (B8 p l _)
    have T:Fr h W p (World.setO W3 l (.loop { c with state:=.exhausted })):=by
     have M:W1.os=W.os/\W1.tape=W.tape/\W1.output=W.output:=gz0
     refine ⟨fun b o e=>?_,i.os.trans M.1,i.tape.trans M.2.1,i.output.trans M.2.2,?_,fun b y e=>?_,fun b o e e'=>?_⟩
     ·have d:b≠l:=gz0
      rw [F5 d]
      exact i.sim b o (by rw [B6 _ _ d];exact e)
     ·have:=i.size
      simp [World.setO];omega
     ·have d:b≠l:=oo
      rw [F5 d,i.keep b oo (by rw [B6 _ _ d];exact e),O b y]
     ·have d:b≠l:=gz0
      have:=i.new b o (by rw [B6 _ _ d];exact e) (by rw [B6 _ _ d];exact e')
      omega
    refine ⟨?_,⟨θ,?_,fr.trans T,aj⟩⟩
    ·unfold aT
     simp only [Sem.run_bind,S4 k,aC]
     rw [iN gz0]
     simp [Z8 k gz0]
    ·have w:=r.world T
     refine ⟨?_,w.size,w.slot,w.sim,w.own,w.inj,w.wf,w.out⟩
     obtain ⟨rs,n1,n2,n3⟩:=w.defers
     obtain ⟨ak,m1,m2,m3⟩:=r.defers
     have am:rs=ak:=by
      have:=n2.symm.trans m2
      exact (List.map_inj_right (fun a b e=>by injection e)).1 this
     refine ⟨W.heap.size::rs,List.nodup_cons.2 ⟨fun hm=>?_,n1⟩,by simp [n2],fun q hq=>?_⟩
     ·grind
     ·rcases List.mem_cons.1 hq with rfl|hq
      ·refine ⟨fr.size,?_,?_⟩
       ·cases e:p W.heap.size with
        | none=>rfl
        | some o=>
         have h4:=i.new W.heap.size o (by rw [B6 _ _ oo];grind) (by rw [B6 _ _ oo];exact e)
         omega
       ·rw [F5 oo,i.keep _ oo (by rw [B6 _ _ oo];grind)]
        exact V
      grind
   rintro e W3 ⟨rv,h2,rfl,⟨p,z,D⟩,i⟩
   rcases D with ⟨rfl,D⟩|⟨rfl,D⟩
   ·obtain ⟨M,e2⟩:=C rec gz0 p z W3 i
    refine ⟨_,_,M,?_⟩
    grind
   ·obtain ⟨M,e2⟩:=C (A4s rec) (by intro e;cases e) p z W3 i
    exact ⟨_,_,M,wpIn_ret (hKR p _ _ D e2)⟩
def C5n(Q:Exit->Act->aF->Prop):Exit->Act->aF->Prop
 | .goto _,_,_=>False
 | e,a,w=>Q e a w
def Z2{b:Frame}{k:List Item}{cs:List Frame}{w:aF}{c:aU}:step P (lone (b.atR a (.code (.scope c)::k)) cs w)= .next (lone (b.atR a (.code c :: .inScope c::k)) cs w):=
 step_lone_go (by rfl)
def Xb{b:Frame}{k:List Item}{cs:List Frame}{w:aF}{c:aU}:step P (lone (b.atR a (.inScope c::k)) cs w)= .next (lone (b.atR a k) cs w):=
 step_lone_go (by rfl)
def A2h{c:aU}{Q:Exit->Act->aF->Prop}(h:c.wpIn F fu P (C5n Q) a W):(Code.scope c).wpIn F fu P Q a W:=by
 intro b k s r q p
 have i:(lone (b.atR a (.code (.scope c)::k)) s W).fenced P F:=fenced_calm q p rfl
 obtain ⟨e,a₁,w₁,g,d⟩:=h b (.inScope c::k) s r q p
 cases e with
 | normal=>exact ⟨.normal,a₁,w₁,g,.head i Z2 (StepsIn.trans d (.one (fenced_calm q p rfl) Xb))⟩
 | exit id'=>
  exact ⟨.exit id',a₁,w₁,g,fun w u=>.head i Z2 (d.1 w (by assumption)),
   fun n u=>let ⟨k₁,h1,h2⟩:=d.2 n (by assumption);⟨k₁,h1,.head i Z2 h2⟩⟩
 | goto l=>exact g.elim
 | ret=>exact ⟨_,a₁,w₁,g,.of_steps (.one i Z2) d⟩
 | panic ch=>exact ⟨_,a₁,w₁,g,.of_steps (.one i Z2) d⟩
 | outgrown=>exact ⟨_,a₁,w₁,g,.of_steps (.one i Z2) d⟩
def Good.pub{h0:aH}{W0:aF}(g:aK n h0 W0 st h a W){k:Nat}{cs:List aE}(e:st.own k=some cs):
 ∃ b t,h b=none/\aK n h0 W0 (Proofs.YtbgkfnjmcjfokaaGreatDoor.pub k b st) (h.put b (.cells cs.toArray t)) a W:=by
 obtain ⟨θ,r,f,Q⟩:=g
 obtain ⟨t,O,T⟩:=r.own k cs e
 have N:(st.own k).isSome=true:=by rw [e];rfl
 have s:Sim (h.put (θ k) (.cells cs.toArray t)) W:=fun b o d=>by
  unfold Heap.put at d
  split at d
  ·rename_i w;subst w;rw [O];exact d
  ·exact r.sim b o d
 have u:∀ c l,(Proofs.YtbgkfnjmcjfokaaGreatDoor.pub k (θ k) st).own c=some l->c≠k/\st.own c=some l:=by
  intro c l j
  simp only [Proofs.YtbgkfnjmcjfokaaGreatDoor.pub] at j
  cases d:aJ c k with
  | true=>rw [d] at j;cases j
  | false=>rw [d] at j;exact ⟨fun A=>by subst A;simp at d,j⟩
 have m:∀ c,((Proofs.YtbgkfnjmcjfokaaGreatDoor.pub k (θ k) st).own c).isSome=true->c≠k/\(st.own c).isSome=true:=by
  intro c B
  obtain ⟨l,V⟩:=Option.isSome_iff_exists.1 B
  obtain ⟨p,y⟩:=u c l V
  exact ⟨p,by rw [y];rfl⟩
 have E:∀ c,c≠k->(st.own c).isSome=true->θ c≠θ k:=fun c F B A=>F (r.inj c k B N A)
 refine ⟨θ k,t,T,θ,⟨r.defers.turn fun q S eq=>⟨?_,eq⟩,r.size,fun i L=>?_,s,fun c l j=>?_,fun M z p y A=>r.inj M z (m M p).2 (m z y).2 A,fun i c H j=>?_,fun i L=>?_⟩,?_,fun c B=>Q c (m c B).2⟩
 ·by_cases C:q=θ k
  ·subst C;rw [O] at eq;simp at eq
  ·rw [B6 _ _ C];exact S
 ·have p:=r.slot i L
  show rel θ ((Proofs.YtbgkfnjmcjfokaaGreatDoor.pub k (θ k) st).env i) _
  simp only [Proofs.YtbgkfnjmcjfokaaGreatDoor.pub]
  cases hx:st.env i with
  | val v=>rw [hx] at p;exact p
  | any=>trivial
  | own c H=>
   rw [hx] at p
   cases d:aJ c k with
   | true=>simp only [d,cond_true];rw [aL d] at p;exact p
   | false=>simp only [d,cond_false];exact p
 ·obtain ⟨p,y⟩:=u c l j
  obtain ⟨R,D,G⟩:=r.own c l y
  exact ⟨R,D,by rw [B6 _ _ (E c p (by rw [y];rfl))];exact G⟩
 ·simp only [Proofs.YtbgkfnjmcjfokaaGreatDoor.pub] at j
  cases hx:st.env i with
  | val v=>rw [hx] at j;cases j
  | any=>rw [hx] at j;cases j
  | own z off2=>
   rw [hx] at j
   cases d:aJ z k with
   | true=>simp only [d,cond_true] at j;cases j
   | false=>
    simp only [d,cond_false] at j
    injection j with e1 e2;subst e1
    have:=r.wf i z off2 hx
    show ((Proofs.YtbgkfnjmcjfokaaGreatDoor.pub k (θ k) st).own z).isSome=true
    simp only [Proofs.YtbgkfnjmcjfokaaGreatDoor.pub,d,cond_false];exact this
 ·have:=r.out i L
  show (Proofs.YtbgkfnjmcjfokaaGreatDoor.pub k (θ k) st).env i=_
  simp only [Proofs.YtbgkfnjmcjfokaaGreatDoor.pub,this]
 ·exact ⟨s,f.os,f.tape,f.output,f.size,f.keep,fun b o d x=>by
   unfold Heap.put at x
   split at x
   ·rename_i w;subst w;exact Q k N
   ·exact f.new b o d x⟩
def Good.vcPub{h0:aH}{W0:aF}{K:VS->aH->Prop}: ∀ {ks:List aE} {st:VS} {h:aH},aK n h0 W0 st h a W->Proofs.YtbgkfnjmcjfokaaGreatDoor.vcPub ks st h K->∃ st' h',K st' h'/\aK n h0 W0 st' h' a W:=by
 intro ks
 induction ks with
 | nil=>exact fun g c=>⟨_,_,c,g⟩
 | cons v ks ih=>
  intro st h g c
  cases v with
  | int kd k=>
   simp only [Proofs.YtbgkfnjmcjfokaaGreatDoor.vcPub] at c
   split at c
   ·rename_i j d
    obtain ⟨b,t,e,i⟩:=g.pub d
    exact ih i (c b t _ e rfl)
   ·exact c.elim
  | _=>exact c.elim
def Good.vcShow{cfg:Cfg}{h0:aH}{W0:aF}{K:VS->aH->Prop}{ks:Option (List aE)}(g:aK n h0 W0 st h a W)(hv:Proofs.YtbgkfnjmcjfokaaGreatDoor.vcShow ks cfg st h K):
 ∃ st' h',K st' h'/\aK n h0 W0 st' h' a W/\Agree cfg.lim st st':=by
 cases ks with
 | none=>exact ⟨st,h,hv,g,Agree.refl _ _⟩
 | some ks=>
  obtain ⟨b,hv⟩:=hv.both
  obtain ⟨st',h',c,d⟩:=g.vcPub hv
  have:cfg.lim=none:=by cases hc:cfg.lim with
   | none=>rfl
   | some l=>rw [hc] at b;cases b
  rw [this]
  exact ⟨st',h',c,d,fun _ h=>(by cases h),fun _ h=>(by cases h)⟩
def A6q{fa:FnAnn}(c:aU):∀ {F:Fence} [FOk F] {fu:Nat} {h0:aH} {W0:aF} (cfg:Cfg) (st:VS) (h:aH) (a:Act) (W:aF) (Q:Ex->VS->aH->Prop) (Q':Exit->Act->aF->Prop),cfg.n=n->Bodies P cfg.fns->(cfg.inr=false->F=Fence.wide)->aK n h0 W0 st h a W->
 U1 P fa c cfg st h Q->(∀ e st' h' a' W',Q e st' h'->aK n h0 W0 st' h' a' W'->Agree cfg.lim st st'->Q' e.toExit a' W')->c.wpIn F fu P Q' a W:=by
 induction c with
 | skip=>exact fun {F} _ {fu h0 W0} cfg st h a W Q Q' s u A g d p=>wpIn_skip (p .normal st h a W d g (Agree.refl _ _))
 | region id ops draw=>
  intro F _ fu h0 W0 cfg st h a W Q Q' s u A g d p
  unfold U1 at d
  split at d
  ·exact d.elim
  obtain ⟨st,h,d,g,E⟩:=g.vcShow d
  cases draw with
  | false=>exact wpIn_region (B4y s u _ st h a W g d fun st' h' a' W' i m w=>p .normal st' h' a' W' i m (E.trans w))
  | true=>
   obtain ⟨q,d⟩:=d.both
   exact A6l s u q g d fun st' h' a' W' i m w=>p .normal st' h' a' W' i m (E.trans w)
 | seq x y ihx ihy=>
  intro F _ fu h0 W0 cfg st h a W Q Q' s u A g d p
  unfold U1 at d
  split at d
  ·refine wpIn_seq (ihx cfg st h a W _ _ s u A g d fun e st' h' a' W' i m w=>?_)
   cases e with
   | normal=>exact ihy cfg st' h' a' W' Q Q' s u A m i fun e N C T W2 k S M=>p e N C T W2 k S (w.trans M)
   | exit id=>exact p (.exit id) st' h' a' W' i m w
   | ret=>exact p .ret st' h' a' W' i m w
  ·rename_i D _
   obtain ⟨q,J,ae,af⟩:=d.both
   refine wpIn_seq (ihx (cfg.within D) st h a W _ _ s u A g ae fun e st' h' a' W' i m w=>?_)
   cases e with
   | normal=>
    obtain ⟨xs,ys,hx,hy,R,hJ⟩:=i.out
    obtain ⟨hl,hz⟩:=So R
    have H:=allL.at af hl hz h' hJ
    exact ihy cfg _ h' a' W' Q Q' s u A (m.head q w g.wf s hx hy) H fun e N C T W2 k S M=>p e N C T W2 k S (((Agree.head q _).within q).trans M)
   | exit id=>exact p (.exit id) st' h' a' W' i m (w.within q)
   | ret=>exact p .ret st' h' a' W' i m (w.within q)
 | cond c x y ihx ihy=>
  intro F _ fu h0 W0 cfg st h a W Q Q' s u A g d p
  unfold U1 at d
  split at d
  ·rename_i b H
   obtain ⟨θ,r,_,_⟩:=id g
   cases b with
   | true=>exact wpIn_cond_true (r.evalVal H) (ihx cfg st h a W Q Q' s u A g d p)
   | false=>exact wpIn_cond_false (r.evalVal H) (ihy cfg st h a W Q Q' s u A g d p)
  grind
 | block id b ih=>
  intro F _ fu h0 W0 cfg st h a W Q Q' s u A g d p
  refine wpIn_block (ih cfg st h a W _ _ s u A g d fun e st' h' a' W' i m w=>?_)
  cases e with
  | normal=>exact p .normal st' h' a' W' i m w
  | ret=>exact p .ret st' h' a' W' i m w
  | exit j=>
   by_cases hj:j=id
   ·subst hj
    have i:Q .normal st' h':=by simp_all
    show Exit.inBlock j Q' (.exit j) a' W'
    simp only [Exit.inBlock,if_true]
    exact p .normal st' h' a' W' i m w
   ·have i:Q (.exit j) st' h':=by simp_all
    show Exit.inBlock id Q' (.exit j) a' W'
    simp only [Exit.inBlock,hj,if_false]
    exact p (.exit j) st' h' a' W' i m w
 | loop b ih=>
  intro F _ fu h0 W0 cfg st h a W Q Q' s u A g d p
  unfold U1 at d
  split at d
  ·exact d.elim
  ·rename_i D _
   obtain ⟨q,Inv,μ,X,C⟩:=d.both
   obtain ⟨xs,ys,hx,hy,R,hI⟩:=X.out
   have aa:=g.wf
   refine Wo (fun (z:List aE × aH) a' W'=>On D.zs z.1=true/\Inv z.1 z.2/\aK n h0 W0 (Cp D st z.1) z.2 a' W') (fun z=>μ z.1 z.2) (xs++ys,h) ⟨R,hI,g.head q (Agree.refl _ _) aa s hx hy⟩ ?_
   intro z a1 W1 ⟨hk1,hI1,g1⟩
   obtain ⟨hl,hz⟩:=So hk1
   have H:=allL.at C hl hz z.2 hI1
   refine ih (cfg.within D) _ z.2 a1 W1 _ _ s u A g1 H fun e st' h' a' W' i m w=>?_
   have E:Agree (some D.lim) st st':=(Agree.head q _).trans w
   cases e with
   | normal=>
    obtain ⟨ad,ai,ac,ak,ah,al,hμ⟩:=i.out
    exact ⟨(ad++ai,h'),⟨ah,al,m.head q E aa s ac ak⟩,hμ⟩
   | exit id=>exact p (.exit id) st' h' a' W' i m (E.within q)
   | ret=>exact p .ret st' h' a' W' i m (E.within q)
 | exit id=>exact fun {F} _ {fu h0 W0} cfg st h a W Q Q' s u A g d p=>wpIn_exit (p (.exit id) st h a W d g (Agree.refl _ _))
 | ret=>exact fun {F} _ {fu h0 W0} cfg st h a W Q Q' s u A g d p=>wpIn_ret (p .ret st h a W d g (Agree.refl _ _))
 | rangeFunc x ps asg body iha ihb=>
  intro F _ fu h0 W0 cfg st h a W Q Q' s u A g d p
  unfold U1 at d
  split at d
  ·rename_i v zs V am
   obtain ⟨q,d⟩:=d.both
   simp only [aI,Bool.not_eq_true',aN] at q
   obtain ⟨⟨L,an⟩,ab⟩:=q
   obtain rfl:=A ab
   split at d
   ·refine A37 g V (aL L) (fun t ht=>by simp_all) d ?_ (fun h' a' W' i m=>p .normal st h' a' W' i m (Agree.refl _ _))
    intro l vs X J a1 W1 H g1
    refine ⟨fun G C=>U1 P fa body { cfg with lim:=none,inr:=true } G C fun e _ h3=>
      match e with
      | .normal=>J h3
      | _=>False,fun O Q2 B=>?_,fun W1' G C T W2 O Q2 R S B=>?_⟩
    ·refine iha (F:=Fence.wide.inRound l) { cfg with lim:=none,inr:=true } _ X a1 W1 _ _ s u (fun e=>by cases e) g1 H fun e st' h' a' W' i m _=>?_
     cases e with
     | normal=>exact B st' h' a' W' i m
     | _=>exact i.elim
    ·refine ihb (F:=Fence.wide.inRound l) { cfg with lim:=none,inr:=true } _ C T W2 _ _ s u (fun e=>by cases e) S R fun e st' h' a' W' i m _=>?_
     cases e with
     | normal=>exact B st' h' a' W' i m
     | _=>exact i.elim
   ·refine A0i g V (aL L) (fun t ht=>by simp_all) d ?_ (fun h' a' W' i m=>p .normal st h' a' W' i m (Agree.refl _ _)) (fun h' a' W' i m=>p .ret st h' a' W' i m (Agree.refl _ _))
    intro l vs X J JR a1 W1 H g1
    refine ⟨fun G C=>U1 P fa body { cfg with lim:=none,inr:=true } G C fun e _ h3=>
      match e with
      | .normal=>J h3
      | .ret=>JR h3
      | _=>False,fun O Q2 B=>?_,fun W1' G C T W2 O Q2 R S B aj=>?_⟩
    ·refine iha (F:=Fence.wide.inRound l) { cfg with lim:=none,inr:=true } _ X a1 W1 _ _ s u (fun e=>by cases e) g1 H fun e st' h' a' W' i m _=>?_
     cases e with
     | normal=>exact B st' h' a' W' i m
     | _=>exact i.elim
    ·refine ihb (F:=Fence.wide.inRound l) { cfg with lim:=none,inr:=true } _ C T W2 _ _ s u (fun e=>by cases e) S R fun e st' h' a' W' i m _=>?_
     cases e with
     | normal=>exact B st' h' a' W' i m
     | ret=>exact aj st' h' a' W' i m
     | exit _=>exact i.elim
  grind
 | scope b ih=>
  intro F _ fu h0 W0 cfg st h a W Q Q' s u A g d p
  refine A2h (ih cfg st h a W Q (C5n Q') s u A g d fun e st' h' a' W' i m w=>?_)
  cases e with
  | normal=>exact p .normal st' h' a' W' i m w
  | exit id=>exact p (.exit id) st' h' a' W' i m w
  | ret=>exact p .ret st' h' a' W' i m w
 | label l=>exact fun {F} _ {fu h0 W0} cfg st h a W Q Q' s u A g d p=>wpIn_label (p .normal st h a W d g (Agree.refl _ _))
 | _=>intro F _ fu h0 W0 cfg st h a W Q Q' s u A g d p;exact d.elim
def B5v(args:List aE):VS:={ env:=fun i=>.val (args.getD i undef),own:=fun _=>none }
def A4q(P:aO)(st:VS):ResultVar->Option aE
 | .tmp t=>match st.env t with
  | .val v=>some v
  | _=>none
 | .cell a t=>match st.env a with
  | .own k off=>match st.own k with
   | some cs=>match Mi P t with
    | some true=>bif Nat.ble (off+P.cellsOf t) cs.length then some (.agg ((cs.drop off).take (P.cellsOf t)).toArray) else none
    | some false=>cs[off]?
    | none=>none
   | none=>none
  | _=>none
def Xi(P:aO)(st:VS):List ResultVar->Option (List aE)
 | []=>some []
 | r::rs=>match A4q P st r with
  | some v=>match Xi P st rs with
   | some vs=>some (v::vs)
   | none=>none
  | none=>none
def B5c(P:aO)(st:VS)(h:aH):List ResultVar->(List aE->Prop)->Prop
 | [],C=>C []
 | .tmp t::rs,C=>match st.env t with
  | .val v=>B5c P st h rs fun vs=>C (v::vs)
  | _=>False
 | .cell x t::rs,C=>match st.env x with
  | .own k off=>match st.own k with
   | some cs=>Y4 P t cs off fun w=>match w with
    | .val v=>B5c P st h rs fun vs=>C (v::vs)
    | _=>False
   | none=>False
  | .val (.pointer (some p))=>Y6 P t p h fun w=>match w with
   | .val v=>B5c P st h rs fun vs=>C (v::vs)
   | _=>False
  | _=>False
def Nq:List aE->aE
 | [v]=>v
 | vs=>.tuple vs.toArray
def A33(P:aO)(rs:List ResultVar)(K:VP)(e:Ex)(st:VS)(h:aH):Prop:=
 match e with
 | .exit _=>False
 | _=>match Xi P st rs with
  | some a=>K (Nq a) h
  | none=>B5c P st h rs fun a=>K (Nq a) h
def C35(P:aO)(fa:FnAnn)(cfg:Cfg)(rs:List ResultVar)(c:aU)(args:List aE)(h:aH)(K:VP):Prop:=
 U1 P fa c cfg (B5v args) h fun e st a=>A33 P rs K e st a
def A5y{θ:Nat->Nat}(r:Rel s0 n θ st h a W){rv:ResultVar}{v:aE}(e:A4q P st rv=some v):
 (match rv with
  | .tmp t=>(pure (a.tmps.getD t undef):Sem aE)
  | .cell x t=>do loadVar t (<- asAddr (a.tmps.getD x undef))).run P W= .ok v W:=by
 cases rv with
 | tmp t=>
  simp only [A4q] at e
  have:=r.slot' t
  split at e
  ·rename_i u c
   rw [c] at this
   have this:a.tmps.getD t undef=u:=this
   simp_all
  ·cases e
 | cell x t=>
  simp only [A4q] at e
  have g:=r.slot' x
  split at e
  ·rename_i k b m
   rw [m] at g
   have g:a.tmps.getD x undef= .pointer (some ⟨θ k,b,none⟩):=g
   split at e
   ·rename_i l i
    have p:Y4 P t l b fun w=>w= .val v:=by
     split at e
     ·rename_i d
      cases hb:Nat.ble (b+P.cellsOf t) l.length with
      | false=>grind
      | true=>
       rw [hb] at e;injection e with e
       unfold Y4;rw [d]
       simp only [Ke d,hb,Bool.and_self]
       show _=_
       rw [e]
     ·unfold Y4;grind
     ·cases e
    obtain ⟨u,c,j⟩:=Ez r i p
    injection c with c;subst c
    simp only [aV,aQ,Sem.run_bind,Sem.run_pure,aC] at j
    simp only [g,asAddr,Sem.run_bind,Sem.run_pure,aC,j]
   ·cases e
  ·cases e
def Ry{θ:Nat->Nat}(r:Rel s0 n θ st h a W)(rs:List ResultVar):∀ {vs:List aE},Xi P st rs=some vs->
 (rs.mapM fun (rv:ResultVar)=>match rv with
  | .tmp t=>(pure (a.tmps.getD t undef):Sem aE)
  | .cell x t=>do loadVar t (<- asAddr (a.tmps.getD x undef))).run P W= .ok vs W:=by
 induction rs with
 | nil=>intro vs e;injection e with e;simp_all
 | cons rv rs ih=>
  intro vs e
  unfold Xi at e
  split at e
  ·rename_i v c
   split at e
   ·rename_i d b
    injection e with e;subst e
    rw [List.mapM_cons]
    simp only [Sem.run_bind,A5y r c,aC,ih b,Sem.run_pure]
   ·cases e
  ·cases e
def A4r{θ:Nat->Nat}(r:Rel s0 n θ st h a W)(rs:List ResultVar):∀ {C:List aE->Prop},B5c P st h rs C->∃ vs,C vs/\
 (rs.mapM fun (rv:ResultVar)=>match rv with
  | .tmp t=>(pure (a.tmps.getD t undef):Sem aE)
  | .cell x t=>do loadVar t (<- asAddr (a.tmps.getD x undef))).run P W= .ok vs W:=by
 induction rs with
 | nil=>intro C e;exact ⟨[],e,by simp⟩
 | cons rv rs ih=>
  intro C e
  have next:∀ (v:aE),(match rv with
   | .tmp t=>(pure (a.tmps.getD t undef):Sem aE)
   | .cell x t=>do loadVar t (<- asAddr (a.tmps.getD x undef))).run P W= .ok v W->(B5c P st h rs fun vs=>C (v::vs))->∃ vs,C vs/\
  ((rv::rs).mapM fun (rv:ResultVar)=>match rv with
   | .tmp t=>(pure (a.tmps.getD t undef):Sem aE)
   | .cell x t=>do loadVar t (<- asAddr (a.tmps.getD x undef))).run P W= .ok vs W:=by
   intro v q g
   obtain ⟨w,m,c⟩:=ih g
   simp_all
  cases rv with
  | tmp t=>
   unfold B5c at e
   have:=r.slot' t
   split at e
   ·rename_i u d
    rw [d] at this
    have this:a.tmps.getD t undef=u:=this
    exact next u (by simp_all) e
   grind
  | cell x t=>
   unfold B5c at e
   have b:=r.slot' x
   split at e
   ·rename_i k i g
    rw [g] at b
    have b:a.tmps.getD x undef= .pointer (some ⟨θ k,i,none⟩):=b
    split at e
    ·rename_i s j
     obtain ⟨u,d,c⟩:=Ez r j e
     refine next u ?_ d
     simp only [aV,aQ,Sem.run_bind,Sem.run_pure,aC] at c
     simp only [b,asAddr,Sem.run_bind,Sem.run_pure,aC,c]
    grind
   ·rename_i p l
    rw [l] at b
    have b:a.tmps.getD x undef= .pointer (some p):=b
    obtain ⟨u,d,c⟩:=Jg r.sim e
    refine next u ?_ d
    simp only [aV,aQ,Sem.run_bind,Sem.run_pure,aC] at c
    simp only [b,asAddr,Sem.run_bind,Sem.run_pure,aC,c]
   grind
def Jk(fn:Func):aU:=
 match fn.body with
 | some c=>c
 | none=>.skip
def Bodies.nil:Bodies P []:=fun g a=>by cases a
def Bodies.cons{g:Nat}{l:List Nat}(hg:∀ args W,(callFunc g args).run P W= .ok (.enter g args) W)(hl:Bodies P l):Bodies P (g::l):=fun k a=>by
 cases a with
 | head=>exact hg
 | tail _ a=>exact hl k a
def Qi{r:Nat}(e:W.heap[r]? = some (.deferred (some []))):(Instr.takeDeferred r).run P W= .ok [] (World.setO W r (.deferred none)):=by
 simp [Instr.takeDeferred,getObj,Sem.run_bind,Sem.run,e,Z8 e gz0]
def A9j{fn:Func}{tmps:Array aE}{R:Ending->aF->Prop}: ∀ (ds:List Deferred) (W:aF) (rs:List Nat),rs.Nodup->ds.map (·.target)=rs.map Target.collected->(∀ r∈rs,W.heap[r]? = some (.deferred (some [])))->
 (∀ W2:aF,W2.os=W.os->W2.tape=W.tape->W2.output=W.output->W2.heap.size=W.heap.size->(∀ b,b∉rs->W2.heap[b]? = W.heap[b]?)->∃ v,(results fn tmps).run P W2= .ok v W2/\R (.returned v) W2)->
 LeavesInM Fence.wide 0 P fn tmps R ds .returning W:=by
 intro ds
 induction ds with
 | nil=>
  intro W rs _ e _ x
  exact x W rfl rfl rfl rfl (fun _ _=>rfl)
 | cons d ds ih=>
  intro W rs i e m x
  cases rs with
  | nil=>cases e
  | cons r rs=>
   simp only [List.map_cons,List.cons.injEq] at e
   have j:=m r (by simp)
   obtain ⟨n,c⟩:=List.nodup_cons.1 i
   refine ⟨by simp,.inl ⟨r,_,e.1,Qi j,ih _ rs c e.2 (fun q u=>?_) (fun W2 k l p g s=>x W2 k l p (by rw [g];simp [World.setO]) (fun b a=>?_))⟩⟩
   ·rw [F5 gz0];grind
   ·simp only [List.mem_cons,not_or] at a
    rw [s b a.2,F5 a.1]
def A58{f:FuncId}{fn:Func}(hf:P.funcs[f]? = some fn){c:aU}(hb:fn.body=some c){rs:List ResultVar}(hr:fn.results.toList=rs){fa:FnAnn}{cfg:Cfg}{args:List aE}(hn:cfg.n=args.length+(fn.ntmps-args.length))(hfn:Bodies P cfg.fns){h:aH}{K:VP}
 (hv:C35 P fa cfg rs c args h K):FCall P f args.toArray h K:=by
 intro W L
 subst hr
 have g:aK cfg.n h W (B5v args) h { tmps:=args.toArray++Array.replicate (fn.ntmps-args.toArray.size) undef,defers:=[] } W:=by
  refine ⟨fun _=>0,⟨MarksOk.nil,by simp [hn],fun i hi=>?_,L,(fun k H e=>by cases e),(fun k k' C=>by cases C),(fun i k T e=>by cases e),fun i hi=>?_⟩,Fr.refl L,(fun k C=>by cases C)⟩
  ·show _=args.getD i undef
   rcases Nat.lt_or_ge i args.length with x|x
   ·simp_all
   simp_all
  ·show AVal.val (args.getD i undef)=_
   grind
 refine callsIn_wide.1 (callsIn_of_wp_marks (n:=0) hf hb trivial (A6q c (F:=Fence.wide) cfg _ h _ W _ _ rfl hfn (fun _=>rfl) g hv fun e B p y W' a R _=>?_))
 obtain ⟨θ,r,s,_⟩:=R
 have j:(∀ {a2:Act} {W2:aF},Rel W.heap.size cfg.n θ B p a2 W2->∃ d,K (Nq d) p/\(fn.results.toList.mapM fun (rv:ResultVar)=>match rv with
  | .tmp t=>(pure (a2.tmps.getD t undef):Sem aE)
  | .cell x t=>do loadVar t (<- asAddr (a2.tmps.getD x undef))).run P W2= .ok d W2)->bodyPostM Fence.wide 0 P fn (fun e W'=>∃ r p,e= .returned r/\K r p/\Fr h W p W') .ret y W':=by
  intro A
  obtain ⟨rs,O,S,D⟩:=r.defers
  refine A9j y.defers W' rs O S (fun q Q=>(D q Q).2.2) ?_
  intro W2 M V N X G
  have z:Fr h W p W2:=by
   refine ⟨fun b o e=>?_,M.trans s.os,V.trans s.tape,N.trans s.output,by rw [X];exact s.size,fun b hb e=>?_,s.new⟩
   ·rw [G b (fun E=>gz0)];exact s.sim b o e
   ·rw [G b (fun E=>gz0)];exact s.keep b hb e
  have m:Rel W.heap.size cfg.n θ B p { y with defers:=[] } W2:=by
   refine ⟨MarksOk.nil,r.size,r.slot,z.sim,fun k H e=>?_,r.inj,r.wf,r.out⟩
   obtain ⟨t,g1,g2⟩:=r.own k H e
   grind
  obtain ⟨d,a,E⟩:=A m
  refine ⟨Nq d,?_,_,p,rfl,a,z⟩
  have e:(results fn y.tmps).run P W2=((fn.results.toList.mapM (fun (rv:ResultVar)=>match rv with
   | .tmp t=>(pure (y.tmps.getD t undef):Sem aE)
   | .cell x t=>do loadVar t (<- asAddr (y.tmps.getD x undef)))).run P W2).andThen fun l w=>.ok (if h:l.toArray.size=1 then l.toArray[0] else .tuple l.toArray) w:=by
   unfold results
   rw [Sem.run_bind,Array.mapM_eq_mapM_toList]
   simp only [map_eq_pure_bind,Sem.run_bind]
   generalize Sem.run P _ W2=x
   cases x<;>simp
  rw [e,E,aC]
  cases d with
  | nil=>rfl
  | cons v d=>cases d<;>rfl
 cases e with
 | exit id=>exact a.elim
 | normal=>
  unfold A33 at a
  split at a
  ·exact a.elim
  ·split at a
   ·rename_i d u;exact j fun m=>⟨d,a,Ry (P:=P) m fn.results.toList u⟩
   ·exact j fun m=>A4r (P:=P) m fn.results.toList a
 | ret=>
  unfold A33 at a
  split at a
  ·exact a.elim
  ·split at a
   ·rename_i d u;exact j fun m=>⟨d,a,Ry (P:=P) m fn.results.toList u⟩
   ·exact j fun m=>A4r (P:=P) m fn.results.toList a
def C24{L:List Nat}(hL:Bodies P L){f:FuncId}{fn:Func}(hf:P.funcs[f]? = some fn)(rs:List ResultVar)(fa:FnAnn)(n:Nat)(own fns wr:List Nat){args:List aE}{h:aH}{K:VP}{T:Prop}
 (e:(fn.body.isSome,fn.results.toList,n,fns.all (has L),C35 P fa { n:=n,own:=own,lim:=none,fns:=fns,wr:=wr,ent:=fa.ent } rs (Jk fn) args h K)=(true,rs,args.length+(fn.ntmps-args.length),true,T)) (hvc:T):FCall P f args.toArray h K:=by
 simp only [Prod.mk.injEq] at e
 obtain ⟨k,j,b,c,a⟩:=e
 have d:fn.body=some (Jk fn):=by
  unfold Jk
  grind
 exact A58 hf d j b (fun g i=>hL g (Ab.1 (List.all_eq_true.1 c g i))) (a.mpr hvc)
end
abbrev I(n:Int):aE:=.int .i64 n
abbrev I32(n:Int):aE:=.int .i32 n
abbrev U(n:Int):aE:=.int .u64 n
abbrev U32(n:Int):aE:=.int .u32 n
abbrev Y(n:Int):aE:=.int .u8 n
abbrev B9(n:Int):Int:=IntKind.i64.wrap n
abbrev C5t(n:Int):Int:=IntKind.i32.wrap n
abbrev C6(n:Int):Int:=IntKind.u64.wrap n
abbrev N4(n:Int):Int:=IntKind.u32.wrap n
abbrev wu8(n:Int):Int:=IntKind.u8.wrap n
def A5f(k:IntKind)(x y:Int):Int:=k.wrap (BitVec.ofInt k.bits x &&& BitVec.ofInt k.bits y).toNat
def bor(k:IntKind)(x y:Int):Int:=k.wrap (BitVec.ofInt k.bits x ||| BitVec.ofInt k.bits y).toNat
def C6e(k:IntKind)(x y:Int):Int:=k.wrap (BitVec.ofInt k.bits x ^^^ BitVec.ofInt k.bits y).toNat
def B8y(k:IntKind)(x y:Int):Int:=k.wrap (BitVec.ofInt k.bits x &&& ~~~BitVec.ofInt k.bits y).toNat
