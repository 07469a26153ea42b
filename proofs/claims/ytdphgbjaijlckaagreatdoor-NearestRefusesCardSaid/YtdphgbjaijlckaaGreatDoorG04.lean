/- A part. -/
import Derived.Test.YtdphgbjaijlckaaGreatDoorG03
set_option linter.all false
open Bool renaming and_eq_true->aF
open _root_.Go.Instr renaming sureAddr->aN,endRound->aO,endLoop->aP,loadAt->aR
open List renaming all_eq_true->aJ,drop_length_add_append->aM
open Nat renaming beq->aH,eq_of_beq_eq_true->aK
open _root_.Go.Result renaming andThen_ok->aC
open _root_.Go renaming Value->aD,World->aE,Program->aL,Code->aQ
open _root_.Go.Proofs.YtdphgbjaijlckaaGreatDoor renaming Heap->aG,Good->aI
namespace Go.Proofs.YtdphgbjaijlckaaGreatDoor
open Go
inductive Ex where
 | normal
 | exit (id:Nat)
 | ret
structure Ann where
 slots:List Nat
 owns:List (Nat × Nat)
 zs:List aD
 lim:Lim
structure FnAnn where
 loops:List (Nat × Ann):=[]
 cuts:List (Nat × Ann):=[]
 orders:List (Nat × List Nat × List (List Nat)):=[]
 rounds:List (Nat × List aD):=[]
 alts:List (Nat × List (Nat × List Nat)):=[]
def an0:FnAnn:=⟨[],[],[],[],[]⟩
def Ds{α:Type}:List (Nat × α)->Nat->Option α
 | [],_=>none
 | (k,x)::r,i=>bif aH i k then some x else Ds r i
def B3f(l m:List Nat):List Nat:=m.foldr (fun x l=>bif has l x then l else x::l) l
def A3r:List Oper->List (List Nat)->List (List Nat)
 | [],acc=>acc
 | o::r,acc=>A3r r (acc++[o.after.toList.foldr (fun e l=>bif Region.binds .any e then B3f l (e.on::acc.getD e.on []) else l) []])
def B3b(fa:FnAnn)(id:Nat)(ops:Array Oper):List Nat × List (List Nat):=
 match Ds fa.orders id with
 | none=>(List.range ops.size,A3r ops.toList [])
 | some (o,[])=>(o,A3r ops.toList [])
 | some (o,a::l)=>(o,a::l)
def H2:aQ->Option Nat
 | .region id _ _=>some id
 | .seq a b=>match H2 a with
  | some i=>some i
  | none=>H2 b
 | .block _ b=>H2 b
 | .loop b=>H2 b
 | .scope b=>H2 b
 | .cond _ a b=>match H2 a with
  | some i=>some i
  | none=>H2 b
 | _=>none
def Wl:List Nat->Nat->Nat->Option Nat
 | [],_,_=>none
 | x::xs,i,j=>bif aH i x then some j else Wl xs i (j+1)
def Co:List (Nat × Nat)->Nat->Nat->Option (Nat × Nat)
 | [],_,_=>none
 | (k,n)::r,i,j=>bif aH i k then some (j,n) else Co r i (j+n)
def Y8(ann:Ann)(st:VS)(vs:List aD):VS:=
 { env:=fun i=>match Wl ann.slots i 0 with
    | some j=>.val (vs.getD j undef)
    | none=>bif has ann.lim.slots i then .any else st.env i
   own:=fun k=>match Co ann.owns k ann.slots.length with
    | some (j,n)=>some ((vs.drop j).take n)
    | none=>st.own k }
def Y9(st:VS):List Nat->Option (List aD)
 | []=>some []
 | i::is=>match st.env i with
  | .val v=>match Y9 st is with
   | some vs=>some (v::vs)
   | none=>none
  | _=>none
def Iz(st:VS):List (Nat × Nat)->Option (List aD)
 | []=>some []
 | (k,n)::r=>match st.own k with
  | some cs=>bif aH cs.length n then (match Iz st r with
   | some vs=>some (cs++vs)
   | none=>none) else none
  | none=>none
def Iy:List aD->List aD->Bool
 | [],[]=>true
 | z::zs,v::vs=>Tu z v&&Iy zs vs
 | _,_=>false
def keep(ann:Ann)(st:VS)(h:aG)(K:LP):Prop:=
 match Y9 st ann.slots with
 | some xs=>match Iz st ann.owns with
  | some ys=>When (Iy ann.zs (xs++ys)) (K (xs++ys) h)
  | none=>False
 | none=>False
def Js(cfg:Cfg)(ann:Ann)(st:VS):Bool:=
 ann.lim.slots.all (fun d=>Tt cfg d)&&ann.lim.keys.all (fun k=>Tv cfg.lim k&&((st.own k).isNone||(Co ann.owns k 0).isSome)) &&
 ann.slots.all (has ann.lim.slots)&&ann.owns.all (fun p=>has ann.lim.keys p.1)&&kindsLen ann
where
 kindsLen (ann:Ann):Bool:=aH ann.zs.length (ann.slots.length+ann.owns.foldr (fun p s=>p.2+s) 0)
def Cfg.within(cfg:Cfg)(ann:Ann):Cfg:={ n:=cfg.n,own:=cfg.own,lim:=some ann.lim,fns:=cfg.fns,wr:=cfg.wr,inr:=cfg.inr }
def A9q(ann:Ann)(cfg:Cfg)(body:Cfg->VS->aG->(Ex->VS->aG->Prop)->Prop)(st:VS)(h:aG)(Q:Ex->VS->aG->Prop):Prop:=
 When (Js cfg ann st) <|
 ∃ (Inv:LP) (μ:LN),keep ann st h Inv/\
  allL ann.zs fun d=>∀ h,Inv d h->body (cfg.within ann) (Y8 ann st d) h fun e a b=>
   match e with
   | .normal=>keep ann a b fun c b=>Inv c b/\μ c b<μ d h
   | e=>Q e a b
def B2a(ann:Ann)(cfg:Cfg)(a b:Cfg->VS->aG->(Ex->VS->aG->Prop)->Prop)(st:VS)(h:aG)(Q:Ex->VS->aG->Prop):Prop:=
 When (Js cfg ann st) <|
 ∃ J:LP,(a (cfg.within ann) st h fun e c d=>
    match e with
    | .normal=>keep ann c d J
    | e=>Q e c d)/\
  allL ann.zs fun f=>∀ h,J f h->b cfg (Y8 ann st f) h Q
def A5h:AVal->AVal
 | .own _ _=>.any
 | v=>v
def putAll:VS->List Nat->List aD->VS
 | st,t::ts,v::vs=>putAll (st.put t (.val v)) ts vs
 | st,_,_=>st
def Io(st:VS)(ps:List Nat)(vs:List aD):VS:=putAll { env:=fun i=>A5h (st.env i),own:=fun _=>none } ps vs
def O3(P:aL)(fa:FnAnn):aQ->Cfg->VS->aG->(Ex->VS->aG->Prop)->Prop
 | .skip,_,st,h,Q=>Q .normal st h
 | .region id ops draw,cfg,st,h,Q=>
  match draw with
  | false=>A4e P cfg ops false (List.range ops.size) st h (Q .normal)
  | true=>
   match B3b fa id ops with
   | (ord,anc)=>When (A3g P ops ord anc) (Cl P cfg ops anc (fun j=>((Ds fa.alts id).bind (fun l=>Ds l j)).getD []) ord.length ord st h (Q .normal))
 | .seq a b,cfg,st,h,Q=>
  match (H2 b).bind (Ds fa.cuts) with
  | none=>O3 P fa a cfg st h fun e st' h'=>
   match e with
   | .normal=>O3 P fa b cfg st' h' Q
   | e=>Q e st' h'
  | some ann=>B2a ann cfg (O3 P fa a) (O3 P fa b) st h Q
 | .cond c t e,cfg,st,h,Q=>
  match C7 st c with
  | .val (.bool b)=>Br b (O3 P fa t cfg st h Q) (O3 P fa e cfg st h Q)
  | _=>False
 | .block id b,cfg,st,h,Q=>O3 P fa b cfg st h fun e st' h'=>
  match e with
  | .exit j=>bif aH j id then Q .normal st' h' else Q (.exit j) st' h'
  | e=>Q e st' h'
 | .loop b,cfg,st,h,Q=>
  match (H2 b).bind (Ds fa.loops) with
  | none=>False
  | some ann=>A9q ann cfg (O3 P fa b) st h Q
 | .rangeFunc g ps asg body,cfg,st,h,Q=>
  match C7 st g,(H2 body).bind (Ds fa.rounds) with
  | .val v,some zs=>
   When (aH zs.length ps.size&&ps.toList.all (fun t=>Nat.blt t cfg.n) && !cfg.inr)
    (match (H2 body).bind fun i=>Ds fa.rounds (i+1000000) with
    | none=>Zc P v h (fun args h1 J=>exL zs fun vs=>args=vs/\O3 P fa asg { cfg with lim:=none,inr:=true } (Io st ps.toList vs) h1 fun e st1 h2=>
     match e with
     | .normal=>O3 P fa body { cfg with lim:=none,inr:=true } st1 h2 fun e _ h3=>
      match e with
      | .normal=>J h3
      | _=>False
     | _=>False) (Q .normal st)
    | some _=>A42 P v h (fun args h1 J JR=>exL zs fun vs=>args=vs/\O3 P fa asg { cfg with lim:=none,inr:=true } (Io st ps.toList vs) h1 fun e st1 h2=>
     match e with
     | .normal=>O3 P fa body { cfg with lim:=none,inr:=true } st1 h2 fun e _ h3=>
      match e with
      | .normal=>J h3
      | .ret=>JR h3
      | _=>False
     | _=>False) (Q .normal st) (Q .ret st))
  | _,_=>False
 | .exit id,_,st,h,Q=>Q (.exit id) st h
 | .ret,_,st,h,Q=>Q .ret st h
 | .scope b,cfg,st,h,Q=>O3 P fa b cfg st h Q
 | .label _,_,st,h,Q=>Q .normal st h
 | _,_,_,_,_=>False
section
variable {P:aL} {s0:Nat} {F:Fence} {fu:Nat} {n:Nat} {st:VS} {h:aG} {a:Act} {W:aE}
def Ot{l:List Nat}: ∀ {i j p:Nat},Wl l i j=some p->∃ q,p=j+q/\l[q]? = some i:=by
 induction l with
 | nil=>intro i j p e;cases e
 | cons x xs ih=>
  intro i j p e
  unfold Wl at e
  cases hb:aH i x with
  | true=>
   simp_all
  | false=>
   rw [hb] at e
   obtain ⟨q,b,a⟩:=ih e
   exact ⟨q+1,o,by assumption⟩
def Wr{l:List Nat}: ∀ {vs:List aD} {q i:Nat},Y9 st l=some vs->l[q]? = some i->∃ v,vs[q]? = some v/\st.env i= .val v:=by
 induction l with
 | nil=>grind
 | cons x xs ih=>
  intro vs q i a e
  unfold Y9 at a
  grind
def Lx{l:List Nat}: ∀ {vs:List aD},Y9 st l=some vs->vs.length=l.length:=by
 induction l with
 | nil=>intro vs e;injection e with e;grind
 | cons x xs ih=>
  intro vs a
  unfold Y9 at a
  grind
def A05{l:List (Nat × Nat)}: ∀ {vs:List aD} {k j p m:Nat},Iz st l=some vs->Co l k j=some (p,m)->∃ q,p=j+q/\st.own k=some ((vs.drop q).take m):=by
 induction l with
 | nil=>intro vs k j p m _ e;cases e
 | cons x xs ih=>
  obtain ⟨g,d⟩:=x
  intro vs k j p m a e
  unfold Iz at a
  split at a
  ·rename_i i n
   cases hb:aH i.length d with
   | false=>grind
   | true=>
    rw [hb] at a
    have b:=aK hb
    split at a
    ·rename_i s c
     injection a with a;subst a
     unfold Co at e
     cases hk:aH k g with
     | true=>
      simp_all
     | false=>
      rw [hk] at e
      obtain ⟨q,r,f⟩:=ih c e
      refine ⟨d+q,o,?_⟩
      rw [f,<- b,aM]
    ·cases a
  ·cases a
def Lv{zs:List aD}: ∀ {vs:List aD},Iy zs vs=true->vs.length=zs.length/\∀ p∈zs.zip vs,Tu p.1 p.2=true:=by
 induction zs with
 | nil=>
  intro vs e
  cases vs with
  | nil=>simp_all
  | cons=>cases e
 | cons z zs ih=>
  intro vs e
  cases vs with
  | nil=>cases e
  | cons v vs=>
   simp only [Iy,aF] at e
   obtain ⟨a,b⟩:=ih e.2
   simp_all
def keep.out{ann:Ann}{K:LP}(x:keep ann st h K):
 ∃ xs ys,Y9 st ann.slots=some xs/\Iz st ann.owns=some ys/\Iy ann.zs (xs++ys)=true/\K (xs++ys) h:=by
 unfold keep at x
 split at x
 ·split at x
  ·rename_i xs b _ ys a
   exact ⟨xs,ys,b,a,x.both.1,x.both.2⟩
  grind
 grind
def Tk{l:List (Nat × Nat)}: ∀ {k i j:Nat},(Co l k i).isSome=(Co l k j).isSome:=by
 induction l with
 | nil=>intros;rfl
 | cons x xs ih=>
  obtain ⟨b,a⟩:=x
  intro k i j
  unfold Co
  grind
def Good.head{cfg:Cfg}{h0:aG}{W0:aE}{ann:Ann}{st0:VS}(g:aI n h0 W0 st h a W)(hok:Js cfg ann st0=true)(ag:Agree (some ann.lim) st0 st)(g0:∀ i k off,st0.env i= .own k off->(st0.own k).isSome=true)(hn:cfg.n=n)
 {xs ys:List aD} (hx:Y9 st ann.slots=some xs) (hy:Iz st ann.owns=some ys):aI n h0 W0 (Y8 ann st0 (xs++ys)) h a W:=by
 obtain ⟨θ,r,f,M⟩:=g
 simp only [Js,aF,aJ] at hok
 obtain ⟨⟨⟨⟨A,z⟩,G⟩,F⟩,_⟩:=hok
 have l:=Lx hx
 have c:∀ i,(∃ v,(Y8 ann st0 (xs++ys)).env i= .val v/\st.env i= .val v)\/((Y8 ann st0 (xs++ys)).env i= .any/\has ann.lim.slots i=true)\/((Y8 ann st0 (xs++ys)).env i=st.env i/\st.env i=st0.env i):=by
  intro i
  show (∃ v,(match Wl ann.slots i 0 with
   | some j=>AVal.val ((xs++ys).getD j undef)
   | none=>bif has ann.lim.slots i then .any else st0.env i)=_/\_)\/(_=_/\_)\/(_=_/\_)
  simp only [Y8]
  cases hp:Wl ann.slots i 0 with
  | some p=>
   obtain ⟨q,y,D⟩:=Ot hp
   obtain ⟨v,H,L⟩:=Wr hx D
   grind
  | none=>
   cases hh:has ann.lim.slots i with
   | true=>grind
   | false=>exact .inr (.inr ⟨(ag.env i hh).symm,ag.env i hh⟩)
 have t:∀ k d,(Y8 ann st0 (xs++ys)).own k=some d->st.own k=some d:=by
  intro k d e
  simp only [Y8] at e
  cases hp:Co ann.owns k ann.slots.length with
  | some p=>
   obtain ⟨p,m⟩:=p
   rw [hp] at e
   obtain ⟨q,y,C⟩:=A05 hy hp
   injection e with e
   rw [C,<- e,y,<- l,aM]
  | none=>
   rw [hp] at e
   have e:st0.own k=some d:=e
   cases hh:has ann.lim.keys k with
   | false=>rw [ag.own k hh];exact e
   | true=>
    have:=(z k (R7.1 hh)).2
    rw [e,Tk (j:=ann.slots.length),hp] at this
    cases this
 refine ⟨θ,⟨r.defers,r.size,fun i u=>?_,r.sim,fun k d e=>r.own k d (t k d e),fun k B x w e=>?_,fun i k off e=>?_,fun i u=>?_⟩,f,fun k x=>?_⟩
 ·rcases c i with ⟨v,b,s⟩|⟨b,_⟩|⟨b,_⟩
  ·have:=r.slot i u;grind
  ·rw [b];trivial
  ·rw [b];exact r.slot i u
 ·obtain ⟨d,b⟩:=Option.isSome_iff_exists.1 x
  obtain ⟨E,s⟩:=Option.isSome_iff_exists.1 w
  exact r.inj k B gz0 gz0 e
 ·rcases c i with ⟨v,b,_⟩|⟨b,_⟩|⟨b,s⟩
  ·grind
  ·grind
  ·simp only [Y8]
   grind
 ·rcases c i with ⟨v,b,s⟩|⟨b,s⟩|⟨b,s⟩
  ·have:=r.out i u;grind
  ·have:=A i (R7.1 s)
   simp only [Tt,aF] at this
   have:=Nat.le_of_ble_eq_true this.1
   omega
  ·rw [b];exact r.out i u
 ·obtain ⟨d,b⟩:=Option.isSome_iff_exists.1 x
  grind
def Agree.within{cfg:Cfg}{ann:Ann}{st0 st':VS}(hok:Js cfg ann st0=true){s:VS}(x:Agree (some ann.lim) s st'):Agree cfg.lim s st':=by
 simp only [Js,aF,aJ] at hok
 obtain ⟨⟨⟨⟨b,a⟩,_⟩,_⟩,_⟩:=hok
 refine ⟨fun i c=>x.env i ?_,fun k d=>x.own k ?_⟩
 ·cases hh:has ann.lim.slots i with
  | false=>exact hh
  | true=>
   have:=b i (R7.1 hh)
   simp only [Tt,aF] at this
   grind
 ·cases hh:has ann.lim.keys k with
  | false=>exact hh
  | true=>have:=(a k (R7.1 hh)).1;grind
def Agree.head{ann:Ann}{cfg:Cfg}{st0:VS}(hok:Js cfg ann st0=true)(vs:List aD):Agree (some ann.lim) st0 (Y8 ann st0 vs):=by
 simp only [Js,aF,aJ] at hok
 obtain ⟨⟨⟨⟨r,g⟩,s⟩,n⟩,_⟩:=hok
 refine ⟨fun i a=>?_,fun k b=>?_⟩
 ·have a:has ann.lim.slots i=false:=a
  simp only [Y8]
  cases hp:Wl ann.slots i 0 with
  | some p=>
   obtain ⟨q,_,f⟩:=Ot hp
   grind
  | none=>simp [a]
 ·have b:has ann.lim.keys k=false:=b
  simp only [Y8]
  cases hp:Co ann.owns k ann.slots.length with
  | none=>rfl
  | some p=>
   exfalso
   have c:∀ {l:List (Nat × Nat)} {j:Nat} {p:Nat × Nat},Co l k j=some p->∃ m,(k,m)∈l:=by
    intro l
    induction l with
    | nil=>intro j p e;cases e
    | cons x xs ih=>
     obtain ⟨d,t⟩:=x
     intro j p e
     unfold Co at e
     cases hb:aH k d with
     | true=>simp_all
     | false=>grind
   grind
def Pp{α:Type}{c:aQ}{Q:Exit->Act->aE->Prop}(I:α->Act->aE->Prop)(μ:α->Nat)(z0:α)(h₀:I z0 a W)
 (round:∀ z a w,I z a w->c.wpIn F fu P (Exit.then (fun a' w'=>∃ z',I z' a' w'/\μ z'<μ z) Q) a w):(Code.loop c).wpIn F fu P Q a W:=by
 intro b k n s q p
 have key:∀ m z a w,μ z=m->I z a w->∃ e a' w',Q e a' w'/\ArrivesIn (Machine.fenced P F) P (lone (b.atR a (.code c :: .inLoop c::k)) n w) b k n e a' w':=by
  intro m
  induction m using Nat.strongRecOn with
  | _ m ih=>
   intro z a w A u
   obtain ⟨e,a₁,w₁,f,d⟩:=round z a w u b (.inLoop c::k) n s q p
   cases e with
   | normal=>
    obtain ⟨z',r,t⟩:=f
    obtain ⟨e,a',w',y,g⟩:=ih _ o z' a₁ w₁ rfl r
    exact ⟨e,a',w',y,.of_steps (StepsIn.trans d (.one (fenced_calm q p rfl) stepR_inLoop)) g⟩
   | exit id=>exact ⟨_,a₁,w₁,f,.pass (x:=.inLoop c) rfl (fun _ _=>.inl (by simp)) d⟩
   | goto l=>exact ⟨_,a₁,w₁,f,.pass (x:=.inLoop c) rfl (fun _ _=>.inl (by simp)) d⟩
   | ret=>exact ⟨_,a₁,w₁,f,.pass (x:=.inLoop c) rfl (fun _ _=>.inl (by simp)) d⟩
   | panic ch=>exact ⟨_,a₁,w₁,f,.pass (x:=.inLoop c) rfl (fun _ _=>.inl (by simp)) d⟩
   | outgrown=>exact ⟨_,a₁,w₁,f,.pass (x:=.inLoop c) rfl (fun _ _=>.inl (by simp)) d⟩
 obtain ⟨e,a',w',f,d⟩:=key _ z0 a W rfl h₀
 exact ⟨e,a',w',f,.of_steps (.one (fenced_calm q p rfl) stepR_loop) d⟩
def Ex.toExit:Ex->Exit
 | .normal=>.normal
 | .exit id=>.exit id
 | .ret=>.ret
def Good.wf{h0:aG}{W0:aE}(g:aI n h0 W0 st h a W):∀ i k off,st.env i= .own k off->(st.own k).isSome=true:=by
 obtain ⟨θ,r,_,_⟩:=g;exact r.wf
def Oq:∀ (ps:List Nat) (vs:List aD) (st:VS),(putAll st ps vs).own=st.own
 | [],_,_=>rfl
 | _::_,[],_=>rfl
 | t::ts,v::vs,st=>by rw [putAll,Oq ts vs];rfl
def Rel.putAll{θ:Nat->Nat}: ∀ (ps:List Nat) (vs:List aD) (st:VS) (a:Act),Rel s0 n θ st h a W->(∀ t∈ps,t<n)->Rel s0 n θ (putAll st ps vs) h { a with tmps:=(ps.zip vs).foldl (fun tmps (t,v)=>tmps.setIfInBounds t v) a.tmps } W
 | [],_,_,_,r,_=>r
 | _::_,[],_,_,r,_=>r
 | t::ts,v::vs,st,a,r,hp=>by
  have:=Rel.putAll ts vs (st.put t (.val v)) (a.put (some t) v) (r.put (hp t (by simp)) (v:=.val v) rfl (fun _ _ e=>by cases e)) (fun b c=>hp b (by simp [c]))
  exact this
def Good.round{h0:aG}{W0:aE}(g:aI n h0 W0 st h a W){ps:List Nat}(hps:∀ t∈ps,t<n){vs:List aD}{h1:aG}{W1:aE}(hs:Sim h1 W1):
 aI n h1 W1 (Io st ps vs) h1 { tmps:=(ps.zip vs).foldl (fun tmps (t,v)=>tmps.setIfInBounds t v) a.tmps,defers:=[] } W1:=by
 obtain ⟨θ,r,_,_⟩:=g
 have f:Rel W1.heap.size n θ { env:=fun i=>A5h (st.env i),own:=fun _=>none } h1 { tmps:=a.tmps,defers:=[] } W1:=by
  refine ⟨MarksOk.nil,r.size,fun i d=>?_,hs,(fun k j e=>by cases e),(fun k l e=>by cases e),fun i k c e=>?_,fun i d=>?_⟩
  ·have:=r.slot i d
   show rel θ (A5h (st.env i)) _
   cases hx:st.env i with
   | own k c=>trivial
   | val v=>rw [hx] at this;exact this
   | any=>trivial
  ·exfalso
   simp only at e
   cases hx:st.env i<;>rw [hx] at e<;>cases e
  ·show A5h (st.env i)=_
   rw [r.out i d];rfl
 refine ⟨θ,f.putAll ps vs _ _ hps,Fr.refl hs,fun k b=>?_⟩
 unfold Io at b
 rw [Oq] at b;cases b
def N3{l:Nat}{rec:Loop}(e:W.heap[l]? = some (.loop rec)):(Instr.getLoop l).run P W= .ok rec W:=by
 simp [Instr.getLoop,getObj,Sem.run_bind,Sem.run,e]
def World.setO(W:aE)(l:Nat)(o:Obj):aE:={ W with heap:=W.heap.setIfInBounds l o }
def R4{l:Nat}{o o':Obj}(e:W.heap[l]? = some o')(hc:∀ c t f,o' ≠ .cells c t f):(setObj l o).run P W= .ok () (World.setO W l o):=by
 cases o' with
 | cells c t f=>grind
 | _=>simp [setObj,Sem.run,e,World.setO]
def Aw{l:Nat}{o o':Obj}(e:W.heap[l]? = some o'):(World.setO W l o).heap[l]? = some o:=by
 have:=Bb e
 simp [World.setO,this]
def E7{l b:Nat}{o:Obj}(hb:b≠l):(World.setO W l o).heap[b]? = W.heap[b]? :=by
 simp [World.setO,Ne.symm hb]
def Good.setLoop{h0:aG}{W2 W3:aE}{l:Nat}{rec rec':Loop}(g:aI n h0 W2 st h a W3)(hl:h0 l=none)(hs:l<W2.heap.size)(e:W3.heap[l]? = some (.loop rec)):aI n h0 (World.setO W2 l (.loop rec')) st h a (World.setO W3 l (.loop rec')):=by
 obtain ⟨θ,r,d,M⟩:=g
 have p:h l=none:=by
  cases x:h l with
  | none=>rfl
  | some o=>have:=d.new l o hl x;omega
 have i:∀ (W:aE) (o:Obj),(World.setO W l o).heap.size=W.heap.size:=fun W o=>by simp [World.setO]
 refine ⟨θ,⟨?_,r.size,r.slot,fun b o f=>?_,fun k A z=>?_,r.inj,r.wf,r.out⟩,⟨fun b o f=>?_,d.os,d.tape,d.output,by rw [i,i];exact d.size,fun b j f=>?_,fun b o E B=>by rw [i];exact d.new b o E B⟩,fun k H=>gz0⟩
 ·obtain ⟨C,F,G,u⟩:=r.defers
  refine ⟨C,F,G,fun q y=>?_⟩
  obtain ⟨L,m,s⟩:=u q y
  have c:q≠l:=oo
  exact ⟨gz0,m,by rw [E7 c];exact s⟩
 ·have c:b≠l:=gz0
  rw [E7 c];exact r.sim b o f
 ·obtain ⟨t,D,w⟩:=r.own k A z
  have c:θ k≠l:=gz0
  exact ⟨t,by rw [E7 c];exact D,w⟩
 ·have c:b≠l:=gz0
  rw [E7 c];exact d.sim b o f
 ·rw [i] at j
  by_cases c:b=l
  ·subst c
   rw [Aw e,Aw (o':=W2.heap[b]) (Array.getElem?_eq_getElem j)]
  ·rw [E7 c,E7 c];exact d.keep b j f
def We{h0:aG}{W0:aE}{x:Operand}{ps:Array Tmp}{asg body:aQ}{v:aD}{zs:List aD}{B:List aD->aG->(aG->Prop)->Prop}{K:aG->Prop}{Q':Exit->Act->aE->Prop}
 (g:aI n h0 W0 st h a W) (hev:C7 st x= .val v) (hlen:zs.length=ps.size) (hps:∀ t∈ps.toList,t<n)
 (hv:Zc P v h (fun args h1 J=>exL zs fun vs=>args=vs/\B vs h1 J) K)
 (hQ:∀ (l:Nat) vs h1 J a1 W1,B vs h1 J->aI n h1 W1 (Io st ps.toList vs) h1 a1 W1->∃ K2:VS->aG->Prop,
  (∀ fu' (Q2:Exit->Act->aE->Prop),(∀ st' h' a' W',K2 st' h'->aI n h1 W1 st' h' a' W'->Q2 .normal a' W')->asg.wpIn (Fence.wide.inRound l) fu' P Q2 a1 W1)/\
  ∀ W1' st1 h2 a2 W2 fu' (Q2:Exit->Act->aE->Prop),K2 st1 h2->aI n h1 W1' st1 h2 a2 W2->(∀ st' h' a' W',J h'->aI n h1 W1' st' h' a' W'->Q2 .normal a' W')->body.wpIn (Fence.wide.inRound l) fu' P Q2 a2 W2)
 (hK:∀ h' a' W',K h'->aI n h0 W0 st h' a' W'->Q' .normal a' W'):(Code.rangeFunc x ps asg body).wpIn Fence.wide fu P Q' a W:=by
 obtain ⟨f,first,j,rfl,C,hv⟩:=hv
 obtain ⟨θ,r,fr,aa⟩:=id g
 refine wpIn_rangeFunc fun fn _=>?_
 generalize hrec:({ state:=.ready,pending:=none,fn:=fn,tmps:=a.tmps,params:=ps,assign:=asg,body:=body,defers:=W.heap.size }:Loop)=rec
 generalize hl:W.heap.size+1=l
 generalize hW1:({ W with heap:=(W.heap.push (.deferred (some []))).push (.loop rec) }:aE)=W1
 have af:W1.heap.size=W.heap.size+2:=gz0
 have H:W1.heap[W.heap.size]? = some (.deferred (some [])):=gz0
 have D:∀ b,b<W.heap.size->W1.heap[b]? = W.heap[b]? :=by
  grind
 have y:∀ b,W.heap.size<=b->h b=none:=by
  intro b s
  cases e:h b with
  | none=>rfl
  | some o=>have:=Bb (r.sim b o e);omega
 have E:Sim (h.put l (.loop rec)) W1:=by
  intro b o e
  by_cases s:b=l
  ·subst s;rw [C0] at e;grind
  ·rw [B8 _ _ s] at e
   have h1:=r.sim b o e
   grind
 refine ⟨l,[{ target:=.collected W.heap.size,args:=#[] }],W1,{ target:=.fn (.func f) j,args:=first ++ #[.func (.yield l) #[] #[]] },W1,f,first ++ #[.func (.yield l) #[] #[]]++j,W1,?_,?_,fun _ _=>trivial,?_,(fun e=>by cases e),?_⟩
 ·rw [<- hW1,<- hl,<- hrec]
  simp [Instr.enterLoop,newObj,Sem.run_bind,Sem.run,Fence.wide]
  rfl
 ·have ec:a.eval (.const (.func (.yield l) #[] #[]))= .func (.yield l) #[] #[]:=rfl
  simp [resolve,r.evalVal hev,Deferred.ofValue,ec]
 ·simp [invoke,C]
 ·refine callsIn_wide.2 ((hv l rec (y l oo) ?_ W1 E).mono ?_)
  ·
   intro args h1 J w s W2 L
   obtain ⟨vs,rfl,S,s⟩:∃ vs,args=vs/\vs.length=zs.length/\B vs h1 J:=by
    obtain ⟨vs,S,e,s⟩:=exL.out s
    grind
   have u:W2.heap[l]? = some (.loop rec):=L l _ (C0 h1 l _)
   have z:=Bb u
   refine ⟨fn,(ps.zip args.toArray).foldl (fun tmps (t,v)=>tmps.setIfInBounds t v) a.tmps,asg,body,?_,fun m=>?_⟩
   ·unfold Instr.yield
    simp only [Sem.run_bind,N3 u,aC]
    rw [<- hrec]
    simp_all
   ·have M:Sim h1 W2:=by
     intro b o e
     have c:b≠l:=gz0
     exact L b o (by rw [B8 _ _ c];exact e)
    have hz:(ps.zip args.toArray).foldl (fun tmps (t,v)=>tmps.setIfInBounds t v) a.tmps=(ps.toList.zip args).foldl (fun tmps (t,v)=>tmps.setIfInBounds t v) a.tmps:=by
     rw [<- Array.foldl_toList];simp
    have gr:=g.round hps (vs:=args) M
    obtain ⟨K2,Q,ad⟩:=hQ l args h1 J _ _ s gr
    rw [hz]
    refine roundIn_of_wpIn (F:=Fence.wide) trivial (Q m _ ?_)
    intro st1 h2 a2 W3 V g2
    have d:W3.heap[l]? = some (.loop rec):=by
     obtain ⟨_,_,T,_⟩:=g2
     rw [T.keep l z w];exact u
    refine ⟨World.setO W3 l (.loop { rec with state:=.busy }),?_,?_⟩
    ·unfold Instr.beginRound
     simp only [Sem.run_bind,N3 d,aC,R4 d gz0]
     rw [<- hrec]
     rfl
    ·refine ad (World.setO W2 l (.loop { rec with state:=.busy })) st1 h2 a2 _ m _ V (g2.setLoop w z d) ?_
     intro st' h' a' W' hJ g'
     obtain ⟨θ',r',k,_⟩:=g'
     have A:W'.heap[l]? = some (.loop { rec with state:=.busy }):=by
      rw [k.keep l (by simpa [World.setO] using z) w]
      exact Aw u
     have X:h' l=none:=by
      cases e:h' l with
      | none=>rfl
      | some o=>have:=k.new l o w e;simp [World.setO] at this;omega
     refine ⟨.bool true,World.setO W' l (.loop rec),?_,.bool true,h'.put l (.loop rec),rfl,⟨rfl,h',X,rfl,hJ⟩,?_⟩
     ·unfold aO
      simp only [Sem.run_bind,N3 A,aC,R4 A gz0]
      rw [<- hrec]
      rfl
     ·refine ⟨fun b o e=>?_,k.os,k.tape,k.output,?_,fun b s e=>?_,fun b o e N=>?_⟩
      ·by_cases s:b=l
       ·subst s;rw [C0] at e;cases e;exact Aw A
       ·rw [B8 _ _ s] at e
        rw [E7 s];exact k.sim b o e
      ·have:=k.size;simpa [World.setO] using this
      ·have c:b≠l:=by rintro rfl;rw [C0] at e;cases e
       rw [B8 _ _ c] at e
       rw [E7 c,k.keep b (by simpa [World.setO] using s) e,E7 c]
      ·have c:b≠l:=by rintro rfl;rw [C0] at e;cases e
       rw [B8 _ _ c] at e N
       have:=k.new b o e N
       simpa [World.setO] using this
  ·rintro e W3 ⟨rv,h2,rfl,⟨O,ag,rfl,R⟩,i⟩
   have d:W3.heap[l]? = some (.loop rec):=i.sim l _ (C0 O l _)
   have G:Fr h W O (World.setO W3 l (.loop { rec with state:=.exhausted })):=by
    have e1:W1.os=W.os/\W1.tape=W.tape/\W1.output=W.output:=gz0
    refine ⟨fun b o e=>?_,i.os.trans e1.1,i.tape.trans e1.2.1,i.output.trans e1.2.2,?_,fun b s e=>?_,fun b o e N=>?_⟩
    ·have c:b≠l:=gz0
     rw [E7 c]
     exact i.sim b o (by rw [B8 _ _ c];exact e)
    ·have:=i.size
     simp [World.setO];omega
    ·have c:b≠l:=oo
     rw [E7 c,i.keep b oo (by rw [B8 _ _ c];exact e),D b s]
    ·have c:b≠l:=gz0
     have:=i.new b o (by rw [B8 _ _ c];exact e) (by rw [B8 _ _ c];exact N)
     omega
   refine ⟨none,World.setO W3 l (.loop { rec with state:=.exhausted }),?_,hK O _ _ R ⟨θ,?_,fr.trans G,aa⟩⟩
   ·unfold aP
    simp only [Sem.run_bind,N3 d,aC]
    rw [<- hrec] at d ⊢
    simp [R4 d gz0]
   ·have p:=r.world G
    refine ⟨?_,p.size,p.slot,p.sim,p.own,p.inj,p.wf,p.out⟩
    obtain ⟨rs,n1,n2,n3⟩:=p.defers
    obtain ⟨ac,m1,m2,m3⟩:=r.defers
    have ae:rs=ac:=by
     have:=n2.symm.trans m2
     exact (List.map_inj_right (fun a b e=>by injection e)).1 this
    refine ⟨W.heap.size::rs,List.nodup_cons.2 ⟨fun hm=>?_,n1⟩,by simp [n2],fun q hq=>?_⟩
    ·grind
    ·rcases List.mem_cons.1 hq with rfl|hq
     ·refine ⟨fr.size,?_,?_⟩
      ·cases e:O W.heap.size with
       | none=>rfl
       | some o=>
        have h4:=i.new W.heap.size o (by rw [B8 _ _ oo];grind) (by rw [B8 _ _ oo];exact e)
        omega
      ·rw [E7 oo,i.keep _ oo (by rw [B8 _ _ oo];grind)]
       exact H
     grind
def Te{h0:aG}{W0:aE}{x:Operand}{ps:Array Tmp}{asg body:aQ}{v:aD}{zs:List aD}{B:List aD->aG->(aG->Prop)->(aG->Prop)->Prop}{K KR:aG->Prop}{Q':Exit->Act->aE->Prop}
 (g:aI n h0 W0 st h a W) (hev:C7 st x= .val v) (hlen:zs.length=ps.size) (hps:∀ t∈ps.toList,t<n)
 (hv:A42 P v h (fun args h1 J JR=>exL zs fun vs=>args=vs/\B vs h1 J JR) K KR)
 (hQ:∀ (l:Nat) vs h1 J JR a1 W1,B vs h1 J JR->aI n h1 W1 (Io st ps.toList vs) h1 a1 W1->∃ K2:VS->aG->Prop,
  (∀ fu' (Q2:Exit->Act->aE->Prop),(∀ st' h' a' W',K2 st' h'->aI n h1 W1 st' h' a' W'->Q2 .normal a' W')->asg.wpIn (Fence.wide.inRound l) fu' P Q2 a1 W1)/\
  ∀ W1' st1 h2 a2 W2 fu' (Q2:Exit->Act->aE->Prop),K2 st1 h2->aI n h1 W1' st1 h2 a2 W2->(∀ st' h' a' W',J h'->aI n h1 W1' st' h' a' W'->Q2 .normal a' W')->(∀ st' h' a' W',JR h'->aI n h1 W1' st' h' a' W'->Q2 .ret a' W')->body.wpIn (Fence.wide.inRound l) fu' P Q2 a2 W2)
 (hK:∀ h' a' W',K h'->aI n h0 W0 st h' a' W'->Q' .normal a' W') (hKR:∀ h' a' W',KR h'->aI n h0 W0 st h' a' W'->Q' .ret a' W'):(Code.rangeFunc x ps asg body).wpIn Fence.wide fu P Q' a W:=by
 obtain ⟨f,first,j,rfl,N,hv⟩:=hv
 obtain ⟨θ,r,fr,ak⟩:=id g
 refine wpIn_rangeFunc fun fn _=>?_
 generalize hrec:({ state:=.ready,pending:=none,fn:=fn,tmps:=a.tmps,params:=ps,assign:=asg,body:=body,defers:=W.heap.size }:Loop)=rec
 generalize hl:W.heap.size+1=l
 generalize hW1:({ W with heap:=(W.heap.push (.deferred (some []))).push (.loop rec) }:aE)=W1
 have ao:W1.heap.size=W.heap.size+2:=gz0
 have V:W1.heap[W.heap.size]? = some (.deferred (some [])):=gz0
 have O:∀ b,b<W.heap.size->W1.heap[b]? = W.heap[b]? :=by
  grind
 have G:∀ b,W.heap.size<=b->h b=none:=by
  intro b y
  cases e:h b with
  | none=>rfl
  | some o=>have:=Bb (r.sim b o e);omega
 have S:Sim (h.put l (.loop rec)) W1:=by
  intro b o e
  by_cases y:b=l
  ·subst y;rw [C0] at e;grind
  ·rw [B8 _ _ y] at e
   have h1:=r.sim b o e
   grind
 refine ⟨l,[{ target:=.collected W.heap.size,args:=#[] }],W1,{ target:=.fn (.func f) j,args:=first ++ #[.func (.yield l) #[] #[]] },W1,f,first ++ #[.func (.yield l) #[] #[]]++j,W1,?_,?_,fun _ _=>trivial,?_,(fun e=>by cases e),?_⟩
 ·rw [<- hW1,<- hl,<- hrec]
  simp [Instr.enterLoop,newObj,Sem.run_bind,Sem.run,Fence.wide]
  rfl
 ·have ec:a.eval (.const (.func (.yield l) #[] #[]))= .func (.yield l) #[] #[]:=rfl
  simp [resolve,r.evalVal hev,Deferred.ofValue,ec]
 ·simp [invoke,N]
 ·refine callsIn_wide.2 ((hv l rec (G l oo) ?_ W1 S).mono ?_)
  ·
   intro args h1 J JR E y W2 aa
   obtain ⟨vs,rfl,ae,y⟩:∃ vs,args=vs/\vs.length=zs.length/\B vs h1 J JR:=by
    obtain ⟨vs,ae,e,y⟩:=exL.out y
    grind
   have A:W2.heap[l]? = some (.loop rec):=aa l _ (C0 h1 l _)
   have H:=Bb A
   refine ⟨fn,(ps.zip args.toArray).foldl (fun tmps (t,v)=>tmps.setIfInBounds t v) a.tmps,asg,body,?_,fun m=>?_⟩
   ·unfold Instr.yield
    simp only [Sem.run_bind,N3 A,aC]
    rw [<- hrec]
    simp_all
   ·have ac:Sim h1 W2:=by
     intro b o e
     have d:b≠l:=gz0
     exact aa b o (by rw [B8 _ _ d];exact e)
    have hz:(ps.zip args.toArray).foldl (fun tmps (t,v)=>tmps.setIfInBounds t v) a.tmps=(ps.toList.zip args).foldl (fun tmps (t,v)=>tmps.setIfInBounds t v) a.tmps:=by
     rw [<- Array.foldl_toList];simp
    have gr:=g.round hps (vs:=args) ac
    obtain ⟨K2,ad,am⟩:=hQ l args h1 J JR _ _ y gr
    rw [hz]
    refine roundIn_of_wpIn (F:=Fence.wide) trivial (ad m _ ?_)
    intro st1 h2 a2 W3 ag g2
    have k:W3.heap[l]? = some (.loop rec):=by
     obtain ⟨_,_,af,_⟩:=g2
     rw [af.keep l H E];exact A
    refine ⟨World.setO W3 l (.loop { rec with state:=.busy }),?_,?_⟩
    ·unfold Instr.beginRound
     simp only [Sem.run_bind,N3 k,aC,R4 k gz0]
     rw [<- hrec]
     rfl
    ·have C:∀ (u:Option aQ) (c:Loop) (bv:Bool),(c={ rec with state:=if u.isNone then .ready else .done,pending:=u })->bv=u.isNone->∀ st' h' a' W',aI n h1 (World.setO W2 l (.loop { rec with state:=.busy })) st' h' a' W'->∀ (X:VP),(∀ p,p l=none->p=h'->X (.bool bv) (p.put l (.loop c)))->∃ v w',(aO l u).run P W'= .ok v w'/\∃ r h',(Ending.returned v)= .returned r/\X r h'/\Fr (h1.put l (.loop rec)) W2 h' w':=by
      intro u c bv Q ah st' h' a' W' R X hX
      obtain ⟨θ',r',s,_⟩:=R
      have L:W'.heap[l]? = some (.loop { rec with state:=.busy }):=by
       rw [s.keep l (by simpa [World.setO] using H) E]
       exact Aw A
      have aj:h' l=none:=by
       cases e:h' l with
       | none=>rfl
       | some o=>have:=s.new l o E e;simp [World.setO] at this;omega
      refine ⟨.bool bv,World.setO W' l (.loop c),?_,.bool bv,h'.put l (.loop c),rfl,hX h' aj rfl,?_⟩
      ·unfold aO
       simp only [Sem.run_bind,N3 L,aC,R4 L gz0]
       rw [Q,ah]
       rfl
      ·refine ⟨fun b o e=>?_,s.os,s.tape,s.output,?_,fun b y e=>?_,fun b o e e'=>?_⟩
       ·by_cases y:b=l
        ·subst y;rw [C0] at e;cases e;exact Aw L
        ·rw [B8 _ _ y] at e
         rw [E7 y];exact s.sim b o e
       ·have:=s.size;simpa [World.setO] using this
       ·have d:b≠l:=by rintro rfl;rw [C0] at e;cases e
        rw [B8 _ _ d] at e
        rw [E7 d,s.keep b (by simpa [World.setO] using y) e,E7 d]
       ·have d:b≠l:=by rintro rfl;rw [C0] at e;cases e
        rw [B8 _ _ d] at e e'
        have:=s.new b o e e'
        simpa [World.setO] using this
     refine am (World.setO W2 l (.loop { rec with state:=.busy })) st1 h2 a2 _ m _ ag (g2.setLoop E H k) ?_ ?_
     ·intro st' h' a' W' hJ R
      exact C none rec true gz0 rfl st' h' a' W' R _ fun p z e3=>⟨p,z,.inl ⟨rfl,rfl,gz0⟩⟩
     ·intro st' h' a' W' hJ R
      exact C (some .ret) (Ye rec) false rfl rfl st' h' a' W' R _ fun p z e3=>⟨p,z,.inr ⟨rfl,rfl,gz0⟩⟩
  ·have C:∀ (c:Loop),c.state ≠ .busy->∀ p,p l=none->∀ W3,Fr (h.put l (.loop rec)) W1 (p.put l (.loop c)) W3->(aP l).run P W3= .ok c.pending (World.setO W3 l (.loop { c with state:=.exhausted }))/\aI n h0 W0 st p { a with defers:=[{ target:=.collected W.heap.size,args:=#[] }]++a.defers } (World.setO W3 l (.loop { c with state:=.exhausted })):=by
    intro c ai p z W3 i
    have k:W3.heap[l]? = some (.loop c):=i.sim l _ (C0 p l _)
    have T:Fr h W p (World.setO W3 l (.loop { c with state:=.exhausted })):=by
     have M:W1.os=W.os/\W1.tape=W.tape/\W1.output=W.output:=gz0
     refine ⟨fun b o e=>?_,i.os.trans M.1,i.tape.trans M.2.1,i.output.trans M.2.2,?_,fun b y e=>?_,fun b o e e'=>?_⟩
     ·have d:b≠l:=gz0
      rw [E7 d]
      exact i.sim b o (by rw [B8 _ _ d];exact e)
     ·have:=i.size
      simp [World.setO];omega
     ·have d:b≠l:=oo
      rw [E7 d,i.keep b oo (by rw [B8 _ _ d];exact e),O b y]
     ·have d:b≠l:=gz0
      have:=i.new b o (by rw [B8 _ _ d];exact e) (by rw [B8 _ _ d];exact e')
      omega
    refine ⟨?_,⟨θ,?_,fr.trans T,ak⟩⟩
    ·unfold aP
     simp only [Sem.run_bind,N3 k,aC]
     rw [iN gz0]
     simp [R4 k gz0]
    ·have w:=r.world T
     refine ⟨?_,w.size,w.slot,w.sim,w.own,w.inj,w.wf,w.out⟩
     obtain ⟨rs,n1,n2,n3⟩:=w.defers
     obtain ⟨al,m1,m2,m3⟩:=r.defers
     have an:rs=al:=by
      have:=n2.symm.trans m2
      exact (List.map_inj_right (fun a b e=>by injection e)).1 this
     refine ⟨W.heap.size::rs,List.nodup_cons.2 ⟨fun hm=>?_,n1⟩,by simp [n2],fun q hq=>?_⟩
     ·grind
     ·rcases List.mem_cons.1 hq with rfl|hq
      ·refine ⟨fr.size,?_,?_⟩
       ·cases e:p W.heap.size with
        | none=>rfl
        | some o=>
         have h4:=i.new W.heap.size o (by rw [B8 _ _ oo];grind) (by rw [B8 _ _ oo];exact e)
         omega
       ·rw [E7 oo,i.keep _ oo (by rw [B8 _ _ oo];grind)]
        exact V
      grind
   rintro e W3 ⟨rv,h2,rfl,⟨p,z,D⟩,i⟩
   rcases D with ⟨rfl,D⟩|⟨rfl,D⟩
   ·obtain ⟨M,e2⟩:=C rec gz0 p z W3 i
    refine ⟨_,_,M,?_⟩
    grind
   ·obtain ⟨M,e2⟩:=C (Ye rec) (by intro e;cases e) p z W3 i
    exact ⟨_,_,M,wpIn_ret (hKR p _ _ D e2)⟩
def B3z(Q:Exit->Act->aE->Prop):Exit->Act->aE->Prop
 | .goto _,_,_=>False
 | e,a,w=>Q e a w
def R1{b:Frame}{k:List Item}{cs:List Frame}{w:aE}{c:aQ}:step P (lone (b.atR a (.code (.scope c)::k)) cs w)= .next (lone (b.atR a (.code c :: .inScope c::k)) cs w):=
 step_lone_go (by rfl)
def Pz{b:Frame}{k:List Item}{cs:List Frame}{w:aE}{c:aQ}:step P (lone (b.atR a (.inScope c::k)) cs w)= .next (lone (b.atR a k) cs w):=
 step_lone_go (by rfl)
def Vi{c:aQ}{Q:Exit->Act->aE->Prop}(h:c.wpIn F fu P (B3z Q) a W):(Code.scope c).wpIn F fu P Q a W:=by
 intro b k r q p n
 have g:(lone (b.atR a (.code (.scope c)::k)) r W).fenced P F:=fenced_calm p n rfl
 obtain ⟨e,a₁,w₁,f,d⟩:=h b (.inScope c::k) r q p n
 cases e with
 | normal=>exact ⟨.normal,a₁,w₁,f,.head g R1 (StepsIn.trans d (.one (fenced_calm p n rfl) Pz))⟩
 | exit id'=>
  exact ⟨.exit id',a₁,w₁,f,fun t s=>.head g R1 (d.1 t (by assumption)),
   fun m s=>let ⟨k₁,h1,h2⟩:=d.2 m (by assumption);⟨k₁,h1,.head g R1 h2⟩⟩
 | goto l=>exact f.elim
 | ret=>exact ⟨_,a₁,w₁,f,.of_steps (.one g R1) d⟩
 | panic ch=>exact ⟨_,a₁,w₁,f,.of_steps (.one g R1) d⟩
 | outgrown=>exact ⟨_,a₁,w₁,f,.of_steps (.one g R1) d⟩
def A0b{fa:FnAnn}(c:aQ):∀ {F:Fence} [FOk F] {fu:Nat} {h0:aG} {W0:aE} (cfg:Cfg) (st:VS) (h:aG) (a:Act) (W:aE) (Q:Ex->VS->aG->Prop) (Q':Exit->Act->aE->Prop),cfg.n=n->Bodies P cfg.fns->(cfg.inr=false->F=Fence.wide)->aI n h0 W0 st h a W->
 O3 P fa c cfg st h Q->(∀ e st' h' a' W',Q e st' h'->aI n h0 W0 st' h' a' W'->Agree cfg.lim st st'->Q' e.toExit a' W')->c.wpIn F fu P Q' a W:=by
 induction c with
 | skip=>exact fun {F} _ {fu h0 W0} cfg st h a W Q Q' q s w g f m=>wpIn_skip (m .normal st h a W f g (Agree.refl _ _))
 | region id ops draw=>
  intro F _ fu h0 W0 cfg st h a W Q Q' q s w g f m
  cases draw with
  | false=>exact wpIn_region (A6b q s _ st h a W g f fun st' h' a' W' d i u=>m .normal st' h' a' W' d i u)
  | true=>
   obtain ⟨p,f⟩:=f.both
   exact A08 q s p g f fun st' h' a' W' d i u=>m .normal st' h' a' W' d i u
 | seq x y ihx ihy=>
  intro F _ fu h0 W0 cfg st h a W Q Q' q s w g f m
  unfold O3 at f
  split at f
  ·refine wpIn_seq (ihx cfg st h a W _ _ q s w g f fun e st' h' a' W' d i u=>?_)
   cases e with
   | normal=>exact ihy cfg st' h' a' W' Q Q' q s w i d fun e L B S W2 k O H=>m e L B S W2 k O (u.trans H)
   | exit id=>exact m (.exit id) st' h' a' W' d i u
   | ret=>exact m .ret st' h' a' W' d i u
  ·rename_i C _
   obtain ⟨p,J,ae,af⟩:=f.both
   refine wpIn_seq (ihx (cfg.within C) st h a W _ _ q s w g ae fun e st' h' a' W' d i u=>?_)
   cases e with
   | normal=>
    obtain ⟨xs,ys,hx,hy,N,hJ⟩:=d.out
    obtain ⟨hl,hz⟩:=Lv N
    have E:=allL.at af hl hz h' hJ
    exact ihy cfg _ h' a' W' Q Q' q s w (i.head p u g.wf q hx hy) E fun e L B S W2 k O H=>m e L B S W2 k O (((Agree.head p _).within p).trans H)
   | exit id=>exact m (.exit id) st' h' a' W' d i (u.within p)
   | ret=>exact m .ret st' h' a' W' d i (u.within p)
 | cond c x y ihx ihy=>
  intro F _ fu h0 W0 cfg st h a W Q Q' q s w g f m
  unfold O3 at f
  split at f
  ·rename_i b E
   obtain ⟨θ,r,_,_⟩:=id g
   cases b with
   | true=>exact wpIn_cond_true (r.evalVal E) (ihx cfg st h a W Q Q' q s w g f m)
   | false=>exact wpIn_cond_false (r.evalVal E) (ihy cfg st h a W Q Q' q s w g f m)
  grind
 | block id b ih=>
  intro F _ fu h0 W0 cfg st h a W Q Q' q s w g f m
  refine wpIn_block (ih cfg st h a W _ _ q s w g f fun e st' h' a' W' d i u=>?_)
  cases e with
  | normal=>exact m .normal st' h' a' W' d i u
  | ret=>exact m .ret st' h' a' W' d i u
  | exit j=>
   by_cases hj:j=id
   ·subst hj
    have d:Q .normal st' h':=by simp_all
    show Exit.inBlock j Q' (.exit j) a' W'
    simp only [Exit.inBlock,if_true]
    exact m .normal st' h' a' W' d i u
   ·have d:Q (.exit j) st' h':=by simp_all
    show Exit.inBlock id Q' (.exit j) a' W'
    simp only [Exit.inBlock,hj,if_false]
    exact m (.exit j) st' h' a' W' d i u
 | loop b ih=>
  intro F _ fu h0 W0 cfg st h a W Q Q' q s w g f m
  unfold O3 at f
  split at f
  ·exact f.elim
  ·rename_i C _
   obtain ⟨p,Inv,μ,V,B⟩:=f.both
   obtain ⟨xs,ys,hx,hy,N,hI⟩:=V.out
   have X:=g.wf
   refine Pp (fun (z:List aD × aG) a' W'=>Iy C.zs z.1=true/\Inv z.1 z.2/\aI n h0 W0 (Y8 C st z.1) z.2 a' W') (fun z=>μ z.1 z.2) (xs++ys,h) ⟨N,hI,g.head p (Agree.refl _ _) X q hx hy⟩ ?_
   intro z a1 W1 ⟨hk1,hI1,g1⟩
   obtain ⟨hl,hz⟩:=Lv hk1
   have E:=allL.at B hl hz z.2 hI1
   refine ih (cfg.within C) _ z.2 a1 W1 _ _ q s w g1 E fun e st' h' a' W' d i u=>?_
   have R:Agree (some C.lim) st st':=(Agree.head p _).trans u
   cases e with
   | normal=>
    obtain ⟨ad,ai,ac,ak,ah,al,hμ⟩:=d.out
    exact ⟨(ad++ai,h'),⟨ah,al,i.head p R X q ac ak⟩,hμ⟩
   | exit id=>exact m (.exit id) st' h' a' W' d i (R.within p)
   | ret=>exact m .ret st' h' a' W' d i (R.within p)
 | exit id=>exact fun {F} _ {fu h0 W0} cfg st h a W Q Q' q s w g f m=>wpIn_exit (m (.exit id) st h a W f g (Agree.refl _ _))
 | ret=>exact fun {F} _ {fu h0 W0} cfg st h a W Q Q' q s w g f m=>wpIn_ret (m .ret st h a W f g (Agree.refl _ _))
 | rangeFunc x ps asg body iha ihb=>
  intro F _ fu h0 W0 cfg st h a W Q Q' q s w g f m
  unfold O3 at f
  split at f
  ·rename_i v zs T am
   obtain ⟨p,f⟩:=f.both
   simp only [aF,Bool.not_eq_true',aJ] at p
   obtain ⟨⟨G,an⟩,aa⟩:=p
   obtain rfl:=w aa
   split at f
   ·refine We g T (aK G) (fun t ht=>by simp_all) f ?_ (fun h' a' W' d i=>m .normal st h' a' W' d i (Agree.refl _ _))
    intro l vs V J a1 W1 E g1
    refine ⟨fun D B=>O3 P fa body { cfg with lim:=none,inr:=true } D B fun e _ h3=>
      match e with
      | .normal=>J h3
      | _=>False,fun M Q2 A=>?_,fun W1' D B S W2 M Q2 N O A=>?_⟩
    ·refine iha (F:=Fence.wide.inRound l) { cfg with lim:=none,inr:=true } _ V a1 W1 _ _ q s (fun e=>by cases e) g1 E fun e st' h' a' W' d i _=>?_
     cases e with
     | normal=>exact A st' h' a' W' d i
     | _=>exact d.elim
    ·refine ihb (F:=Fence.wide.inRound l) { cfg with lim:=none,inr:=true } _ B S W2 _ _ q s (fun e=>by cases e) O N fun e st' h' a' W' d i _=>?_
     cases e with
     | normal=>exact A st' h' a' W' d i
     | _=>exact d.elim
   ·refine Te g T (aK G) (fun t ht=>by simp_all) f ?_ (fun h' a' W' d i=>m .normal st h' a' W' d i (Agree.refl _ _)) (fun h' a' W' d i=>m .ret st h' a' W' d i (Agree.refl _ _))
    intro l vs V J JR a1 W1 E g1
    refine ⟨fun D B=>O3 P fa body { cfg with lim:=none,inr:=true } D B fun e _ h3=>
      match e with
      | .normal=>J h3
      | .ret=>JR h3
      | _=>False,fun M Q2 A=>?_,fun W1' D B S W2 M Q2 N O A aj=>?_⟩
    ·refine iha (F:=Fence.wide.inRound l) { cfg with lim:=none,inr:=true } _ V a1 W1 _ _ q s (fun e=>by cases e) g1 E fun e st' h' a' W' d i _=>?_
     cases e with
     | normal=>exact A st' h' a' W' d i
     | _=>exact d.elim
    ·refine ihb (F:=Fence.wide.inRound l) { cfg with lim:=none,inr:=true } _ B S W2 _ _ q s (fun e=>by cases e) O N fun e st' h' a' W' d i _=>?_
     cases e with
     | normal=>exact A st' h' a' W' d i
     | ret=>exact aj st' h' a' W' d i
     | exit _=>exact d.elim
  grind
 | scope b ih=>
  intro F _ fu h0 W0 cfg st h a W Q Q' q s w g f m
  refine Vi (ih cfg st h a W Q (B3z Q') q s w g f fun e st' h' a' W' d i u=>?_)
  cases e with
  | normal=>exact m .normal st' h' a' W' d i u
  | exit id=>exact m (.exit id) st' h' a' W' d i u
  | ret=>exact m .ret st' h' a' W' d i u
 | label l=>exact fun {F} _ {fu h0 W0} cfg st h a W Q Q' q s w g f m=>wpIn_label (m .normal st h a W f g (Agree.refl _ _))
 | _=>intro F _ fu h0 W0 cfg st h a W Q Q' q s w g f m;exact f.elim
def A6w(args:List aD):VS:={ env:=fun i=>.val (args.getD i undef),own:=fun _=>none }
def Yb(P:aL)(st:VS):ResultVar->Option aD
 | .tmp t=>match st.env t with
  | .val v=>some v
  | _=>none
 | .cell a t=>match st.env a with
  | .own k off=>match st.own k with
   | some cs=>match Hk P t with
    | some true=>bif Nat.ble (off+P.cellsOf t) cs.length then some (.agg ((cs.drop off).take (P.cellsOf t)).toArray) else none
    | some false=>cs[off]?
    | none=>none
   | none=>none
  | _=>none
def Qf(P:aL)(st:VS):List ResultVar->Option (List aD)
 | []=>some []
 | r::rs=>match Yb P st r with
  | some v=>match Qf P st rs with
   | some vs=>some (v::vs)
   | none=>none
  | none=>none
def A6i(P:aL)(st:VS)(h:aG):List ResultVar->(List aD->Prop)->Prop
 | [],C=>C []
 | .tmp t::rs,C=>match st.env t with
  | .val v=>A6i P st h rs fun vs=>C (v::vs)
  | _=>False
 | .cell x t::rs,C=>match st.env x with
  | .own k off=>match st.own k with
   | some cs=>Q5 P t cs off fun w=>match w with
    | .val v=>A6i P st h rs fun vs=>C (v::vs)
    | _=>False
   | none=>False
  | .val (.pointer (some p))=>Q6 P t p h fun w=>match w with
   | .val v=>A6i P st h rs fun vs=>C (v::vs)
   | _=>False
  | _=>False
def Ih:List aD->aD
 | [v]=>v
 | vs=>.tuple vs.toArray
def Wb(P:aL)(rs:List ResultVar)(K:VP)(e:Ex)(st:VS)(h:aG):Prop:=
 match e with
 | .exit _=>False
 | _=>match Qf P st rs with
  | some a=>K (Ih a) h
  | none=>A6i P st h rs fun a=>K (Ih a) h
def B24(P:aL)(fa:FnAnn)(cfg:Cfg)(rs:List ResultVar)(c:aQ)(args:List aD)(h:aG)(K:VP):Prop:=
 O3 P fa c cfg (A6w args) h fun e a b=>Wb P rs K e a b
def Zn{θ:Nat->Nat}(r:Rel s0 n θ st h a W){rv:ResultVar}{v:aD}(e:Yb P st rv=some v):
 (match rv with
  | .tmp t=>(pure (a.tmps.getD t undef):Sem aD)
  | .cell x t=>do loadVar t (<- asAddr (a.tmps.getD x undef))).run P W= .ok v W:=by
 cases rv with
 | tmp t=>
  simp only [Yb] at e
  have:=r.slot' t
  split at e
  ·rename_i u c
   rw [c] at this
   have this:a.tmps.getD t undef=u:=this
   simp_all
  ·cases e
 | cell x t=>
  simp only [Yb] at e
  have f:=r.slot' x
  split at e
  ·rename_i k b l
   rw [l] at f
   have f:a.tmps.getD x undef= .pointer (some ⟨θ k,b,none⟩):=f
   split at e
   ·rename_i j g
    have m:Q5 P t j b fun w=>w= .val v:=by
     split at e
     ·rename_i d
      cases hb:Nat.ble (b+P.cellsOf t) j.length with
      | false=>grind
      | true=>
       rw [hb] at e;injection e with e
       unfold Q5;rw [d]
       simp only [Ft d,hb,Bool.and_self]
       show _=_
       rw [e]
     ·unfold Q5;grind
     ·cases e
    obtain ⟨u,c,i⟩:=Ce r g m
    injection c with c;subst c
    simp only [aR,aN,Sem.run_bind,Sem.run_pure,aC] at i
    simp only [f,asAddr,Sem.run_bind,Sem.run_pure,aC,i]
   ·cases e
  ·cases e
def Lc{θ:Nat->Nat}(r:Rel s0 n θ st h a W)(rs:List ResultVar):∀ {vs:List aD},Qf P st rs=some vs->
 (rs.mapM fun (rv:ResultVar)=>match rv with
  | .tmp t=>(pure (a.tmps.getD t undef):Sem aD)
  | .cell x t=>do loadVar t (<- asAddr (a.tmps.getD x undef))).run P W= .ok vs W:=by
 induction rs with
 | nil=>intro vs e;injection e with e;simp_all
 | cons rv rs ih=>
  intro vs e
  unfold Qf at e
  split at e
  ·rename_i v c
   split at e
   ·rename_i d b
    injection e with e;subst e
    rw [List.mapM_cons]
    simp only [Sem.run_bind,Zn r c,aC,ih b,Sem.run_pure]
   ·cases e
  ·cases e
def Yc{θ:Nat->Nat}(r:Rel s0 n θ st h a W)(rs:List ResultVar):∀ {C:List aD->Prop},A6i P st h rs C->∃ vs,C vs/\
 (rs.mapM fun (rv:ResultVar)=>match rv with
  | .tmp t=>(pure (a.tmps.getD t undef):Sem aD)
  | .cell x t=>do loadVar t (<- asAddr (a.tmps.getD x undef))).run P W= .ok vs W:=by
 induction rs with
 | nil=>intro C e;exact ⟨[],e,by simp⟩
 | cons rv rs ih=>
  intro C e
  have next:∀ (v:aD),(match rv with
   | .tmp t=>(pure (a.tmps.getD t undef):Sem aD)
   | .cell x t=>do loadVar t (<- asAddr (a.tmps.getD x undef))).run P W= .ok v W->(A6i P st h rs fun vs=>C (v::vs))->∃ vs,C vs/\
  ((rv::rs).mapM fun (rv:ResultVar)=>match rv with
   | .tmp t=>(pure (a.tmps.getD t undef):Sem aD)
   | .cell x t=>do loadVar t (<- asAddr (a.tmps.getD x undef))).run P W= .ok vs W:=by
   intro v m f
   obtain ⟨s,l,c⟩:=ih f
   simp_all
  cases rv with
  | tmp t=>
   unfold A6i at e
   have:=r.slot' t
   split at e
   ·rename_i u d
    rw [d] at this
    have this:a.tmps.getD t undef=u:=this
    exact next u (by simp_all) e
   grind
  | cell x t=>
   unfold A6i at e
   have b:=r.slot' x
   split at e
   ·rename_i k g f
    rw [f] at b
    have b:a.tmps.getD x undef= .pointer (some ⟨θ k,g,none⟩):=b
    split at e
    ·rename_i q i
     obtain ⟨u,d,c⟩:=Ce r i e
     refine next u ?_ d
     simp only [aR,aN,Sem.run_bind,Sem.run_pure,aC] at c
     simp only [b,asAddr,Sem.run_bind,Sem.run_pure,aC,c]
    grind
   ·rename_i p j
    rw [j] at b
    have b:a.tmps.getD x undef= .pointer (some p):=b
    obtain ⟨u,d,c⟩:=Fc r.sim e
    refine next u ?_ d
    simp only [aR,aN,Sem.run_bind,Sem.run_pure,aC] at c
    simp only [b,asAddr,Sem.run_bind,Sem.run_pure,aC,c]
   grind
def Ff(fn:Func):aQ:=
 match fn.body with
 | some c=>c
 | none=>.skip
def Bodies.nil:Bodies P []:=fun g a=>by cases a
def B3{g:Nat}{l:List Nat}(hg:∀ args W,(callFunc g args).run P W= .ok (.enter g args) W)(hl:Bodies P l):Bodies P (g::l):=fun k a=>by
 cases a with
 | head=>exact hg
 | tail _ a=>exact hl k a
def Jy{r:Nat}(e:W.heap[r]? = some (.deferred (some []))):(Instr.takeDeferred r).run P W= .ok [] (World.setO W r (.deferred none)):=by
 simp [Instr.takeDeferred,getObj,Sem.run_bind,Sem.run,e,R4 e gz0]
def A2s{fn:Func}{tmps:Array aD}{R:Ending->aE->Prop}: ∀ (ds:List Deferred) (W:aE) (rs:List Nat),rs.Nodup->ds.map (·.target)=rs.map Target.collected->(∀ r∈rs,W.heap[r]? = some (.deferred (some [])))->
 (∀ W2:aE,W2.os=W.os->W2.tape=W.tape->W2.output=W.output->W2.heap.size=W.heap.size->(∀ b,b∉rs->W2.heap[b]? = W.heap[b]?)->∃ v,(results fn tmps).run P W2= .ok v W2/\R (.returned v) W2)->
 LeavesInM Fence.wide 0 P fn tmps R ds .returning W:=by
 intro ds
 induction ds with
 | nil=>
  intro W rs _ e _ x
  exact x W rfl rfl rfl rfl (fun _ _=>rfl)
 | cons d ds ih=>
  intro W rs g e l x
  cases rs with
  | nil=>cases e
  | cons r rs=>
   simp only [List.map_cons,List.cons.injEq] at e
   have i:=l r (by simp)
   obtain ⟨m,c⟩:=List.nodup_cons.1 g
   refine ⟨by simp,.inl ⟨r,_,e.1,Jy i,ih _ rs c e.2 (fun q s=>?_) (fun W2 j k n f p=>x W2 j k n (by rw [f];simp [World.setO]) (fun b a=>?_))⟩⟩
   ·rw [E7 gz0];grind
   ·simp only [List.mem_cons,not_or] at a
    rw [p b a.2,E7 a.1]
def Yt{f:FuncId}{fn:Func}(hf:P.funcs[f]? = some fn){c:aQ}(hb:fn.body=some c){rs:List ResultVar}(hr:fn.results.toList=rs){fa:FnAnn}{cfg:Cfg}{args:List aD}(hn:cfg.n=args.length+(fn.ntmps-args.length))(hfn:Bodies P cfg.fns){h:aG}{K:VP}
 (hv:B24 P fa cfg rs c args h K):FCall P f args.toArray h K:=by
 intro W L
 subst hr
 have g:aI cfg.n h W (A6w args) h { tmps:=args.toArray++Array.replicate (fn.ntmps-args.toArray.size) undef,defers:=[] } W:=by
  refine ⟨fun _=>0,⟨MarksOk.nil,by simp [hn],fun i hi=>?_,L,(fun k H e=>by cases e),(fun k k' C=>by cases C),(fun i k T e=>by cases e),fun i hi=>?_⟩,Fr.refl L,(fun k C=>by cases C)⟩
  ·show _=args.getD i undef
   rcases Nat.lt_or_ge i args.length with x|x
   ·simp_all
   simp_all
  ·show AVal.val (args.getD i undef)=_
   grind
 refine callsIn_wide.1 (callsIn_of_wp_marks (n:=0) hf hb trivial (A0b c (F:=Fence.wide) cfg _ h _ W _ _ rfl hfn (fun _=>rfl) g hv fun e B p y W' a R _=>?_))
 obtain ⟨θ,r,s,_⟩:=R
 have j:(∀ {a2:Act} {W2:aE},Rel W.heap.size cfg.n θ B p a2 W2->∃ d,K (Ih d) p/\(fn.results.toList.mapM fun (rv:ResultVar)=>match rv with
  | .tmp t=>(pure (a2.tmps.getD t undef):Sem aD)
  | .cell x t=>do loadVar t (<- asAddr (a2.tmps.getD x undef))).run P W2= .ok d W2)->bodyPostM Fence.wide 0 P fn (fun e W'=>∃ r p,e= .returned r/\K r p/\Fr h W p W') .ret y W':=by
  intro A
  obtain ⟨rs,O,S,D⟩:=r.defers
  refine A2s y.defers W' rs O S (fun q Q=>(D q Q).2.2) ?_
  intro W2 M V N X G
  have z:Fr h W p W2:=by
   refine ⟨fun b o e=>?_,M.trans s.os,V.trans s.tape,N.trans s.output,by rw [X];exact s.size,fun b hb e=>?_,s.new⟩
   ·rw [G b (fun E=>gz0)];exact s.sim b o e
   ·rw [G b (fun E=>gz0)];exact s.keep b hb e
  have m:Rel W.heap.size cfg.n θ B p { y with defers:=[] } W2:=by
   refine ⟨MarksOk.nil,r.size,r.slot,z.sim,fun k H e=>?_,r.inj,r.wf,r.out⟩
   obtain ⟨t,g1,g2⟩:=r.own k H e
   grind
  obtain ⟨d,a,E⟩:=A m
  refine ⟨Ih d,?_,_,p,rfl,a,z⟩
  have e:(results fn y.tmps).run P W2=((fn.results.toList.mapM (fun (rv:ResultVar)=>match rv with
   | .tmp t=>(pure (y.tmps.getD t undef):Sem aD)
   | .cell x t=>do loadVar t (<- asAddr (y.tmps.getD x undef)))).run P W2).andThen fun l w=>.ok (if h:l.toArray.size=1 then l.toArray[0] else .tuple l.toArray) w:=by
   unfold results
   rw [Sem.run_bind,Array.mapM_eq_mapM_toList]
   simp only [map_eq_pure_bind,Sem.run_bind]
   generalize Sem.run P _ W2=x
   cases x<;>simp
  rw [e,E,aC]
  cases d with
  | nil=>rfl
  | cons v d=>cases d<;>rfl
 cases e with
 | exit id=>exact a.elim
 | normal=>
  unfold Wb at a
  split at a
  ·exact a.elim
  ·split at a
   ·rename_i d u;exact j fun m=>⟨d,a,Lc (P:=P) m fn.results.toList u⟩
   ·exact j fun m=>Yc (P:=P) m fn.results.toList a
 | ret=>
  unfold Wb at a
  split at a
  ·exact a.elim
  ·split at a
   ·rename_i d u;exact j fun m=>⟨d,a,Lc (P:=P) m fn.results.toList u⟩
   ·exact j fun m=>Yc (P:=P) m fn.results.toList a
def B3g{L:List Nat}(hL:Bodies P L){f:FuncId}{fn:Func}(hf:P.funcs[f]? = some fn)(rs:List ResultVar)(fa:FnAnn)(n:Nat)(own fns wr:List Nat){args:List aD}{h:aG}{K:VP}{T:Prop}
 (e:(fn.body.isSome,fn.results.toList,n,fns.all (has L),B24 P fa { n:=n,own:=own,lim:=none,fns:=fns,wr:=wr } rs (Ff fn) args h K)=(true,rs,args.length+(fn.ntmps-args.length),true,T)) (hvc:T):FCall P f args.toArray h K:=by
 simp only [Prod.mk.injEq] at e
 obtain ⟨k,j,b,c,a⟩:=e
 have d:fn.body=some (Ff fn):=by
  unfold Ff
  grind
 exact Yt hf d j b (fun g i=>hL g (R7.1 (List.all_eq_true.1 c g i))) (a.mpr hvc)
end
abbrev I(n:Int):aD:=.int .i64 n
abbrev I32(n:Int):aD:=.int .i32 n
abbrev U(n:Int):aD:=.int .u64 n
abbrev U32(n:Int):aD:=.int .u32 n
abbrev Y(n:Int):aD:=.int .u8 n
abbrev B9(n:Int):Int:=IntKind.i64.wrap n
abbrev B42(n:Int):Int:=IntKind.i32.wrap n
abbrev C3(n:Int):Int:=IntKind.u64.wrap n
abbrev G8(n:Int):Int:=IntKind.u32.wrap n
abbrev wu8(n:Int):Int:=IntKind.u8.wrap n
def Ru(k:IntKind)(x y:Int):Int:=k.wrap (BitVec.ofInt k.bits x &&& BitVec.ofInt k.bits y).toNat
def bor(k:IntKind)(x y:Int):Int:=k.wrap (BitVec.ofInt k.bits x ||| BitVec.ofInt k.bits y).toNat
def B47(k:IntKind)(x y:Int):Int:=k.wrap (BitVec.ofInt k.bits x ^^^ BitVec.ofInt k.bits y).toNat
def A98(k:IntKind)(x y:Int):Int:=k.wrap (BitVec.ofInt k.bits x &&& ~~~BitVec.ofInt k.bits y).toNat
