/- A part. -/
import Derived.Test.YtkfhdoblhajcbaaGreatDoorG03
set_option linter.all false
open Bool renaming and_eq_true->aF
open _root_.Go.Instr renaming sureAddr->aN,endRound->aO,endLoop->aP,loadAt->aR
open List renaming all_eq_true->aJ,drop_length_add_append->aM
open Nat renaming beq->aH,eq_of_beq_eq_true->aK
open _root_.Go.Result renaming andThen_ok->aC
open _root_.Go renaming Value->aD,World->aE,Program->aL,Code->aQ
open _root_.Go.Proofs.YtkfhdoblhajcbaaGreatDoor renaming Heap->aG,Good->aI
namespace Go.Proofs.YtkfhdoblhajcbaaGreatDoor
open Go
inductive Ex where
 | normal
 | exit (id:Nat)
 | ret
structure Ann where
 slots:List Nat
 owns:List (Nat × Nat)
 zs:List aD
 lim:Lim
structure FnAnn where
 loops:List (Nat × Ann):=[]
 cuts:List (Nat × Ann):=[]
 orders:List (Nat × List Nat × List (List Nat)):=[]
 rounds:List (Nat × List aD):=[]
 alts:List (Nat × List (Nat × List Nat)):=[]
def an0:FnAnn:=⟨[],[],[],[],[]⟩
def Ir{α:Type}:List (Nat×α)->Nat->Option α
 | [],_=>none
 | (k,x)::r,i=>bif aH i k then some x else Ir r i
def C4y(l m:List Nat):List Nat:=m.foldr (fun x l=>bif has l x then l else x::l) l
def B2q:List Oper->List (List Nat)->List (List Nat)
 | [],acc=>acc
 |o::r,acc=>B2q r (acc++[o.after.toList.foldr (fun e l=>bif Region.binds .any e then C4y l (e.on::acc.getD e.on [])else l) []])
def C4s(fa:FnAnn)(id:Nat)(ops:Array Oper):List Nat×List (List Nat):=
 match Ir fa.orders id with
 |none=>(List.range ops.size,B2q ops.toList [])
 |some (o,[])=>(o,B2q ops.toList [])
 |some (o,a::l)=>(o,a::l)
def J8:aQ->Option Nat
 |.region id _ _=>some id
 |.seq a b=>match J8 a with
  |some i=>some i
  |none=>J8 b
 |.block _ b=>J8 b
 |.loop b=>J8 b
 |.scope b=>J8 b
 |.cond _ a b=>match J8 a with
  |some i=>some i
  |none=>J8 b
 |_=>none
def A51:List Nat->Nat->Nat->Option Nat
 | [],_,_=>none
 |x::xs,i,j=>bif aH i x then some j else A51 xs i (j+1)
def Hk:List (Nat×Nat)->Nat->Nat->Option (Nat×Nat)
 | [],_,_=>none
 | (k,n)::r,i,j=>bif aH i k then some (j,n)else Hk r i (j+n)
def Ds(ann:Ann)(st:VS)(vs:List aD):VS:=
 { env:=fun i=>match A51 ann.slots i 0 with
    |some j=>.val (vs.getD j undef)
    |none=>bif has ann.lim.slots i then .any else st.env i
   own:=fun k=>match Hk ann.owns k ann.slots.length with
    |some (j,n)=>some ((vs.drop j).take n)
    |none=>st.own k }
def Dt(st:VS):List Nat->Option (List aD)
 | []=>some []
 |i::is=>match st.env i with
  |.val v=>match Dt st is with
   |some vs=>some (v::vs)
   |none=>none
  |_=>none
def Qf(st:VS):List (Nat×Nat)->Option (List aD)
 | []=>some []
 | (k,n)::r=>match st.own k with
  |some cs=>bif aH cs.length n then(match Qf st r with
   |some vs=>some (cs++vs)
   |none=>none)else none
  |none=>none
def Qd:List aD->List aD->Bool
 | [],[]=>true
 |z::zs,v::vs=>A2n z v&&Qd zs vs
 |_,_=>false
def keep(ann:Ann)(st:VS)(h:aG)(K:LP):Prop:=
 match Dt st ann.slots with
 |some xs=>match Qf st ann.owns with
  |some ys=>When (Qd ann.zs (xs++ys)) (K (xs++ys) h)
  |none=>False
 |none=>False
def Rj(cfg:Cfg)(ann:Ann)(st:VS):Bool:=
 ann.lim.slots.all (fun d=>A2m cfg d)&&ann.lim.keys.all (fun k=>A2o cfg.lim k&&((st.own k).isNone||(Hk ann.owns k 0).isSome)) &&
 ann.slots.all (has ann.lim.slots)&&ann.owns.all (fun p=>has ann.lim.keys p.1)&&kindsLen ann
where
 kindsLen (ann:Ann):Bool:=aH ann.zs.length (ann.slots.length+ann.owns.foldr (fun p s=>p.2+s) 0)
def Cfg.within(cfg:Cfg)(ann:Ann):Cfg:={ n:=cfg.n,own:=cfg.own,lim:=some ann.lim,fns:=cfg.fns,wr:=cfg.wr,inr:=cfg.inr }
def C07(ann:Ann)(cfg:Cfg)(body:Cfg->VS->aG->(Ex->VS->aG->Prop)->Prop)(st:VS)(h:aG)(Q:Ex->VS->aG->Prop):Prop:=
 When (Rj cfg ann st) <|
 ∃(Inv:LP) (μ:LN),keep ann st h Inv/\
  allL ann.zs fun g=>∀h,Inv g h->body (cfg.within ann) (Ds ann st g) h fun e c d=>
   match e with
   |.normal=>keep ann c d fun f d=>Inv f d/\μ f d<μ g h
   |e=>Q e c d
def C3k(ann:Ann)(cfg:Cfg)(a b:Cfg->VS->aG->(Ex->VS->aG->Prop)->Prop)(st:VS)(h:aG)(Q:Ex->VS->aG->Prop):Prop:=
 When (Rj cfg ann st) <|
 ∃J:LP,(a (cfg.within ann) st h fun e c d=>
    match e with
    |.normal=>keep ann c d J
    |e=>Q e c d)/\
  allL ann.zs fun f=>∀h,J f h->b cfg (Ds ann st f) h Q
def B4r:AVal->AVal
 |.own _ _=>.any
 |v=>v
def putAll:VS->List Nat->List aD->VS
 |st,t::ts,v::vs=>putAll (st.put t (.val v)) ts vs
 |st,_,_=>st
def Pm(st:VS)(ps:List Nat)(vs:List aD):VS:=putAll { env:=fun i=>B4r (st.env i),own:=fun _=>none } ps vs
def V8(P:aL)(fa:FnAnn):aQ->Cfg->VS->aG->(Ex->VS->aG->Prop)->Prop
 |.skip,_,st,h,Q=>Q .normal st h
 |.region id ops draw,cfg,st,h,Q=>
  match draw with
  |false=>B3k P cfg ops false (List.range ops.size) st h (Q .normal)
  |true=>
   match C4s fa id ops with
   | (ord,anc)=>When (B2g P ops ord anc) (Hg P cfg ops anc (fun j=>((Ir fa.alts id).bind (fun l=>Ir l j)).getD []) ord.length ord st h (Q .normal))
 |.seq a b,cfg,st,h,Q=>
  match (J8 b).bind (Ir fa.cuts)with
  |none=>V8 P fa a cfg st h fun e st' h'=>
   match e with
   |.normal=>V8 P fa b cfg st' h' Q
   |e=>Q e st' h'
  |some ann=>C3k ann cfg (V8 P fa a) (V8 P fa b) st h Q
 |.cond c t e,cfg,st,h,Q=>
  match D7 st c with
  |.val (.bool b)=>Br b (V8 P fa t cfg st h Q) (V8 P fa e cfg st h Q)
  |_=>False
 |.block id b,cfg,st,h,Q=>V8 P fa b cfg st h fun e st' h'=>
  match e with
  |.exit j=>bif aH j id then Q .normal st' h' else Q (.exit j) st' h'
  |e=>Q e st' h'
 |.loop b,cfg,st,h,Q=>
  match (J8 b).bind (Ir fa.loops)with
  |none=>False
  |some ann=>C07 ann cfg (V8 P fa b) st h Q
 |.rangeFunc g ps asg body,cfg,st,h,Q=>
  match D7 st g,(J8 body).bind (Ir fa.rounds)with
  |.val v,some zs=>
   When (aH zs.length ps.size&&ps.toList.all (fun t=>Nat.blt t cfg.n) && !cfg.inr)
    (match (J8 body).bind fun i=>Ir fa.rounds (i+1000000)with
    |none=>A7z P v h (fun args h1 J=>exL zs fun vs=>args=vs/\V8 P fa asg { cfg with lim:=none,inr:=true } (Pm st ps.toList vs) h1 fun e st1 h2=>
     match e with
     |.normal=>V8 P fa body { cfg with lim:=none,inr:=true } st1 h2 fun e _ h3=>
      match e with
      |.normal=>J h3
      |_=>False
     |_=>False) (Q .normal st)
    |some _=>A7y P v h (fun args h1 J JR=>exL zs fun vs=>args=vs/\V8 P fa asg { cfg with lim:=none,inr:=true } (Pm st ps.toList vs) h1 fun e st1 h2=>
     match e with
     |.normal=>V8 P fa body { cfg with lim:=none,inr:=true } st1 h2 fun e _ h3=>
      match e with
      |.normal=>J h3
      |.ret=>JR h3
      |_=>False
     |_=>False) (Q .normal st) (Q .ret st))
  |_,_=>False
 |.exit id,_,st,h,Q=>Q (.exit id) st h
 |.ret,_,st,h,Q=>Q .ret st h
 |.scope b,cfg,st,h,Q=>V8 P fa b cfg st h Q
 |.label _,_,st,h,Q=>Q .normal st h
 |_,_,_,_,_=>False
section
variable {P:aL} {s0:Nat} {F:Fence} {fu:Nat} {n:Nat} {st:VS} {h:aG} {a:Act} {W:aE}
def Xp{l:List Nat}:∀{i j p:Nat},A51 l i j=some p->∃q,p=j+q/\l[q]? = some i:=by
 induction l with
 |nil=>intro i j p e;cases e
 |cons x xs ih=>
  intro i j p e;unfold A51 at e
  cases hb:aH i x with
  |true=>
   simp_all
  |false=>
   rw[hb]at e;obtain⟨q,d,c⟩:=ih e;exact⟨q+1,o,by assumption⟩
def A5i{l:List Nat}:∀{vs:List aD} {q i:Nat},Dt st l=some vs->l[q]? = some i->∃v,vs[q]? = some v/\st.env i= .val v:=by
 induction l with
 |nil=>grind
 |cons x xs ih=>
  intro vs q i c e;unfold Dt at c;grind
def Uo{l:List Nat}:∀{vs:List aD},Dt st l=some vs->vs.length=l.length:=by
 induction l with
 |nil=>intro vs e;injection e with e;grind
 |cons x xs ih=>
  intro vs c;unfold Dt at c;grind
def A92{l:List (Nat×Nat)}:∀{vs:List aD} {k j p m:Nat},Qf st l=some vs->Hk l k j=some (p,m)->∃q,p=j+q/\st.own k=some ((vs.drop q).take m):=by
 induction l with
 |nil=>intro vs k j p m _ e;cases e
 |cons x xs ih=>
  obtain⟨n,g⟩:=x;intro vs k j p m c e;unfold Qf at c;split at c
  ·rename_i cs r
   cases hb:aH cs.length g with
   |false=>grind
   |true=>
    rw[hb]at c;have d:=aK hb;split at c
    ·rename_i t f;injection c with c;subst c;unfold Hk at e
     cases hk:aH k n with
     |true=>
      simp_all
     |false=>
      rw[hk]at e;obtain⟨q,s,i⟩:=ih f e;refine⟨g+q,o,?_⟩;rw[i,<- d,aM]
    ·cases c
  ·cases c
def Um{zs:List aD}:∀{vs:List aD},Qd zs vs=true->vs.length=zs.length/\∀p∈zs.zip vs,A2n p.1 p.2=true:=by
 induction zs with
 |nil=>
  intro vs e
  cases vs with
  |nil=>simp_all
  |cons=>cases e
 |cons z zs ih=>
  intro vs e
  cases vs with
  |nil=>cases e
  |cons v vs=>
   simp only[Qd,aF]at e;obtain⟨c,d⟩:=ih e.2;simp_all
def keep.out{ann:Ann}{K:LP}(x:keep ann st h K):∃xs ys,Dt st ann.slots=some xs/\Qf st ann.owns=some ys/\Qd ann.zs (xs++ys)=true/\K (xs++ys) h:=by unfold keep at x;split at x;{split at x;{rename_i xs d _ ys c;exact⟨xs,ys,d,c,x.both.1,x.both.2⟩};grind};grind
def A26{l:List (Nat×Nat)}:∀{k i j:Nat},(Hk l k i).isSome=(Hk l k j).isSome:=by
 induction l with
 |nil=>intros;rfl
 |cons x xs ih=>
  obtain⟨d,c⟩:=x;intro k i j;unfold Hk;grind
def Good.head{cfg:Cfg}{h0:aG}{W0:aE}{ann:Ann}{st0:VS}(g:aI n h0 W0 st h a W)(hok:Rj cfg ann st0=true)(ag:Agree (some ann.lim) st0 st)(g0:∀i k off,st0.env i= .own k off->(st0.own k).isSome=true)(hn:cfg.n=n)
 {xs ys:List aD} (hx:Dt st ann.slots=some xs) (hy:Qf st ann.owns=some ys):aI n h0 W0 (Ds ann st0 (xs++ys)) h a W:=by
 obtain⟨θ,r,f,N⟩:=g;simp only[Rj,aF,aJ]at hok;obtain⟨⟨⟨⟨B,A⟩,H⟩,G⟩,_⟩:=hok;have l:=Uo hx
 have d:∀i,(∃v,(Ds ann st0 (xs++ys)).env i= .val v/\st.env i= .val v)\/((Ds ann st0 (xs++ys)).env i= .any/\has ann.lim.slots i=true)\/((Ds ann st0 (xs++ys)).env i=st.env i/\st.env i=st0.env i):=by
  intro i
  show(∃v,(match A51 ann.slots i 0 with
   |some j=>AVal.val ((xs++ys).getD j undef)
   |none=>bif has ann.lim.slots i then .any else st0.env i)=_/\_)\/(_=_/\_)\/(_=_/\_)
  simp only[Ds]
  cases hp:A51 ann.slots i 0 with
  |some p=>
   obtain⟨q,z,E⟩:=Xp hp;obtain⟨v,L,M⟩:=A5i hx E;grind
  |none=>
   cases hh:has ann.lim.slots i with
   |true=>grind
   |false=>exact .inr (.inr ⟨(ag.env i hh).symm,ag.env i hh⟩)
 have t:∀k cs,(Ds ann st0 (xs++ys)).own k=some cs->st.own k=some cs:=by
  intro k cs e;simp only[Ds]at e
  cases hp:Hk ann.owns k ann.slots.length with
  |some p=>
   obtain⟨p,m⟩:=p;rw[hp]at e;obtain⟨q,z,D⟩:=A92 hy hp;injection e with e;rw[D,<- e,z,<- l,aM]
  |none=>
   rw[hp]at e;have e:st0.own k=some cs:=e
   cases hh:has ann.lim.keys k with
   |false=>rw[ag.own k hh];exact e
   |true=>
    have:=(A k (Be.1 hh)).2;rw[e,A26 (j:=ann.slots.length),hp]at this;cases this
 refine⟨θ,⟨r.defers,r.size,fun i u=>?_,r.sim,fun k cs e=>r.own k cs (t k cs e),fun k C y w e=>?_,fun i k off e=>?_,fun i u=>?_⟩,f,fun k y=>?_⟩
 ·rcases d i with⟨v,c,s⟩|⟨c,_⟩|⟨c,_⟩;·have:=r.slot i u;grind
  ·rw[c];trivial
  ·rw[c];exact r.slot i u
 ·obtain⟨cs,c⟩:=Option.isSome_iff_exists.1 y;obtain⟨F,s⟩:=Option.isSome_iff_exists.1 w;exact r.inj k C gz0 gz0 e
 ·rcases d i with⟨v,c,_⟩|⟨c,_⟩|⟨c,s⟩;·grind
  ·grind
  ·simp only[Ds];grind
 ·rcases d i with⟨v,c,s⟩|⟨c,s⟩|⟨c,s⟩;·have:=r.out i u;grind
  ·have:=B i (Be.1 s);simp only[A2m,aF]at this;have:=Nat.le_of_ble_eq_true this.1;omega
  ·rw[c];exact r.out i u
 ·obtain⟨cs,c⟩:=Option.isSome_iff_exists.1 y;grind
def Agree.within{cfg:Cfg}{ann:Ann}{st0 st':VS}(hok:Rj cfg ann st0=true){s:VS}(x:Agree (some ann.lim) s st'):Agree cfg.lim s st':=by
 simp only[Rj,aF,aJ]at hok;obtain⟨⟨⟨⟨d,c⟩,_⟩,_⟩,_⟩:=hok;refine⟨fun i e=>x.env i ?_,fun k f=>x.own k ?_⟩
 ·cases hh:has ann.lim.slots i with
  |false=>exact hh
  |true=>
   have:=d i (Be.1 hh);simp only[A2m,aF]at this;grind
 ·cases hh:has ann.lim.keys k with
  |false=>exact hh
  |true=>have:=(c k (Be.1 hh)).1;grind
def Agree.head{ann:Ann}{cfg:Cfg}{st0:VS}(hok:Rj cfg ann st0=true)(vs:List aD):Agree (some ann.lim) st0 (Ds ann st0 vs):=by
 simp only[Rj,aF,aJ]at hok;obtain⟨⟨⟨⟨t,r⟩,u⟩,s⟩,_⟩:=hok;refine⟨fun i c=>?_,fun k d=>?_⟩
 ·have c:has ann.lim.slots i=false:=c;simp only[Ds]
  cases hp:A51 ann.slots i 0 with
  |some p=>
   obtain⟨q,_,n⟩:=Xp hp;grind
  |none=>simp[c]
 ·have d:has ann.lim.keys k=false:=d;simp only[Ds]
  cases hp:Hk ann.owns k ann.slots.length with
  |none=>rfl
  |some p=>
   exfalso
   have f:∀{l:List (Nat×Nat)} {j:Nat} {p:Nat×Nat},Hk l k j=some p->∃m,(k,m)∈l:=by
    intro l
    induction l with
    |nil=>intro j p e;cases e
    |cons x xs ih=>
     obtain⟨g,w⟩:=x;intro j p e;unfold Hk at e
     cases hb:aH k g with
     |true=>simp_all
     |false=>grind
   grind
def Ys{α:Type}{c:aQ}{Q:Exit->Act->aE->Prop}(I:α->Act->aE->Prop)(μ:α->Nat)(z0:α)(h₀:I z0 a W)
 (round:∀z a w,I z a w->c.wpIn F fu P (Exit.then (fun a' w'=>∃z',I z' a' w'/\μ z'<μ z) Q) a w):(Code.loop c).wpIn F fu P Q a W:=by
 intro b k cs r p n
 have key:∀m z a w,μ z=m->I z a w->∃e a' w',Q e a' w'/\ArrivesIn (Machine.fenced P F) P (lone (b.atR a (.code c :: .inLoop c::k)) cs w) b k cs e a' w':=by
  intro m
  induction m using Nat.strongRecOn with
  |_ m ih=>
   intro z a w y t;obtain⟨e,a₁,w₁,f,d⟩:=round z a w t b (.inLoop c::k) cs r p n
   cases e with
   |normal=>
    obtain⟨z',q,s⟩:=f;obtain⟨e,a',w',u,g⟩:=ih _ o z' a₁ w₁ rfl q;exact⟨e,a',w',u,.of_steps (StepsIn.trans d (.one (fenced_calm p n rfl) stepR_inLoop)) g⟩
   |exit id=>exact⟨_,a₁,w₁,f,.pass (x:=.inLoop c) rfl (fun _ _=>.inl (by simp)) d⟩
   |goto l=>exact⟨_,a₁,w₁,f,.pass (x:=.inLoop c) rfl (fun _ _=>.inl (by simp)) d⟩
   |ret=>exact⟨_,a₁,w₁,f,.pass (x:=.inLoop c) rfl (fun _ _=>.inl (by simp)) d⟩
   |panic ch=>exact⟨_,a₁,w₁,f,.pass (x:=.inLoop c) rfl (fun _ _=>.inl (by simp)) d⟩
   |outgrown=>exact⟨_,a₁,w₁,f,.pass (x:=.inLoop c) rfl (fun _ _=>.inl (by simp)) d⟩
 obtain⟨e,a',w',f,d⟩:=key _ z0 a W rfl h₀;exact⟨e,a',w',f,.of_steps (.one (fenced_calm p n rfl) stepR_loop) d⟩
def Ex.toExit:Ex->Exit
 |.normal=>.normal
 |.exit id=>.exit id
 |.ret=>.ret
def Good.wf{h0:aG}{W0:aE}(g:aI n h0 W0 st h a W):∀i k off,st.env i= .own k off->(st.own k).isSome=true:=by obtain⟨θ,r,_,_⟩:=g;exact r.wf
def Xo:∀(ps:List Nat) (vs:List aD) (st:VS),(putAll st ps vs).own=st.own
 | [],_,_=>rfl
 |_::_,[],_=>rfl
 |t::ts,v::vs,st=>by rw[putAll,Xo ts vs];rfl
def Rel.putAll{θ:Nat->Nat}:∀(ps:List Nat) (vs:List aD) (st:VS) (a:Act),Rel s0 n θ st h a W->(∀t∈ps,t<n)->Rel s0 n θ (putAll st ps vs) h { a with tmps:=(ps.zip vs).foldl (fun tmps (t,v)=>tmps.setIfInBounds t v) a.tmps } W
 | [],_,_,_,r,_=>r
 |_::_,[],_,_,r,_=>r
 |t::ts,v::vs,st,a,r,hp=>by
  have:=Rel.putAll ts vs (st.put t (.val v)) (a.put (some t) v) (r.put (hp t (by simp)) (v:=.val v) rfl (fun _ _ e=>by cases e)) (fun c d=>hp c (by simp[d]));exact this
def Good.round{h0:aG}{W0:aE}(g:aI n h0 W0 st h a W){ps:List Nat}(hps:∀t∈ps,t<n){vs:List aD}{h1:aG}{W1:aE}(hs:Sim h1 W1):
 aI n h1 W1 (Pm st ps vs) h1 { tmps:=(ps.zip vs).foldl (fun tmps (t,v)=>tmps.setIfInBounds t v) a.tmps,defers:=[] } W1:=by
 obtain⟨θ,r,_,_⟩:=g
 have f:Rel W1.heap.size n θ { env:=fun i=>B4r (st.env i),own:=fun _=>none } h1 { tmps:=a.tmps,defers:=[] } W1:=by
  refine⟨MarksOk.nil,r.size,fun i c=>?_,hs,(fun k cs e=>by cases e),(fun k j e=>by cases e),fun i k off e=>?_,fun i c=>?_⟩
  ·have:=r.slot i c;show rel θ (B4r (st.env i)) _
   cases hx:st.env i with
   |own k off=>trivial
   |val v=>rw[hx]at this;exact this
   |any=>trivial
  ·exfalso;simp only at e;cases hx:st.env i<;>rw[hx]at e<;>cases e
  ·show B4r (st.env i)=_;rw[r.out i c];rfl
 refine⟨θ,f.putAll ps vs _ _ hps,Fr.refl hs,fun k d=>?_⟩;unfold Pm at d;rw[Xo]at d;cases d
def T4{l:Nat}{rec:Loop}(e:W.heap[l]? = some (.loop rec)):(Instr.getLoop l).run P W= .ok rec W:=by simp[Instr.getLoop,getObj,Sem.run_bind,Sem.run,e]
def World.setO(W:aE)(l:Nat)(o:Obj):aE:={W with heap:=W.heap.setIfInBounds l o }
def Ay{l:Nat}{o o':Obj}(e:W.heap[l]? = some o')(hc:∀c t f,o' ≠ .cells c t f):(setObj l o).run P W= .ok () (World.setO W l o):=by
 cases o' with
 |cells c t f=>grind
 |_=>simp[setObj,Sem.run,e,World.setO]
def Fe{l:Nat}{o o':Obj}(e:W.heap[l]? = some o'):(World.setO W l o).heap[l]? = some o:=by have:=Fj e;simp[World.setO,this]
def F9{l b:Nat}{o:Obj}(hb:b≠l):(World.setO W l o).heap[b]? = W.heap[b]? :=by simp[World.setO,Ne.symm hb]
def Good.setLoop{h0:aG}{W2 W3:aE}{l:Nat}{rec rec':Loop}(g:aI n h0 W2 st h a W3)(hl:h0 l=none)(hs:l<W2.heap.size)(e:W3.heap[l]? = some (.loop rec)):aI n h0 (World.setO W2 l (.loop rec')) st h a (World.setO W3 l (.loop rec')):=by
 obtain⟨θ,r,d,L⟩:=g
 have p:h l=none:=by
  cases x:h l with
  |none=>rfl
  |some o=>have:=d.new l o hl x;omega
 have i:∀(W:aE) (o:Obj),(World.setO W l o).heap.size=W.heap.size:=fun W o=>by simp[World.setO]
 refine⟨θ,⟨?_,r.size,r.slot,fun b o f=>?_,fun k cs z=>?_,r.inj,r.wf,r.out⟩,⟨fun b o f=>?_,d.os,d.tape,d.output,by rw[i,i];exact d.size,fun b j f=>?_,fun b o D A=>by rw[i];exact d.new b o D A⟩,fun k G=>gz0⟩
 ·obtain⟨B,E,F,u⟩:=r.defers;refine⟨B,E,F,fun q y=>?_⟩;obtain⟨H,m,s⟩:=u q y;have c:q≠l:=oo;exact⟨gz0,m,by rw[F9 c];exact s⟩
 ·have c:b≠l:=gz0;rw[F9 c];exact r.sim b o f
 ·obtain⟨t,C,w⟩:=r.own k cs z;have c:θ k≠l:=gz0;exact⟨t,by rw[F9 c];exact C,w⟩
 ·have c:b≠l:=gz0;rw[F9 c];exact d.sim b o f
 ·rw[i]at j;by_cases c:b=l
  ·subst c;rw[Fe e,Fe (o':=W2.heap[b]) (Array.getElem?_eq_getElem j)]
  ·rw[F9 c,F9 c];exact d.keep b j f
def A4v{h0:aG}{W0:aE}{x:Operand}{ps:Array Tmp}{asg body:aQ}{v:aD}{zs:List aD}{B:List aD->aG->(aG->Prop)->Prop}{K:aG->Prop}{Q':Exit->Act->aE->Prop}
 (g:aI n h0 W0 st h a W) (hev:D7 st x= .val v) (hlen:zs.length=ps.size) (hps:∀t∈ps.toList,t<n)
 (hv:A7z P v h (fun args h1 J=>exL zs fun vs=>args=vs/\B vs h1 J) K)
 (hQ:∀(l:Nat) vs h1 J a1 W1,B vs h1 J->aI n h1 W1 (Pm st ps.toList vs) h1 a1 W1->∃K2:VS->aG->Prop,
  (∀fu' (Q2:Exit->Act->aE->Prop),(∀st' h' a' W',K2 st' h'->aI n h1 W1 st' h' a' W'->Q2 .normal a' W')->asg.wpIn (Fence.wide.inRound l) fu' P Q2 a1 W1)/\
  ∀W1' st1 h2 a2 W2 fu' (Q2:Exit->Act->aE->Prop),K2 st1 h2->aI n h1 W1' st1 h2 a2 W2->(∀st' h' a' W',J h'->aI n h1 W1' st' h' a' W'->Q2 .normal a' W')->body.wpIn (Fence.wide.inRound l) fu' P Q2 a2 W2)
 (hK:∀h' a' W',K h'->aI n h0 W0 st h' a' W'->Q' .normal a' W'):(Code.rangeFunc x ps asg body).wpIn Fence.wide fu P Q' a W:=by
 obtain⟨f,first,j,rfl,C,hv⟩:=hv;obtain⟨θ,r,fr,X⟩:=id g;refine wpIn_rangeFunc fun fn _=>?_;generalize hrec:({ state:=.ready,pending:=none,fn:=fn,tmps:=a.tmps,params:=ps,assign:=asg,body:=body,defers:=W.heap.size }:Loop)=rec
 generalize hl:W.heap.size+1=l;generalize hW1:({ W with heap:=(W.heap.push (.deferred (some []))).push (.loop rec) }:aE)=W1;have ae:W1.heap.size=W.heap.size+2:=gz0;have H:W1.heap[W.heap.size]? = some (.deferred (some [])):=gz0
 have D:∀b,b<W.heap.size->W1.heap[b]? = W.heap[b]? :=by
  grind
 have y:∀b,W.heap.size<=b->h b=none:=by
  intro b s
  cases e:h b with
  |none=>rfl
  |some o=>have:=Fj (r.sim b o e);omega
 have E:Sim (h.put l (.loop rec)) W1:=by
  intro b o e;by_cases s:b=l;·subst s;rw[C3]at e;grind
  ·rw[B9 _ _ s]at e;have h1:=r.sim b o e;grind
 refine⟨l,[{ target:=.collected W.heap.size,args:=#[] }],W1,{ target:=.fn (.func f) j,args:=first ++ #[.func (.yield l) #[] #[]] },W1,f,first ++ #[.func (.yield l) #[] #[]]++j,W1,?_,?_,fun _ _=>trivial,?_,(fun e=>by cases e),?_⟩
 ·rw[<- hW1,<- hl,<- hrec];simp[Instr.enterLoop,newObj,Sem.run_bind,Sem.run,Fence.wide];rfl
 ·have ec:a.eval (.const (.func (.yield l) #[] #[]))= .func (.yield l) #[] #[]:=rfl;simp[resolve,r.evalVal hev,Deferred.ofValue,ec]
 ·simp[invoke,C]
 ·refine callsIn_wide.2 ((hv l rec (y l oo) ?_ W1 E).mono ?_)
  ·
   intro args h1 J w s W2 L
   obtain⟨vs,rfl,S,s⟩:∃vs,args=vs/\vs.length=zs.length/\B vs h1 J:=by
    obtain⟨vs,S,e,s⟩:=exL.out s;grind
   have u:W2.heap[l]? = some (.loop rec):=L l _ (C3 h1 l _);have z:=Fj u;refine⟨fn,(ps.zip args.toArray).foldl (fun tmps (t,v)=>tmps.setIfInBounds t v) a.tmps,asg,body,?_,fun m=>?_⟩
   ·unfold Instr.yield;simp only[Sem.run_bind,T4 u,aC];rw[<- hrec];simp_all
   ·have M:Sim h1 W2:=by
     intro b o e;have c:b≠l:=gz0;exact L b o (by rw[B9 _ _ c];exact e)
    have hz:(ps.zip args.toArray).foldl (fun tmps (t,v)=>tmps.setIfInBounds t v) a.tmps=(ps.toList.zip args).foldl (fun tmps (t,v)=>tmps.setIfInBounds t v) a.tmps:=by
     rw[<- Array.foldl_toList];simp
    have gr:=g.round hps (vs:=args) M;obtain⟨K2,Q,ac⟩:=hQ l args h1 J _ _ s gr;rw[hz];refine roundIn_of_wpIn (F:=Fence.wide) trivial (Q m _ ?_);intro st1 h2 a2 W3 T g2
    have d:W3.heap[l]? = some (.loop rec):=by
     obtain⟨_,_,fr2,_⟩:=g2;rw[fr2.keep l z w];exact u
    refine⟨World.setO W3 l (.loop { rec with state:=.busy }),?_,?_⟩
    ·unfold Instr.beginRound;simp only[Sem.run_bind,T4 d,aC,Ay d gz0];rw[<- hrec];rfl
    ·refine ac (World.setO W2 l (.loop { rec with state:=.busy })) st1 h2 a2 _ m _ T (g2.setLoop w z d) ?_;intro st' h' a' W' hJ g';obtain⟨θ',r',k,_⟩:=g'
     have A:W'.heap[l]? = some (.loop { rec with state:=.busy }):=by
      rw[k.keep l (by simpa[World.setO]using z) w];exact Fe u
     have V:h' l=none:=by
      cases e:h' l with
      |none=>rfl
      |some o=>have:=k.new l o w e;simp[World.setO]at this;omega
     refine⟨.bool true,World.setO W' l (.loop rec),?_,.bool true,h'.put l (.loop rec),rfl,⟨rfl,h',V,rfl,hJ⟩,?_⟩
     ·unfold aO;simp only[Sem.run_bind,T4 A,aC,Ay A gz0];rw[<- hrec];rfl
     ·refine⟨fun b o e=>?_,k.os,k.tape,k.output,?_,fun b s e=>?_,fun b o e N=>?_⟩
      ·by_cases s:b=l;·subst s;rw[C3]at e;cases e;exact Fe A
       ·rw[B9 _ _ s]at e;rw[F9 s];exact k.sim b o e
      ·have:=k.size;simpa[World.setO]using this
      ·have c:b≠l:=by rintro rfl;rw[C3]at e;cases e
       rw[B9 _ _ c]at e;rw[F9 c,k.keep b (by simpa[World.setO]using s) e,F9 c]
      ·have c:b≠l:=by rintro rfl;rw[C3]at e;cases e
       rw[B9 _ _ c]at e N;have:=k.new b o e N;simpa[World.setO]using this
  ·rintro e W3 ⟨rv,h2,rfl,⟨O,af,rfl,R⟩,i⟩;have d:W3.heap[l]? = some (.loop rec):=i.sim l _ (C3 O l _)
   have G:Fr h W O (World.setO W3 l (.loop { rec with state:=.exhausted })):=by
    have e1:W1.os=W.os/\W1.tape=W.tape/\W1.output=W.output:=gz0;refine⟨fun b o e=>?_,i.os.trans e1.1,i.tape.trans e1.2.1,i.output.trans e1.2.2,?_,fun b s e=>?_,fun b o e N=>?_⟩
    ·have c:b≠l:=gz0;rw[F9 c];exact i.sim b o (by rw[B9 _ _ c];exact e)
    ·have:=i.size;simp[World.setO];omega
    ·have c:b≠l:=oo;rw[F9 c,i.keep b oo (by rw[B9 _ _ c];exact e),D b s]
    ·have c:b≠l:=gz0;have:=i.new b o (by rw[B9 _ _ c];exact e) (by rw[B9 _ _ c];exact N);omega
   refine⟨none,World.setO W3 l (.loop { rec with state:=.exhausted }),?_,hK O _ _ R ⟨θ,?_,fr.trans G,X⟩⟩
   ·unfold aP;simp only[Sem.run_bind,T4 d,aC];rw[<- hrec]at d ⊢;simp[Ay d gz0]
   ·have p:=r.world G;refine⟨?_,p.size,p.slot,p.sim,p.own,p.inj,p.wf,p.out⟩;obtain⟨rs,n1,n2,n3⟩:=p.defers;obtain⟨aa,m1,m2,m3⟩:=r.defers
    have ad:rs=aa:=by
     have:=n2.symm.trans m2;exact(List.map_inj_right (fun a b e=>by injection e)).1 this
    refine⟨W.heap.size::rs,List.nodup_cons.2 ⟨fun hm=>?_,n1⟩,by simp[n2],fun q hq=>?_⟩;·grind
    ·rcases List.mem_cons.1 hq with rfl|hq
     ·refine⟨fr.size,?_,?_⟩
      ·cases e:O W.heap.size with
       |none=>rfl
       |some o=>
        have h4:=i.new W.heap.size o (by rw[B9 _ _ oo];grind) (by rw[B9 _ _ oo];exact e);omega
      ·rw[F9 oo,i.keep _ oo (by rw[B9 _ _ oo];grind)];exact H
     grind
def A1y{h0:aG}{W0:aE}{x:Operand}{ps:Array Tmp}{asg body:aQ}{v:aD}{zs:List aD}{B:List aD->aG->(aG->Prop)->(aG->Prop)->Prop}{K KR:aG->Prop}{Q':Exit->Act->aE->Prop}
 (g:aI n h0 W0 st h a W) (hev:D7 st x= .val v) (hlen:zs.length=ps.size) (hps:∀t∈ps.toList,t<n)
 (hv:A7y P v h (fun args h1 J JR=>exL zs fun vs=>args=vs/\B vs h1 J JR) K KR)
 (hQ:∀(l:Nat) vs h1 J JR a1 W1,B vs h1 J JR->aI n h1 W1 (Pm st ps.toList vs) h1 a1 W1->∃K2:VS->aG->Prop,
  (∀fu' (Q2:Exit->Act->aE->Prop),(∀st' h' a' W',K2 st' h'->aI n h1 W1 st' h' a' W'->Q2 .normal a' W')->asg.wpIn (Fence.wide.inRound l) fu' P Q2 a1 W1)/\
  ∀W1' st1 h2 a2 W2 fu' (Q2:Exit->Act->aE->Prop),K2 st1 h2->aI n h1 W1' st1 h2 a2 W2->(∀st' h' a' W',J h'->aI n h1 W1' st' h' a' W'->Q2 .normal a' W')->(∀st' h' a' W',JR h'->aI n h1 W1' st' h' a' W'->Q2 .ret a' W')->body.wpIn (Fence.wide.inRound l) fu' P Q2 a2 W2)
 (hK:∀h' a' W',K h'->aI n h0 W0 st h' a' W'->Q' .normal a' W') (hKR:∀h' a' W',KR h'->aI n h0 W0 st h' a' W'->Q' .ret a' W'):(Code.rangeFunc x ps asg body).wpIn Fence.wide fu P Q' a W:=by
 obtain⟨f,first,j,rfl,N,hv⟩:=hv;obtain⟨θ,r,fr,aj⟩:=id g;refine wpIn_rangeFunc fun fn _=>?_;generalize hrec:({ state:=.ready,pending:=none,fn:=fn,tmps:=a.tmps,params:=ps,assign:=asg,body:=body,defers:=W.heap.size }:Loop)=rec
 generalize hl:W.heap.size+1=l;generalize hW1:({ W with heap:=(W.heap.push (.deferred (some []))).push (.loop rec) }:aE)=W1;have an:W1.heap.size=W.heap.size+2:=gz0;have V:W1.heap[W.heap.size]? = some (.deferred (some [])):=gz0
 have O:∀b,b<W.heap.size->W1.heap[b]? = W.heap[b]? :=by
  grind
 have G:∀b,W.heap.size<=b->h b=none:=by
  intro b y
  cases e:h b with
  |none=>rfl
  |some o=>have:=Fj (r.sim b o e);omega
 have S:Sim (h.put l (.loop rec)) W1:=by
  intro b o e;by_cases y:b=l;·subst y;rw[C3]at e;grind
  ·rw[B9 _ _ y]at e;have h1:=r.sim b o e;grind
 refine⟨l,[{ target:=.collected W.heap.size,args:=#[] }],W1,{ target:=.fn (.func f) j,args:=first ++ #[.func (.yield l) #[] #[]] },W1,f,first ++ #[.func (.yield l) #[] #[]]++j,W1,?_,?_,fun _ _=>trivial,?_,(fun e=>by cases e),?_⟩
 ·rw[<- hW1,<- hl,<- hrec];simp[Instr.enterLoop,newObj,Sem.run_bind,Sem.run,Fence.wide];rfl
 ·have ec:a.eval (.const (.func (.yield l) #[] #[]))= .func (.yield l) #[] #[]:=rfl;simp[resolve,r.evalVal hev,Deferred.ofValue,ec]
 ·simp[invoke,N]
 ·refine callsIn_wide.2 ((hv l rec (G l oo) ?_ W1 S).mono ?_)
  ·
   intro args h1 J JR E y W2 aa
   obtain⟨vs,rfl,ae,y⟩:∃vs,args=vs/\vs.length=zs.length/\B vs h1 J JR:=by
    obtain⟨vs,ae,e,y⟩:=exL.out y;grind
   have A:W2.heap[l]? = some (.loop rec):=aa l _ (C3 h1 l _);have H:=Fj A;refine⟨fn,(ps.zip args.toArray).foldl (fun tmps (t,v)=>tmps.setIfInBounds t v) a.tmps,asg,body,?_,fun m=>?_⟩
   ·unfold Instr.yield;simp only[Sem.run_bind,T4 A,aC];rw[<- hrec];simp_all
   ·have ac:Sim h1 W2:=by
     intro b o e;have d:b≠l:=gz0;exact aa b o (by rw[B9 _ _ d];exact e)
    have hz:(ps.zip args.toArray).foldl (fun tmps (t,v)=>tmps.setIfInBounds t v) a.tmps=(ps.toList.zip args).foldl (fun tmps (t,v)=>tmps.setIfInBounds t v) a.tmps:=by
     rw[<- Array.foldl_toList];simp
    have gr:=g.round hps (vs:=args) ac;obtain⟨K2,ad,al⟩:=hQ l args h1 J JR _ _ y gr;rw[hz];refine roundIn_of_wpIn (F:=Fence.wide) trivial (ad m _ ?_);intro st1 h2 a2 W3 af g2
    have k:W3.heap[l]? = some (.loop rec):=by
     obtain⟨_,_,fr2,_⟩:=g2;rw[fr2.keep l H E];exact A
    refine⟨World.setO W3 l (.loop { rec with state:=.busy }),?_,?_⟩
    ·unfold Instr.beginRound;simp only[Sem.run_bind,T4 k,aC,Ay k gz0];rw[<- hrec];rfl
    ·have C:∀(u:Option aQ) (c:Loop) (bv:Bool),(c={ rec with state:=if u.isNone then .ready else .done,pending:=u })->bv=u.isNone->∀st' h' a' W',aI n h1 (World.setO W2 l (.loop { rec with state:=.busy })) st' h' a' W'->∀(X:VP),(∀p,p l=none->p=h'->X (.bool bv) (p.put l (.loop c)))->∃v w',(aO l u).run P W'= .ok v w'/\∃r h',(Ending.returned v)= .returned r/\X r h'/\Fr (h1.put l (.loop rec)) W2 h' w':=by
      intro u c bv Q ag st' h' a' W' R X hX;obtain⟨θ',r',s,_⟩:=R
      have L:W'.heap[l]? = some (.loop { rec with state:=.busy }):=by
       rw[s.keep l (by simpa[World.setO]using H) E];exact Fe A
      have ai:h' l=none:=by
       cases e:h' l with
       |none=>rfl
       |some o=>have:=s.new l o E e;simp[World.setO]at this;omega
      refine⟨.bool bv,World.setO W' l (.loop c),?_,.bool bv,h'.put l (.loop c),rfl,hX h' ai rfl,?_⟩
      ·unfold aO;simp only[Sem.run_bind,T4 L,aC,Ay L gz0];rw[Q,ag];rfl
      ·refine⟨fun b o e=>?_,s.os,s.tape,s.output,?_,fun b y e=>?_,fun b o e e'=>?_⟩
       ·by_cases y:b=l;·subst y;rw[C3]at e;cases e;exact Fe L
        ·rw[B9 _ _ y]at e;rw[F9 y];exact s.sim b o e
       ·have:=s.size;simpa[World.setO]using this
       ·have d:b≠l:=by rintro rfl;rw[C3]at e;cases e
        rw[B9 _ _ d]at e;rw[F9 d,s.keep b (by simpa[World.setO]using y) e,F9 d]
       ·have d:b≠l:=by rintro rfl;rw[C3]at e;cases e
        rw[B9 _ _ d]at e e';have:=s.new b o e e';simpa[World.setO]using this
     refine al (World.setO W2 l (.loop { rec with state:=.busy })) st1 h2 a2 _ m _ af (g2.setLoop E H k) ?_ ?_
     ·intro st' h' a' W' hJ R;exact C none rec true gz0 rfl st' h' a' W' R _ fun p z e3=>⟨p,z,.inl ⟨rfl,rfl,gz0⟩⟩
     ·intro st' h' a' W' hJ R;exact C (some .ret) (A6r rec) false rfl rfl st' h' a' W' R _ fun p z e3=>⟨p,z,.inr ⟨rfl,rfl,gz0⟩⟩
  ·have C:∀(c:Loop),c.state ≠ .busy->∀p,p l=none->∀W3,Fr (h.put l (.loop rec)) W1 (p.put l (.loop c)) W3->(aP l).run P W3= .ok c.pending (World.setO W3 l (.loop { c with state:=.exhausted }))/\aI n h0 W0 st p { a with defers:=[{ target:=.collected W.heap.size,args:=#[] }]++a.defers } (World.setO W3 l (.loop { c with state:=.exhausted })):=by
    intro c ah p z W3 i;have k:W3.heap[l]? = some (.loop c):=i.sim l _ (C3 p l _)
    have T:Fr h W p (World.setO W3 l (.loop { c with state:=.exhausted })):=by
     have M:W1.os=W.os/\W1.tape=W.tape/\W1.output=W.output:=gz0;refine⟨fun b o e=>?_,i.os.trans M.1,i.tape.trans M.2.1,i.output.trans M.2.2,?_,fun b y e=>?_,fun b o e e'=>?_⟩
     ·have d:b≠l:=gz0;rw[F9 d];exact i.sim b o (by rw[B9 _ _ d];exact e)
     ·have:=i.size;simp[World.setO];omega
     ·have d:b≠l:=oo;rw[F9 d,i.keep b oo (by rw[B9 _ _ d];exact e),O b y]
     ·have d:b≠l:=gz0;have:=i.new b o (by rw[B9 _ _ d];exact e) (by rw[B9 _ _ d];exact e');omega
    refine⟨?_,⟨θ,?_,fr.trans T,aj⟩⟩
    ·unfold aP;simp only[Sem.run_bind,T4 k,aC];rw[iN gz0];simp[Ay k gz0]
    ·have w:=r.world T;refine⟨?_,w.size,w.slot,w.sim,w.own,w.inj,w.wf,w.out⟩;obtain⟨rs,n1,n2,n3⟩:=w.defers;obtain⟨ak,m1,m2,m3⟩:=r.defers
     have am:rs=ak:=by
      have:=n2.symm.trans m2;exact(List.map_inj_right (fun a b e=>by injection e)).1 this
     refine⟨W.heap.size::rs,List.nodup_cons.2 ⟨fun hm=>?_,n1⟩,by simp[n2],fun q hq=>?_⟩;·grind
     ·rcases List.mem_cons.1 hq with rfl|hq
      ·refine⟨fr.size,?_,?_⟩
       ·cases e:p W.heap.size with
        |none=>rfl
        |some o=>
         have h4:=i.new W.heap.size o (by rw[B9 _ _ oo];grind) (by rw[B9 _ _ oo];exact e);omega
       ·rw[F9 oo,i.keep _ oo (by rw[B9 _ _ oo];grind)];exact V
      grind
   rintro e W3 ⟨rv,h2,rfl,⟨p,z,D⟩,i⟩;rcases D with⟨rfl,D⟩|⟨rfl,D⟩
   ·obtain⟨M,e2⟩:=C rec gz0 p z W3 i;refine⟨_,_,M,?_⟩;grind
   ·obtain⟨M,e2⟩:=C (A6r rec) (by intro e;cases e) p z W3 i;exact⟨_,_,M,wpIn_ret (hKR p _ _ D e2)⟩
def C5l(Q:Exit->Act->aE->Prop):Exit->Act->aE->Prop
 |.goto _,_,_=>False
 |e,a,w=>Q e a w
def At{b:Frame}{k:List Item}{cs:List Frame}{w:aE}{c:aQ}:step P (lone (b.atR a (.code (.scope c)::k)) cs w)= .next (lone (b.atR a (.code c :: .inScope c::k)) cs w):=step_lone_go (by rfl)
def Zb{b:Frame}{k:List Item}{cs:List Frame}{w:aE}{c:aQ}:step P (lone (b.atR a (.inScope c::k)) cs w)= .next (lone (b.atR a k) cs w):=step_lone_go (by rfl)
def A41{c:aQ}{Q:Exit->Act->aE->Prop}(h:c.wpIn F fu P (C5l Q) a W):(Code.scope c).wpIn F fu P Q a W:=by
 intro b k cs q p n;have g:(lone (b.atR a (.code (.scope c)::k)) cs W).fenced P F:=fenced_calm p n rfl;obtain⟨e,a₁,w₁,f,d⟩:=h b (.inScope c::k) cs q p n
 cases e with
 |normal=>exact⟨.normal,a₁,w₁,f,.head g At (StepsIn.trans d (.one (fenced_calm p n rfl) Zb))⟩
 |exit id'=>
  exact⟨.exit id',a₁,w₁,f,fun s r=>.head g At (d.1 s (by assumption)),
   fun m r=>let ⟨k₁,h1,h2⟩:=d.2 m (by assumption);⟨k₁,h1,.head g At h2⟩⟩
 |goto l=>exact f.elim
 |ret=>exact⟨_,a₁,w₁,f,.of_steps (.one g At) d⟩
 |panic ch=>exact⟨_,a₁,w₁,f,.of_steps (.one g At) d⟩
 |outgrown=>exact⟨_,a₁,w₁,f,.of_steps (.one g At) d⟩
def A9e{fa:FnAnn}(c:aQ):∀{F:Fence} [FOk F] {fu:Nat} {h0:aG} {W0:aE} (cfg:Cfg) (st:VS) (h:aG) (a:Act) (W:aE) (Q:Ex->VS->aG->Prop) (Q':Exit->Act->aE->Prop),cfg.n=n->Bodies P cfg.fns->(cfg.inr=false->F=Fence.wide)->aI n h0 W0 st h a W->
 V8 P fa c cfg st h Q->(∀e st' h' a' W',Q e st' h'->aI n h0 W0 st' h' a' W'->Agree cfg.lim st st'->Q' e.toExit a' W')->c.wpIn F fu P Q' a W:=by
 induction c with
 |skip=>exact fun {F} _ {fu h0 W0} cfg st h a W Q Q' q s w g f m=>wpIn_skip (m .normal st h a W f g (Agree.refl _ _))
 |region id ops draw=>
  intro F _ fu h0 W0 cfg st h a W Q Q' q s w g f m
  cases draw with
  |false=>exact wpIn_region (B5z q s _ st h a W g f fun st' h' a' W' d i u=>m .normal st' h' a' W' d i u)
  |true=>
   obtain⟨p,f⟩:=f.both;exact A98 q s p g f fun st' h' a' W' d i u=>m .normal st' h' a' W' d i u
 |seq x y ihx ihy=>
  intro F _ fu h0 W0 cfg st h a W Q Q' q s w g f m;unfold V8 at f;split at f
  ·refine wpIn_seq (ihx cfg st h a W _ _ q s w g f fun e st' h' a' W' d i u=>?_)
   cases e with
   |normal=>exact ihy cfg st' h' a' W' Q Q' q s w i d fun e L B S W2 k O H=>m e L B S W2 k O (u.trans H)
   |exit id=>exact m (.exit id) st' h' a' W' d i u
   |ret=>exact m .ret st' h' a' W' d i u
  ·rename_i C _;obtain⟨p,J,ae,af⟩:=f.both;refine wpIn_seq (ihx (cfg.within C) st h a W _ _ q s w g ae fun e st' h' a' W' d i u=>?_)
   cases e with
   |normal=>
    obtain⟨xs,ys,hx,hy,N,hJ⟩:=d.out;obtain⟨hl,hz⟩:=Um N;have E:=allL.at af hl hz h' hJ;exact ihy cfg _ h' a' W' Q Q' q s w (i.head p u g.wf q hx hy) E fun e L B S W2 k O H=>m e L B S W2 k O (((Agree.head p _).within p).trans H)
   |exit id=>exact m (.exit id) st' h' a' W' d i (u.within p)
   |ret=>exact m .ret st' h' a' W' d i (u.within p)
 |cond c x y ihx ihy=>
  intro F _ fu h0 W0 cfg st h a W Q Q' q s w g f m;unfold V8 at f;split at f
  ·rename_i b E;obtain⟨θ,r,_,_⟩:=id g
   cases b with
   |true=>exact wpIn_cond_true (r.evalVal E) (ihx cfg st h a W Q Q' q s w g f m)
   |false=>exact wpIn_cond_false (r.evalVal E) (ihy cfg st h a W Q Q' q s w g f m)
  grind
 |block id b ih=>
  intro F _ fu h0 W0 cfg st h a W Q Q' q s w g f m;refine wpIn_block (ih cfg st h a W _ _ q s w g f fun e st' h' a' W' d i u=>?_)
  cases e with
  |normal=>exact m .normal st' h' a' W' d i u
  |ret=>exact m .ret st' h' a' W' d i u
  |exit j=>
   by_cases hj:j=id
   ·subst hj;have d:Q .normal st' h':=by simp_all
    show Exit.inBlock j Q' (.exit j) a' W';simp only[Exit.inBlock,if_true];exact m .normal st' h' a' W' d i u
   ·have d:Q (.exit j) st' h':=by simp_all
    show Exit.inBlock id Q' (.exit j) a' W';simp only[Exit.inBlock,hj,if_false];exact m (.exit j) st' h' a' W' d i u
 |loop b ih=>
  intro F _ fu h0 W0 cfg st h a W Q Q' q s w g f m;unfold V8 at f;split at f;·exact f.elim
  ·rename_i C _;obtain⟨p,Inv,μ,V,B⟩:=f.both;obtain⟨xs,ys,hx,hy,N,hI⟩:=V.out;have X:=g.wf;refine Ys (fun(z:List aD×aG) a' W'=>Qd C.zs z.1=true/\Inv z.1 z.2/\aI n h0 W0 (Ds C st z.1) z.2 a' W') (fun z=>μ z.1 z.2) (xs++ys,h) ⟨N,hI,g.head p (Agree.refl _ _) X q hx hy⟩ ?_;intro z a1 W1 ⟨hk1,hI1,g1⟩;obtain⟨hl,hz⟩:=Um hk1;have E:=allL.at B hl hz z.2 hI1;refine ih (cfg.within C) _ z.2 a1 W1 _ _ q s w g1 E fun e st' h' a' W' d i u=>?_;have R:Agree (some C.lim) st st':=(Agree.head p _).trans u
   cases e with
   |normal=>
    obtain⟨ad,ai,ac,ak,ah,al,hμ⟩:=d.out;exact⟨(ad++ai,h'),⟨ah,al,i.head p R X q ac ak⟩,hμ⟩
   |exit id=>exact m (.exit id) st' h' a' W' d i (R.within p)
   |ret=>exact m .ret st' h' a' W' d i (R.within p)
 |exit id=>exact fun {F} _ {fu h0 W0} cfg st h a W Q Q' q s w g f m=>wpIn_exit (m (.exit id) st h a W f g (Agree.refl _ _))
 |ret=>exact fun {F} _ {fu h0 W0} cfg st h a W Q Q' q s w g f m=>wpIn_ret (m .ret st h a W f g (Agree.refl _ _))
 |rangeFunc x ps asg body iha ihb=>
  intro F _ fu h0 W0 cfg st h a W Q Q' q s w g f m;unfold V8 at f;split at f
  ·rename_i v zs T am;obtain⟨p,f⟩:=f.both;simp only[aF,Bool.not_eq_true',aJ]at p;obtain⟨⟨G,an⟩,aa⟩:=p;obtain rfl:=w aa;split at f
   ·refine A4v g T (aK G) (fun t ht=>by simp_all) f ?_ (fun h' a' W' d i=>m .normal st h' a' W' d i (Agree.refl _ _));intro l vs V J a1 W1 E g1
    refine⟨fun D B=>V8 P fa body { cfg with lim:=none,inr:=true } D B fun e _ h3=>
      match e with
      |.normal=>J h3
      |_=>False,fun M Q2 A=>?_,fun W1' D B S W2 M Q2 N O A=>?_⟩
    ·refine iha (F:=Fence.wide.inRound l) { cfg with lim:=none,inr:=true } _ V a1 W1 _ _ q s (fun e=>by cases e) g1 E fun e st' h' a' W' d i _=>?_
     cases e with
     |normal=>exact A st' h' a' W' d i
     |_=>exact d.elim
    ·refine ihb (F:=Fence.wide.inRound l) { cfg with lim:=none,inr:=true } _ B S W2 _ _ q s (fun e=>by cases e) O N fun e st' h' a' W' d i _=>?_
     cases e with
     |normal=>exact A st' h' a' W' d i
     |_=>exact d.elim
   ·refine A1y g T (aK G) (fun t ht=>by simp_all) f ?_ (fun h' a' W' d i=>m .normal st h' a' W' d i (Agree.refl _ _)) (fun h' a' W' d i=>m .ret st h' a' W' d i (Agree.refl _ _));intro l vs V J JR a1 W1 E g1
    refine⟨fun D B=>V8 P fa body { cfg with lim:=none,inr:=true } D B fun e _ h3=>
      match e with
      |.normal=>J h3
      |.ret=>JR h3
      |_=>False,fun M Q2 A=>?_,fun W1' D B S W2 M Q2 N O A aj=>?_⟩
    ·refine iha (F:=Fence.wide.inRound l) { cfg with lim:=none,inr:=true } _ V a1 W1 _ _ q s (fun e=>by cases e) g1 E fun e st' h' a' W' d i _=>?_
     cases e with
     |normal=>exact A st' h' a' W' d i
     |_=>exact d.elim
    ·refine ihb (F:=Fence.wide.inRound l) { cfg with lim:=none,inr:=true } _ B S W2 _ _ q s (fun e=>by cases e) O N fun e st' h' a' W' d i _=>?_
     cases e with
     |normal=>exact A st' h' a' W' d i
     |ret=>exact aj st' h' a' W' d i
     |exit _=>exact d.elim
  grind
 |scope b ih=>
  intro F _ fu h0 W0 cfg st h a W Q Q' q s w g f m;refine A41 (ih cfg st h a W Q (C5l Q') q s w g f fun e st' h' a' W' d i u=>?_)
  cases e with
  |normal=>exact m .normal st' h' a' W' d i u
  |exit id=>exact m (.exit id) st' h' a' W' d i u
  |ret=>exact m .ret st' h' a' W' d i u
 |label l=>exact fun {F} _ {fu h0 W0} cfg st h a W Q Q' q s w g f m=>wpIn_label (m .normal st h a W f g (Agree.refl _ _))
 |_=>intro F _ fu h0 W0 cfg st h a W Q Q' q s w g f m;exact f.elim
def B6u(args:List aD):VS:={ env:=fun i=>.val (args.getD i undef),own:=fun _=>none }
def A6p(P:aL)(st:VS):ResultVar->Option aD
 |.tmp t=>match st.env t with
  |.val v=>some v
  |_=>none
 |.cell a t=>match st.env a with
  |.own k off=>match st.own k with
   |some cs=>match Oe P t with
    |some true=>bif Nat.ble (off+P.cellsOf t) cs.length then some (.agg ((cs.drop off).take (P.cellsOf t)).toArray)else none
    |some false=>cs[off]?
    |none=>none
   |none=>none
  |_=>none
def Zh(P:aL)(st:VS):List ResultVar->Option (List aD)
 | []=>some []
 |r::rs=>match A6p P st r with
  |some v=>match Zh P st rs with
   |some vs=>some (v::vs)
   |none=>none
  |none=>none
def B6b(P:aL)(st:VS)(h:aG):List ResultVar->(List aD->Prop)->Prop
 | [],C=>C []
 |.tmp t::rs,C=>match st.env t with
  |.val v=>B6b P st h rs fun vs=>C (v::vs)
  |_=>False
 |.cell x t::rs,C=>match st.env x with
  |.own k off=>match st.own k with
   |some cs=>Ah P t cs off fun w=>match w with
    |.val v=>B6b P st h rs fun vs=>C (v::vs)
    |_=>False
   |none=>False
  |.val (.pointer (some p))=>Ai P t p h fun w=>match w with
   |.val v=>B6b P st h rs fun vs=>C (v::vs)
   |_=>False
  |_=>False
def Pk:List aD->aD
 | [v]=>v
 |vs=>.tuple vs.toArray
def A4n(P:aL)(rs:List ResultVar)(K:VP)(e:Ex)(st:VS)(h:aG):Prop:=
 match e with
 |.exit _=>False
 |_=>match Zh P st rs with
  |some c=>K (Pk c) h
  |none=>B6b P st h rs fun c=>K (Pk c) h
def C39(P:aL)(fa:FnAnn)(cfg:Cfg)(rs:List ResultVar)(c:aQ)(args:List aD)(h:aG)(K:VP):Prop:=V8 P fa c cfg (B6u args) h fun e d f=>A4n P rs K e d f
def A8c{θ:Nat->Nat}(r:Rel s0 n θ st h a W){rv:ResultVar}{v:aD}(e:A6p P st rv=some v):
 (match rv with
  |.tmp t=>(pure (a.tmps.getD t undef):Sem aD)
  |.cell x t=>do loadVar t (<- asAddr (a.tmps.getD x undef))).run P W= .ok v W:=by
 cases rv with
 |tmp t=>
  simp only[A6p]at e;have:=r.slot' t;split at e
  ·rename_i u c;rw[c]at this;have this:a.tmps.getD t undef=u:=this;simp_all
  ·cases e
 |cell x t=>
  simp only[A6p]at e;have f:=r.slot' x;split at e
  ·rename_i k off j;rw[j]at f;have f:a.tmps.getD x undef= .pointer (some ⟨θ k,off,none⟩):=f;split at e
   ·rename_i cs g
    have l:Ah P t cs off fun w=>w= .val v:=by
     split at e
     ·rename_i d
      cases hb:Nat.ble (off+P.cellsOf t) cs.length with
      |false=>grind
      |true=>
       rw[hb]at e;injection e with e;unfold Ah;rw[d];simp only[Lm d,hb,Bool.and_self];show _=_;rw[e]
     ·unfold Ah;grind
     ·cases e
    obtain⟨u,c,i⟩:=Gv r g l;injection c with c;subst c;simp only[aR,aN,Sem.run_bind,Sem.run_pure,aC]at i;simp only[f,asAddr,Sem.run_bind,Sem.run_pure,aC,i]
   ·cases e
  ·cases e
def To{θ:Nat->Nat}(r:Rel s0 n θ st h a W)(rs:List ResultVar):∀{vs:List aD},Zh P st rs=some vs->
 (rs.mapM fun(rv:ResultVar)=>match rv with
  |.tmp t=>(pure (a.tmps.getD t undef):Sem aD)
  |.cell x t=>do loadVar t (<- asAddr (a.tmps.getD x undef))).run P W= .ok vs W:=by
 induction rs with
 |nil=>intro vs e;injection e with e;simp_all
 |cons rv rs ih=>
  intro vs e;unfold Zh at e;split at e
  ·rename_i v d;split at e
   ·rename_i f c;injection e with e;subst e;rw[List.mapM_cons];simp only[Sem.run_bind,A8c r d,aC,ih c,Sem.run_pure]
   ·cases e
  ·cases e
def A6q{θ:Nat->Nat}(r:Rel s0 n θ st h a W)(rs:List ResultVar):∀{C:List aD->Prop},B6b P st h rs C->∃vs,C vs/\
 (rs.mapM fun(rv:ResultVar)=>match rv with
  |.tmp t=>(pure (a.tmps.getD t undef):Sem aD)
  |.cell x t=>do loadVar t (<- asAddr (a.tmps.getD x undef))).run P W= .ok vs W:=by
 induction rs with
 |nil=>intro C e;exact⟨[],e,by simp⟩
 |cons rv rs ih=>
  intro C e
  have next:∀(v:aD),(match rv with
   |.tmp t=>(pure (a.tmps.getD t undef):Sem aD)
   |.cell x t=>do loadVar t (<- asAddr (a.tmps.getD x undef))).run P W= .ok v W->(B6b P st h rs fun vs=>C (v::vs))->∃vs,C vs/\
  ((rv::rs).mapM fun(rv:ResultVar)=>match rv with
   |.tmp t=>(pure (a.tmps.getD t undef):Sem aD)
   |.cell x t=>do loadVar t (<- asAddr (a.tmps.getD x undef))).run P W= .ok vs W:=by
   intro v m g;obtain⟨q,l,d⟩:=ih g;simp_all
  cases rv with
  |tmp t=>
   unfold B6b at e;have:=r.slot' t;split at e
   ·rename_i u f;rw[f]at this;have this:a.tmps.getD t undef=u:=this;exact next u (by simp_all) e
   grind
  |cell x t=>
   unfold B6b at e;have c:=r.slot' x;split at e
   ·rename_i k off g;rw[g]at c;have c:a.tmps.getD x undef= .pointer (some ⟨θ k,off,none⟩):=c;split at e
    ·rename_i cs i;obtain⟨u,f,d⟩:=Gv r i e;refine next u ?_ f;simp only[aR,aN,Sem.run_bind,Sem.run_pure,aC]at d;simp only[c,asAddr,Sem.run_bind,Sem.run_pure,aC,d]
    grind
   ·rename_i p j;rw[j]at c;have c:a.tmps.getD x undef= .pointer (some p):=c;obtain⟨u,f,d⟩:=Kh r.sim e;refine next u ?_ f;simp only[aR,aN,Sem.run_bind,Sem.run_pure,aC]at d;simp only[c,asAddr,Sem.run_bind,Sem.run_pure,aC,d]
   grind
def Kn(fn:Func):aQ:=
 match fn.body with
 |some c=>c
 |none=>.skip
def Bodies.nil:Bodies P []:=fun g c=>by cases c
def B6{g:Nat}{l:List Nat}(hg:∀args W,(callFunc g args).run P W= .ok (.enter g args) W)(hl:Bodies P l):Bodies P (g::l):=fun k c=>by
 cases c with
 |head=>exact hg
 |tail _ c=>exact hl k c
def Rp{r:Nat}(e:W.heap[r]? = some (.deferred (some []))):(Instr.takeDeferred r).run P W= .ok [] (World.setO W r (.deferred none)):=by simp[Instr.takeDeferred,getObj,Sem.run_bind,Sem.run,e,Ay e gz0]
def B1p{fn:Func}{tmps:Array aD}{R:Ending->aE->Prop}:∀(ds:List Deferred) (W:aE) (rs:List Nat),rs.Nodup->ds.map (·.target)=rs.map Target.collected->(∀r∈rs,W.heap[r]? = some (.deferred (some [])))->
 (∀W2:aE,W2.os=W.os->W2.tape=W.tape->W2.output=W.output->W2.heap.size=W.heap.size->(∀b,b∉rs->W2.heap[b]? = W.heap[b]?)->∃v,(results fn tmps).run P W2= .ok v W2/\R (.returned v) W2)->
 LeavesInM Fence.wide 0 P fn tmps R ds .returning W:=by
 intro ds
 induction ds with
 |nil=>
  intro W rs _ e _ x;exact x W rfl rfl rfl rfl (fun _ _=>rfl)
 |cons d ds ih=>
  intro W rs i e m x
  cases rs with
  |nil=>cases e
  |cons r rs=>
   simp only[List.map_cons,List.cons.injEq]at e;have j:=m r (by simp);obtain⟨n,f⟩:=List.nodup_cons.1 i;refine⟨by simp,.inl ⟨r,_,e.1,Rp j,ih _ rs f e.2 (fun q t=>?_) (fun W2 k l p g s=>x W2 k l p (by rw[g];simp[World.setO]) (fun b c=>?_))⟩⟩;·rw[F9 gz0];grind
   ·simp only[List.mem_cons,not_or]at c;rw[s b c.2,F9 c.1]
def A7g{f:FuncId}{fn:Func}(hf:P.funcs[f]? = some fn){c:aQ}(hb:fn.body=some c){rs:List ResultVar}(hr:fn.results.toList=rs){fa:FnAnn}{cfg:Cfg}{args:List aD}(hn:cfg.n=args.length+(fn.ntmps-args.length))(hfn:Bodies P cfg.fns){h:aG}{K:VP}
 (hv:C39 P fa cfg rs c args h K):FCall P f args.toArray h K:=by
 intro W H;subst hr
 have g:aI cfg.n h W (B6u args) h { tmps:=args.toArray++Array.replicate (fn.ntmps-args.toArray.size) undef,defers:=[] } W:=by
  refine⟨fun _=>0,⟨MarksOk.nil,by simp[hn],fun i V=>?_,H,(fun k cs e=>by cases e),(fun k k' C=>by cases C),(fun i k off e=>by cases e),fun i V=>?_⟩,Fr.refl H,(fun k C=>by cases C)⟩
  ·show _=args.getD i undef;rcases Nat.lt_or_ge i args.length with x|x;·simp_all
   simp_all
  ·show AVal.val (args.getD i undef)=_;grind
 refine callsIn_wide.1 (callsIn_of_wp_marks (n:=0) hf hb trivial (A9e c (F:=Fence.wide) cfg _ h _ W _ _ rfl hfn (fun _=>rfl) g hv fun e B s z W' d Q _=>?_));obtain⟨θ,r,u,_⟩:=Q
 have m:(∀{a2:Act} {W2:aE},Rel W.heap.size cfg.n θ B s a2 W2->∃j,K (Pk j) s/\(fn.results.toList.mapM fun(rv:ResultVar)=>match rv with
  |.tmp t=>(pure (a2.tmps.getD t undef):Sem aD)
  |.cell x t=>do loadVar t (<- asAddr (a2.tmps.getD x undef))).run P W2= .ok j W2)->bodyPostM Fence.wide 0 P fn (fun e W'=>∃r s,e= .returned r/\K r s/\Fr h W s W') .ret z W':=by
  intro A;obtain⟨rs,N,R,D⟩:=r.defers;refine B1p z.defers W' rs N R (fun q O=>(D q O).2.2) ?_;intro W2 L S M T G
  have fr2:Fr h W s W2:=by
   refine⟨fun b o e=>?_,L.trans u.os,S.trans u.tape,M.trans u.output,by rw[T];exact u.size,fun b hb e=>?_,u.new⟩;·rw[G b (fun E=>gz0)];exact u.sim b o e
   ·rw[G b (fun E=>gz0)];exact u.keep b hb e
  have p:Rel W.heap.size cfg.n θ B s { z with defers:=[] } W2:=by
   refine⟨MarksOk.nil,r.size,r.slot,fr2.sim,fun k cs e=>?_,r.inj,r.wf,r.out⟩;obtain⟨t,g1,X⟩:=r.own k cs e;grind
  obtain⟨j,d,E⟩:=A p;refine⟨Pk j,?_,_,s,rfl,d,fr2⟩
  have e:(results fn z.tmps).run P W2=((fn.results.toList.mapM (fun(rv:ResultVar)=>match rv with
   |.tmp t=>(pure (z.tmps.getD t undef):Sem aD)
   |.cell x t=>do loadVar t (<- asAddr (z.tmps.getD x undef)))).run P W2).andThen fun l w=>.ok (if h:l.toArray.size=1 then l.toArray[0]else .tuple l.toArray) w:=by
   unfold results;rw[Sem.run_bind,Array.mapM_eq_mapM_toList];simp only[map_eq_pure_bind,Sem.run_bind];generalize Sem.run P _ W2=x;cases x<;>simp
  rw[e,E,aC]
  cases j with
  |nil=>rfl
  |cons v j=>cases j<;>rfl
 cases e with
 |exit id=>exact d.elim
 |normal=>
  unfold A4n at d;split at d;·exact d.elim
  ·split at d;·rename_i j y;exact m fun p=>⟨j,d,To (P:=P) p fn.results.toList y⟩
   ·exact m fun p=>A6q (P:=P) p fn.results.toList d
 |ret=>
  unfold A4n at d;split at d;·exact d.elim
  ·split at d;·rename_i j y;exact m fun p=>⟨j,d,To (P:=P) p fn.results.toList y⟩
   ·exact m fun p=>A6q (P:=P) p fn.results.toList d
def C51{L:List Nat}(hL:Bodies P L){f:FuncId}{fn:Func}(hf:P.funcs[f]? = some fn)(rs:List ResultVar)(fa:FnAnn)(n:Nat)(own fns wr:List Nat){args:List aD}{h:aG}{K:VP}{T:Prop}
 (e:(fn.body.isSome,fn.results.toList,n,fns.all (has L),C39 P fa { n:=n,own:=own,lim:=none,fns:=fns,wr:=wr } rs (Kn fn) args h K)=(true,rs,args.length+(fn.ntmps-args.length),true,T)) (hvc:T):FCall P f args.toArray h K:=by
 simp only[Prod.mk.injEq]at e;obtain⟨m,l,d,i,c⟩:=e
 have j:fn.body=some (Kn fn):=by
  unfold Kn;grind
 exact A7g hf j l d (fun g k=>hL g (Be.1 (List.all_eq_true.1 i g k))) (c.mpr hvc)
end
abbrev I(n:Int):aD:=.int .i64 n
abbrev I32(n:Int):aD:=.int .i32 n
abbrev U(n:Int):aD:=.int .u64 n
abbrev U32(n:Int):aD:=.int .u32 n
abbrev Y(n:Int):aD:=.int .u8 n
abbrev C4(n:Int):Int:=IntKind.i64.wrap n
abbrev C5w(n:Int):Int:=IntKind.i32.wrap n
abbrev C8(n:Int):Int:=IntKind.u64.wrap n
abbrev J7(n:Int):Int:=IntKind.u32.wrap n
abbrev wu8(n:Int):Int:=IntKind.u8.wrap n
def A0y(k:IntKind)(x y:Int):Int:=k.wrap (BitVec.ofInt k.bits x &&& BitVec.ofInt k.bits y).toNat
def bor(k:IntKind)(x y:Int):Int:=k.wrap (BitVec.ofInt k.bits x ||| BitVec.ofInt k.bits y).toNat
def C64(k:IntKind)(x y:Int):Int:=k.wrap (BitVec.ofInt k.bits x ^^^ BitVec.ofInt k.bits y).toNat
def B9m(k:IntKind)(x y:Int):Int:=k.wrap (BitVec.ofInt k.bits x &&& ~~~BitVec.ofInt k.bits y).toNat
