/- A part. -/
import Derived.Test.YteppbhimdjmabaaGreatDoorG03
set_option linter.all false
open Bool renaming and_eq_true->aH
open _root_.Go.Instr renaming sureAddr->aP,endRound->aQ,endLoop->aR,loadAt->aT
open List renaming all_eq_true->aL,drop_length_add_append->aO
open Nat renaming beq->aJ,eq_of_beq_eq_true->aM
open _root_.Go.Result renaming andThen_ok->aC
open _root_ renaming Nat->J,List->Z
open _root_.Go renaming Value->aE,World->aF,Program->aN,Code->aS
open _root_.Go.Proofs.YteppbhimdjmabaaGreatDoor renaming Heap->aI,Good->aK
namespace Go.Proofs.YteppbhimdjmabaaGreatDoor
open Go
inductive Ex where
 | normal
 | exit (id:J)
 | ret
structure Ann where
 slots:Z J
 owns:Z (J × J)
 zs:Z aE
 lim:Lim
structure FnAnn where
 loops:Z (J × Ann):=[]
 cuts:Z (J × Ann):=[]
 orders:Z (J × Z J × Z (Z J)):=[]
 rounds:Z (J × Z aE):=[]
 alts:Z (J × Z (J × Z J)):=[]
def an0:FnAnn:=⟨[],[],[],[],[]⟩
def Jn{α:Type}:Z (J×α)->J->Option α
 | [],_=>none
 | (k,x)::r,i=>bif aJ i k then some x else Jn r i
def C7q(l m:Z J):Z J:=m.foldr (fun x l=>bif has l x then l else x::l) l
def B4q:Z Oper->Z (Z J)->Z (Z J)
 | [],acc=>acc
 |o::r,acc=>B4q r (acc++[o.after.toList.foldr (fun e l=>bif Region.binds .any e then C7q l (e.on::acc.getD e.on [])else l) []])
def C7j(fa:FnAnn)(id:J)(ops:Array Oper):Z J×Z (Z J):=
 match Jn fa.orders id with
 |none=>(List.range ops.size,B4q ops.toList [])
 |some (o,[])=>(o,B4q ops.toList [])
 |some (o,a::l)=>(o,a::l)
def K5:aS->Option J
 |.region id _ _=>some id
 |.seq a b=>match K5 a with
  |some i=>some i
  |none=>K5 b
 |.block _ b=>K5 b
 |.loop b=>K5 b
 |.scope b=>K5 b
 |.cond _ a b=>match K5 a with
  |some i=>some i
  |none=>K5 b
 |_=>none
def A6t:Z J->J->J->Option J
 | [],_,_=>none
 |x::xs,i,j=>bif aJ i x then some j else A6t xs i (j+1)
def Hv:Z (J×J)->J->J->Option (J×J)
 | [],_,_=>none
 | (k,n)::r,i,j=>bif aJ i k then some (j,n)else Hv r i (j+n)
def Ep(ann:Ann)(st:VS)(vs:Z aE):VS:=
 { env:=fun i=>match A6t ann.slots i 0 with
    |some j=>.val (vs.getD j undef)
    |none=>bif has ann.lim.slots i then .any else st.env i
   own:=fun k=>match Hv ann.owns k ann.slots.length with
    |some (j,n)=>some ((vs.drop j).take n)
    |none=>st.own k }
def Er(st:VS):Z J->Option (Z aE)
 | []=>some []
 |i::is=>match st.env i with
  |.val v=>match Er st is with
   |some vs=>some (v::vs)
   |none=>none
  |_=>none
def Rm(st:VS):Z (J×J)->Option (Z aE)
 | []=>some []
 | (k,n)::r=>match st.own k with
  |some cs=>bif aJ cs.length n then(match Rm st r with
   |some vs=>some (cs++vs)
   |none=>none)else none
  |none=>none
def Rl:Z aE->Z aE->Bool
 | [],[]=>true
 |z::zs,v::vs=>A4i z v&&Rl zs vs
 |_,_=>false
def keep(ann:Ann)(st:VS)(h:aI)(K:LP):Prop:=
 match Er st ann.slots with
 |some xs=>match Rm st ann.owns with
  |some ys=>When (Rl ann.zs (xs++ys)) (K (xs++ys) h)
  |none=>False
 |none=>False
def Sy(cfg:Cfg)(ann:Ann)(st:VS):Bool:=
 ann.lim.slots.all (fun d=>A4h cfg d)&&ann.lim.keys.all (fun k=>A4j cfg.lim k&&((st.own k).isNone||(Hv ann.owns k 0).isSome)) &&
 ann.slots.all (has ann.lim.slots)&&ann.owns.all (fun p=>has ann.lim.keys p.1)&&kindsLen ann
where
 kindsLen (ann:Ann):Bool:=aJ ann.zs.length (ann.slots.length+ann.owns.foldr (fun p s=>p.2+s) 0)
def Cfg.within(cfg:Cfg)(ann:Ann):Cfg:={ n:=cfg.n,own:=cfg.own,lim:=some ann.lim,fns:=cfg.fns,wr:=cfg.wr,inr:=cfg.inr }
def C2r(ann:Ann)(cfg:Cfg)(body:Cfg->VS->aI->(Ex->VS->aI->Prop)->Prop)(st:VS)(h:aI)(Q:Ex->VS->aI->Prop):Prop:=
 When (Sy cfg ann st) <|
 ∃(Inv:LP) (μ:Z aE->aI->J),keep ann st h Inv/\
  allL ann.zs fun d=>∀h,Inv d h->body (cfg.within ann) (Ep ann st d) h fun e a b=>
   match e with
   |.normal=>keep ann a b fun c b=>Inv c b/\μ c b<μ d h
   |e=>Q e a b
def C6b(ann:Ann)(cfg:Cfg)(a b:Cfg->VS->aI->(Ex->VS->aI->Prop)->Prop)(st:VS)(h:aI)(Q:Ex->VS->aI->Prop):Prop:=
 When (Sy cfg ann st) <|
 ∃jq9:LP,(a (cfg.within ann) st h fun e c d=>
  match e with
  |.normal=>keep ann c d jq9
  |e=>Q e c d)/\
  allL ann.zs fun f=>∀h,jq9 f h->b cfg (Ep ann st f) h Q
def B72:AVal->AVal
 |.own _ _=>.any
 |v=>v
def putAll:VS->Z J->Z aE->VS
 |st,t::ts,v::vs=>putAll (st.put t (.val v)) ts vs
 |st,_,_=>st
def Qt(st:VS)(ps:Z J)(vs:Z aE):VS:=putAll { env:=fun i=>B72 (st.env i),own:=fun _=>none } ps vs
def Y2(P:aN)(fa:FnAnn):aS->Cfg->VS->aI->(Ex->VS->aI->Prop)->Prop
 |.skip,_,st,h,Q=>Q .normal st h
 |.region id ops draw,cfg,st,h,Q=>
  match draw with
  |false=>B5p P cfg ops false (List.range ops.size) st h (Q .normal)
  |true=>
   match C7j fa id ops with
   | (ord,anc)=>When (B47 P ops ord anc) (Hr P cfg ops anc (fun j=>((Jn fa.alts id).bind (fun l=>Jn l j)).getD []) ord.length ord st h (Q .normal))
 |.seq a b,cfg,st,h,Q=>
  match (K5 b).bind (Jn fa.cuts)with
  |none=>Y2 P fa a cfg st h fun e st' h'=>
   match e with
   |.normal=>Y2 P fa b cfg st' h' Q
   |e=>Q e st' h'
  |some ann=>C6b ann cfg (Y2 P fa a) (Y2 P fa b) st h Q
 |.cond c t e,cfg,st,h,Q=>
  match D6 st c with
  |.val (.bool b)=>Br b (Y2 P fa t cfg st h Q) (Y2 P fa e cfg st h Q)
  |_=>False
 |.block id b,cfg,st,h,Q=>Y2 P fa b cfg st h fun e st' h'=>
  match e with
  |.exit j=>bif aJ j id then Q .normal st' h' else Q (.exit j) st' h'
  |e=>Q e st' h'
 |.loop b,cfg,st,h,Q=>
  match (K5 b).bind (Jn fa.loops)with
  |none=>False
  |some ann=>C2r ann cfg (Y2 P fa b) st h Q
 |.rangeFunc g ps asg body,cfg,st,h,Q=>
  match D6 st g,(K5 body).bind (Jn fa.rounds)with
  |.val v,some zs=>
   When (aJ zs.length ps.size&&ps.toList.all (fun t=>Nat.blt t cfg.n) && !cfg.inr)
    (match (K5 body).bind fun i=>Jn fa.rounds (i+1000000)with
    |none=>A9d P v h (fun args h1 jq9=>exL zs fun vs=>args=vs/\Y2 P fa asg { cfg with lim:=none,inr:=true } (Qt st ps.toList vs) h1 fun e st1 h2=>
     match e with
     |.normal=>Y2 P fa body { cfg with lim:=none,inr:=true } st1 h2 fun e _ h3=>
      match e with
      |.normal=>jq9 h3
      |_=>False
     |_=>False) (Q .normal st)
    |some _=>A9c P v h (fun args h1 jq9 JR=>exL zs fun vs=>args=vs/\Y2 P fa asg { cfg with lim:=none,inr:=true } (Qt st ps.toList vs) h1 fun e st1 h2=>
     match e with
     |.normal=>Y2 P fa body { cfg with lim:=none,inr:=true } st1 h2 fun e _ h3=>
      match e with
      |.normal=>jq9 h3
      |.ret=>JR h3
      |_=>False
     |_=>False) (Q .normal st) (Q .ret st))
  |_,_=>False
 |.exit id,_,st,h,Q=>Q (.exit id) st h
 |.ret,_,st,h,Q=>Q .ret st h
 |.scope b,cfg,st,h,Q=>Y2 P fa b cfg st h Q
 |.label _,_,st,h,Q=>Q .normal st h
 |_,_,_,_,_=>False
section
variable {P:aN} {s0:J} {F:Fence} {fu:J} {n:J} {st:VS} {h:aI} {a:Act} {W:aF}
def Zg{l:Z J}:∀{i j p:J},A6t l i j=some p->∃q,p=j+q/\l[q]? = some i:=by
 induction l with
 |nil=>intro i j p e;cases e
 |cons x xs ih=>
  intro i j p e;unfold A6t at e
  cases hb:aJ i x with
  |true=>
   simp_all
  |false=>
   rw[hb]at e;obtain⟨q,a,hl⟩:=ih e;exact⟨q+1,o,by assumption⟩
def A77{l:Z J}:∀{vs:Z aE} {q i:J},Er st l=some vs->l[q]? = some i->∃v,vs[q]? = some v/\st.env i= .val v:=by
 induction l with
 |nil=>grind
 |cons x xs ih=>
  intro vs q i a e;unfold Er at a;grind
def Wm{l:Z J}:∀{vs:Z aE},Er st l=some vs->vs.length=l.length:=by
 induction l with
 |nil=>intro vs e;injection e with e;grind
 |cons x xs ih=>
  intro vs a;unfold Er at a;grind
def B0i{l:Z (J×J)}:∀{vs:Z aE} {k j p m:J},Rm st l=some vs->Hv l k j=some (p,m)->∃q,p=j+q/\st.own k=some ((vs.drop q).take m):=by
 induction l with
 |nil=>intro vs k j p m _ e;cases e
 |cons x xs ih=>
  obtain⟨g,d⟩:=x;intro vs k j p m a e;unfold Rm at a;split at a
  ·rename_i cs i
   cases hb:aJ cs.length d with
   |false=>grind
   |true=>
    rw[hb]at a;have b:=aM hb;split at a
    ·rename_i r c;injection a with a;subst a;unfold Hv at e
     cases hk:aJ k g with
     |true=>
      simp_all
     |false=>
      rw[hk]at e;obtain⟨q,n,f⟩:=ih c e;refine⟨d+q,o,?_⟩;rw[f,<- b,aO]
    ·cases a
  ·cases a
def Wk{zs:Z aE}:∀{vs:Z aE},Rl zs vs=true->vs.length=zs.length/\∀p∈zs.zip vs,A4i p.1 p.2=true:=by
 induction zs with
 |nil=>
  intro vs e
  cases vs with
  |nil=>simp_all
  |cons=>cases e
 |cons z zs ih=>
  intro vs e
  cases vs with
  |nil=>cases e
  |cons v vs=>
   simp only[Rl,aH]at e;obtain⟨hl,a⟩:=ih e.2;simp_all
def keep.out{ann:Ann}{K:LP}(x:keep ann st h K):∃xs ys,Er st ann.slots=some xs/\Rm st ann.owns=some ys/\Rl ann.zs (xs++ys)=true/\K (xs++ys) h:=by unfold keep at x;split at x;{split at x;{rename_i xs b _ ys a;exact⟨xs,ys,b,a,x.both.1,x.both.2⟩};grind};grind
def A3z{l:Z (J×J)}:∀{k i j:J},(Hv l k i).isSome=(Hv l k j).isSome:=by
 induction l with
 |nil=>intros;rfl
 |cons x xs ih=>
  obtain⟨b,a⟩:=x;intro k i j;unfold Hv;grind
def Good.head{cfg:Cfg}{h0:aI}{W0:aF}{ann:Ann}{st0:VS}(g:aK n h0 W0 st h a W)(hok:Sy cfg ann st0=true)(ag:Agree (some ann.lim) st0 st)(g0:∀i k off,st0.env i= .own k off->(st0.own k).isSome=true)(hn:cfg.n=n)
 {xs ys:Z aE} (hx:Er st ann.slots=some xs) (hy:Rm st ann.owns=some ys):aK n h0 W0 (Ep ann st0 (xs++ys)) h a W:=by
 obtain⟨θ,r,f,L⟩:=g;simp only[Sy,aH,aL]at hok;obtain⟨⟨⟨⟨A,z⟩,F⟩,E⟩,_⟩:=hok;have d:=Wm hx
 have c:∀i,(∃v,(Ep ann st0 (xs++ys)).env i= .val v/\st.env i= .val v)\/((Ep ann st0 (xs++ys)).env i= .any/\has ann.lim.slots i=true)\/((Ep ann st0 (xs++ys)).env i=st.env i/\st.env i=st0.env i):=by
  intro i
  show(∃v,(match A6t ann.slots i 0 with
   |some j=>AVal.val ((xs++ys).getD j undef)
   |none=>bif has ann.lim.slots i then .any else st0.env i)=_/\_)\/(_=_/\_)\/(_=_/\_)
  simp only[Ep]
  cases hp:A6t ann.slots i 0 with
  |some p=>
   obtain⟨q,y,hl⟩:=Zg hp;obtain⟨v,G,H⟩:=A77 hx hl;grind
  |none=>
   cases hh:has ann.lim.slots i with
   |true=>grind
   |false=>exact .inr (.inr ⟨(ag.env i hh).symm,ag.env i hh⟩)
 have s:∀k cs,(Ep ann st0 (xs++ys)).own k=some cs->st.own k=some cs:=by
  intro k cs e;simp only[Ep]at e
  cases hp:Hv ann.owns k ann.slots.length with
  |some p=>
   obtain⟨p,m⟩:=p;rw[hp]at e;obtain⟨q,y,C⟩:=B0i hy hp;injection e with e;rw[C,<- e,y,<- d,aO]
  |none=>
   rw[hp]at e;have e:st0.own k=some cs:=e
   cases hh:has ann.lim.keys k with
   |false=>rw[ag.own k hh];exact e
   |true=>
    have:=(z k (Be.1 hh)).2;rw[e,A3z (j:=ann.slots.length),hp]at this;cases this
 refine⟨θ,⟨r.defers,r.size,fun i t=>?_,r.sim,fun k cs e=>r.own k cs (s k cs e),fun k B w u e=>?_,fun i k off e=>?_,fun i t=>?_⟩,f,fun k w=>?_⟩
 ·rcases c i with⟨v,b,l⟩|⟨b,_⟩|⟨b,_⟩;·have:=r.slot i t;grind
  ·rw[b];trivial
  ·rw[b];exact r.slot i t
 ·obtain⟨cs,b⟩:=Option.isSome_iff_exists.1 w;obtain⟨D,l⟩:=Option.isSome_iff_exists.1 u;exact r.inj k B gz0 gz0 e
 ·rcases c i with⟨v,b,_⟩|⟨b,_⟩|⟨b,l⟩;·grind
  ·grind
  ·simp only[Ep];grind
 ·rcases c i with⟨v,b,l⟩|⟨b,l⟩|⟨b,l⟩;·have:=r.out i t;grind
  ·have:=A i (Be.1 l);simp only[A4h,aH]at this;have:=Nat.le_of_ble_eq_true this.1;omega
  ·rw[b];exact r.out i t
 ·obtain⟨cs,b⟩:=Option.isSome_iff_exists.1 w;grind
def Agree.within{cfg:Cfg}{ann:Ann}{st0 st':VS}(hok:Sy cfg ann st0=true){s:VS}(x:Agree (some ann.lim) s st'):Agree cfg.lim s st':=by
 simp only[Sy,aH,aL]at hok;obtain⟨⟨⟨⟨b,a⟩,_⟩,_⟩,_⟩:=hok;refine⟨fun i c=>x.env i ?_,fun k d=>x.own k ?_⟩
 ·cases hh:has ann.lim.slots i with
  |false=>exact hh
  |true=>
   have:=b i (Be.1 hh);simp only[A4h,aH]at this;grind
 ·cases hh:has ann.lim.keys k with
  |false=>exact hh
  |true=>have:=(a k (Be.1 hh)).1;grind
def Agree.head{ann:Ann}{cfg:Cfg}{st0:VS}(hok:Sy cfg ann st0=true)(vs:Z aE):Agree (some ann.lim) st0 (Ep ann st0 vs):=by
 simp only[Sy,aH,aL]at hok;obtain⟨⟨⟨⟨n,f⟩,r⟩,g⟩,_⟩:=hok;refine⟨fun i a=>?_,fun k b=>?_⟩
 ·have a:has ann.lim.slots i=false:=a;simp only[Ep]
  cases hp:A6t ann.slots i 0 with
  |some p=>
   obtain⟨q,_,hl⟩:=Zg hp;grind
  |none=>simp[a]
 ·have b:has ann.lim.keys k=false:=b;simp only[Ep]
  cases hp:Hv ann.owns k ann.slots.length with
  |none=>rfl
  |some p=>
   exfalso
   have c:∀{l:Z (J×J)} {j:J} {p:J×J},Hv l k j=some p->∃m,(k,m)∈l:=by
    intro l
    induction l with
    |nil=>intro j p e;cases e
    |cons x xs ih=>
     obtain⟨d,s⟩:=x;intro j p e;unfold Hv at e
     cases hb:aJ k d with
     |true=>simp_all
     |false=>grind
   grind
def A0a{α:Type}{c:aS}{Q:Exit->Act->aF->Prop}(I:α->Act->aF->Prop)(μ:α->J)(z0:α)(h₀:I z0 a W)
 (round:∀z a w,I z a w->c.wpIn F fu P (Exit.then (fun a' w'=>∃z',I z' a' w'/\μ z'<μ z) Q) a w):(Code.loop c).wpIn F fu P Q a W:=by
 intro b k cs r p n
 have key:∀m z a w,μ z=m->I z a w->∃e a' w',Q e a' w'/\ArrivesIn (Machine.fenced P F) P (lone (b.atR a (.code c :: .inLoop c::k)) cs w) b k cs e a' w':=by
  intro m
  induction m using Nat.strongRecOn with
  |_ m ih=>
   intro z a w y t;obtain⟨e,a₁,w₁,f,d⟩:=round z a w t b (.inLoop c::k) cs r p n
   cases e with
   |normal=>
    obtain⟨z',q,s⟩:=f;obtain⟨e,a',w',u,g⟩:=ih _ o z' a₁ w₁ rfl q;exact⟨e,a',w',u,.of_steps (StepsIn.trans d (.one (fenced_calm p n rfl) stepR_inLoop)) g⟩
   |exit id=>exact⟨_,a₁,w₁,f,.pass (x:=.inLoop c) rfl (fun _ _=>.inl (by simp)) d⟩
   |goto l=>exact⟨_,a₁,w₁,f,.pass (x:=.inLoop c) rfl (fun _ _=>.inl (by simp)) d⟩
   |ret=>exact⟨_,a₁,w₁,f,.pass (x:=.inLoop c) rfl (fun _ _=>.inl (by simp)) d⟩
   |panic ch=>exact⟨_,a₁,w₁,f,.pass (x:=.inLoop c) rfl (fun _ _=>.inl (by simp)) d⟩
   |outgrown=>exact⟨_,a₁,w₁,f,.pass (x:=.inLoop c) rfl (fun _ _=>.inl (by simp)) d⟩
 obtain⟨e,a',w',f,d⟩:=key _ z0 a W rfl h₀;exact⟨e,a',w',f,.of_steps (.one (fenced_calm p n rfl) stepR_loop) d⟩
def Ex.toExit:Ex->Exit
 |.normal=>.normal
 |.exit id=>.exit id
 |.ret=>.ret
def Good.wf{h0:aI}{W0:aF}(g:aK n h0 W0 st h a W):∀i k off,st.env i= .own k off->(st.own k).isSome=true:=by obtain⟨θ,r,_,_⟩:=g;exact r.wf
def Ze:∀(ps:Z J) (vs:Z aE) (st:VS),(putAll st ps vs).own=st.own
 | [],_,_=>rfl
 |_::_,[],_=>rfl
 |t::ts,v::vs,st=>by rw[putAll,Ze ts vs];rfl
def Rel.putAll{θ:J->J}:∀(ps:Z J) (vs:Z aE) (st:VS) (a:Act),Rel s0 n θ st h a W->(∀t∈ps,t<n)->Rel s0 n θ (putAll st ps vs) h { a with tmps:=(ps.zip vs).foldl (fun tmps (t,v)=>tmps.setIfInBounds t v) a.tmps } W
 | [],_,_,_,r,_=>r
 |_::_,[],_,_,r,_=>r
 |t::ts,v::vs,st,a,r,hp=>by
  have:=Rel.putAll ts vs (st.put t (.val v)) (a.put (some t) v) (r.put (hp t (by simp)) (v:=.val v) rfl (fun _ _ e=>by cases e)) (fun b c=>hp b (by simp[c]));exact this
def Good.round{h0:aI}{W0:aF}(g:aK n h0 W0 st h a W){ps:Z J}(hps:∀t∈ps,t<n){vs:Z aE}{h1:aI}{W1:aF}(hs:Sim h1 W1):
 aK n h1 W1 (Qt st ps vs) h1 { tmps:=(ps.zip vs).foldl (fun tmps (t,v)=>tmps.setIfInBounds t v) a.tmps,defers:=[] } W1:=by
 obtain⟨θ,r,_,_⟩:=g
 have d:Rel W1.heap.size n θ { env:=fun i=>B72 (st.env i),own:=fun _=>none } h1 { tmps:=a.tmps,defers:=[] } W1:=by
  refine⟨MarksOk.nil,r.size,fun i b=>?_,hs,(fun k cs e=>by cases e),(fun k f e=>by cases e),fun i k off e=>?_,fun i b=>?_⟩
  ·have:=r.slot i b;show rel θ (B72 (st.env i)) _
   cases hx:st.env i with
   |own k off=>trivial
   |val v=>rw[hx]at this;exact this
   |any=>trivial
  ·exfalso;simp only at e;cases hx:st.env i<;>rw[hx]at e<;>cases e
  ·show B72 (st.env i)=_;rw[r.out i b];rfl
 refine⟨θ,d.putAll ps vs _ _ hps,Fr.refl hs,fun k c=>?_⟩;unfold Qt at c;rw[Ze]at c;cases c
def V1{l:J}{rec:Loop}(e:W.heap[l]? = some (.loop rec)):(Instr.getLoop l).run P W= .ok rec W:=by simp[Instr.getLoop,getObj,Sem.run_bind,Sem.run,e]
def World.setO(W:aF)(l:J)(o:Obj):aF:={W with heap:=W.heap.setIfInBounds l o }
def Bb{l:J}{o o':Obj}(e:W.heap[l]? = some o')(hc:∀c t f,o' ≠ .cells c t f):(setObj l o).run P W= .ok () (World.setO W l o):=by
 cases o' with
 |cells c t f=>grind
 |_=>simp[setObj,Sem.run,e,World.setO]
def Ft{l:J}{o o':Obj}(e:W.heap[l]? = some o'):(World.setO W l o).heap[l]? = some o:=by have:=Fw e;simp[World.setO,this]
def G8{l b:J}{o:Obj}(hb:b≠l):(World.setO W l o).heap[b]? = W.heap[b]? :=by simp[World.setO,Ne.symm hb]
def Good.setLoop{h0:aI}{W2 W3:aF}{l:J}{rec rec':Loop}(g:aK n h0 W2 st h a W3)(hl:h0 l=none)(hs:l<W2.heap.size)(e:W3.heap[l]? = some (.loop rec)):aK n h0 (World.setO W2 l (.loop rec')) st h a (World.setO W3 l (.loop rec')):=by
 obtain⟨θ,r,d,L⟩:=g
 have p:h l=none:=by
  cases x:h l with
  |none=>rfl
  |some o=>have:=d.new l o hl x;omega
 have i:∀(W:aF) (o:Obj),(World.setO W l o).heap.size=W.heap.size:=fun W o=>by simp[World.setO]
 refine⟨θ,⟨?_,r.size,r.slot,fun b o f=>?_,fun k cs z=>?_,r.inj,r.wf,r.out⟩,⟨fun b o f=>?_,d.os,d.tape,d.output,by rw[i,i];exact d.size,fun b j f=>?_,fun b o D A=>by rw[i];exact d.new b o D A⟩,fun k G=>gz0⟩
 ·obtain⟨B,E,F,u⟩:=r.defers;refine⟨B,E,F,fun q y=>?_⟩;obtain⟨H,m,s⟩:=u q y;have c:q≠l:=oo;exact⟨gz0,m,by rw[G8 c];exact s⟩
 ·have c:b≠l:=gz0;rw[G8 c];exact r.sim b o f
 ·obtain⟨t,C,w⟩:=r.own k cs z;have c:θ k≠l:=gz0;exact⟨t,by rw[G8 c];exact C,w⟩
 ·have c:b≠l:=gz0;rw[G8 c];exact d.sim b o f
 ·rw[i]at j;by_cases c:b=l
  ·subst c;rw[Ft e,Ft (o':=W2.heap[b]) (Array.getElem?_eq_getElem j)]
  ·rw[G8 c,G8 c];exact d.keep b j f
def A6n{h0:aI}{W0:aF}{x:Operand}{ps:Array Tmp}{asg body:aS}{v:aE}{zs:Z aE}{B:Z aE->aI->(aI->Prop)->Prop}{K:aI->Prop}{Q':Exit->Act->aF->Prop}
 (g:aK n h0 W0 st h a W) (hev:D6 st x= .val v) (hlen:zs.length=ps.size) (hps:∀t∈ps.toList,t<n)
 (hv:A9d P v h (fun args h1 jq9=>exL zs fun vs=>args=vs/\B vs h1 jq9) K)
 (hQ:∀(l:J) vs h1 jq9 a1 W1,B vs h1 jq9->aK n h1 W1 (Qt st ps.toList vs) h1 a1 W1->∃K2:VS->aI->Prop,
  (∀fu' (Q2:Exit->Act->aF->Prop),(∀st' h' a' W',K2 st' h'->aK n h1 W1 st' h' a' W'->Q2 .normal a' W')->asg.wpIn (Fence.wide.inRound l) fu' P Q2 a1 W1)/\
  ∀W1' st1 h2 a2 W2 fu' (Q2:Exit->Act->aF->Prop),K2 st1 h2->aK n h1 W1' st1 h2 a2 W2->(∀st' h' a' W',jq9 h'->aK n h1 W1' st' h' a' W'->Q2 .normal a' W')->body.wpIn (Fence.wide.inRound l) fu' P Q2 a2 W2)
 (hK:∀h' a' W',K h'->aK n h0 W0 st h' a' W'->Q' .normal a' W'):(Code.rangeFunc x ps asg body).wpIn Fence.wide fu P Q' a W:=by
 obtain⟨f,first,j,rfl,C,hv⟩:=hv;obtain⟨θ,r,fr,X⟩:=id g;refine wpIn_rangeFunc fun fn _=>?_;generalize hrec:({ state:=.ready,pending:=none,fn:=fn,tmps:=a.tmps,params:=ps,assign:=asg,body:=body,defers:=W.heap.size }:Loop)=rec
 generalize hl:W.heap.size+1=l;generalize hW1:({ W with heap:=(W.heap.push (.deferred (some []))).push (.loop rec) }:aF)=W1;have ae:W1.heap.size=W.heap.size+2:=gz0;have H:W1.heap[W.heap.size]? = some (.deferred (some [])):=gz0
 have D:∀b,b<W.heap.size->W1.heap[b]? = W.heap[b]? :=by
  grind
 have y:∀b,W.heap.size<=b->h b=none:=by
  intro b s
  cases e:h b with
  |none=>rfl
  |some o=>have:=Fw (r.sim b o e);omega
 have E:Sim (h.put l (.loop rec)) W1:=by
  intro b o e;by_cases s:b=l;·subst s;rw[C3]at e;grind
  ·rw[C1 _ _ s]at e;have h1:=r.sim b o e;grind
 refine⟨l,[{ target:=.collected W.heap.size,args:=#[] }],W1,{ target:=.fn (.func f) j,args:=first ++ #[.func (.yield l) #[] #[]] },W1,f,first ++ #[.func (.yield l) #[] #[]]++j,W1,?_,?_,fun _ _=>trivial,?_,(fun e=>by cases e),?_⟩
 ·rw[<- hW1,<- hl,<- hrec];simp[Instr.enterLoop,newObj,Sem.run_bind,Sem.run,Fence.wide];rfl
 ·have ec:a.eval (.const (.func (.yield l) #[] #[]))= .func (.yield l) #[] #[]:=rfl;simp[resolve,r.evalVal hev,Deferred.ofValue,ec]
 ·simp[invoke,C]
 ·refine callsIn_wide.2 ((hv l rec (y l oo) ?_ W1 E).mono ?_)
  ·
   intro args h1 jq9 w s W2 L
   obtain⟨vs,rfl,S,s⟩:∃vs,args=vs/\vs.length=zs.length/\B vs h1 jq9:=by
    obtain⟨vs,S,e,s⟩:=exL.out s;grind
   have u:W2.heap[l]? = some (.loop rec):=L l _ (C3 h1 l _);have z:=Fw u;refine⟨fn,(ps.zip args.toArray).foldl (fun tmps (t,v)=>tmps.setIfInBounds t v) a.tmps,asg,body,?_,fun m=>?_⟩
   ·unfold Instr.yield;simp only[Sem.run_bind,V1 u,aC];rw[<- hrec];simp_all
   ·have M:Sim h1 W2:=by
     intro b o e;have c:b≠l:=gz0;exact L b o (by rw[C1 _ _ c];exact e)
    have hz:(ps.zip args.toArray).foldl (fun tmps (t,v)=>tmps.setIfInBounds t v) a.tmps=(ps.toList.zip args).foldl (fun tmps (t,v)=>tmps.setIfInBounds t v) a.tmps:=by
     rw[<- Array.foldl_toList];simp
    have gr:=g.round hps (vs:=args) M;obtain⟨K2,Q,ac⟩:=hQ l args h1 jq9 _ _ s gr;rw[hz];refine roundIn_of_wpIn (F:=Fence.wide) trivial (Q m _ ?_);intro st1 h2 a2 W3 T g2
    have d:W3.heap[l]? = some (.loop rec):=by
     obtain⟨_,_,fr2,_⟩:=g2;rw[fr2.keep l z w];exact u
    refine⟨World.setO W3 l (.loop { rec with state:=.busy }),?_,?_⟩
    ·unfold Instr.beginRound;simp only[Sem.run_bind,V1 d,aC,Bb d gz0];rw[<- hrec];rfl
    ·refine ac (World.setO W2 l (.loop { rec with state:=.busy })) st1 h2 a2 _ m _ T (g2.setLoop w z d) ?_;intro st' h' a' W' hJ g';obtain⟨θ',r',k,_⟩:=g'
     have A:W'.heap[l]? = some (.loop { rec with state:=.busy }):=by
      rw[k.keep l (by simpa[World.setO]using z) w];exact Ft u
     have V:h' l=none:=by
      cases e:h' l with
      |none=>rfl
      |some o=>have:=k.new l o w e;simp[World.setO]at this;omega
     refine⟨.bool true,World.setO W' l (.loop rec),?_,.bool true,h'.put l (.loop rec),rfl,⟨rfl,h',V,rfl,hJ⟩,?_⟩
     ·unfold aQ;simp only[Sem.run_bind,V1 A,aC,Bb A gz0];rw[<- hrec];rfl
     ·refine⟨fun b o e=>?_,k.os,k.tape,k.output,?_,fun b s e=>?_,fun b o e N=>?_⟩
      ·by_cases s:b=l;·subst s;rw[C3]at e;cases e;exact Ft A
       ·rw[C1 _ _ s]at e;rw[G8 s];exact k.sim b o e
      ·have:=k.size;simpa[World.setO]using this
      ·have c:b≠l:=by rintro rfl;rw[C3]at e;cases e
       rw[C1 _ _ c]at e;rw[G8 c,k.keep b (by simpa[World.setO]using s) e,G8 c]
      ·have c:b≠l:=by rintro rfl;rw[C3]at e;cases e
       rw[C1 _ _ c]at e N;have:=k.new b o e N;simpa[World.setO]using this
  ·rintro e W3 ⟨rv,h2,rfl,⟨O,af,rfl,R⟩,i⟩;have d:W3.heap[l]? = some (.loop rec):=i.sim l _ (C3 O l _)
   have G:Fr h W O (World.setO W3 l (.loop { rec with state:=.exhausted })):=by
    have e1:W1.os=W.os/\W1.tape=W.tape/\W1.output=W.output:=gz0;refine⟨fun b o e=>?_,i.os.trans e1.1,i.tape.trans e1.2.1,i.output.trans e1.2.2,?_,fun b s e=>?_,fun b o e N=>?_⟩
    ·have c:b≠l:=gz0;rw[G8 c];exact i.sim b o (by rw[C1 _ _ c];exact e)
    ·have:=i.size;simp[World.setO];omega
    ·have c:b≠l:=oo;rw[G8 c,i.keep b oo (by rw[C1 _ _ c];exact e),D b s]
    ·have c:b≠l:=gz0;have:=i.new b o (by rw[C1 _ _ c];exact e) (by rw[C1 _ _ c];exact N);omega
   refine⟨none,World.setO W3 l (.loop { rec with state:=.exhausted }),?_,hK O _ _ R ⟨θ,?_,fr.trans G,X⟩⟩
   ·unfold aR;simp only[Sem.run_bind,V1 d,aC];rw[<- hrec]at d ⊢;simp[Bb d gz0]
   ·have p:=r.world G;refine⟨?_,p.size,p.slot,p.sim,p.own,p.inj,p.wf,p.out⟩;obtain⟨rs,n1,n2,n3⟩:=p.defers;obtain⟨aa,m1,m2,m3⟩:=r.defers
    have ad:rs=aa:=by
     have:=n2.symm.trans m2;exact(List.map_inj_right (fun a b e=>by injection e)).1 this
    refine⟨W.heap.size::rs,List.nodup_cons.2 ⟨fun hm=>?_,n1⟩,by simp[n2],fun q hq=>?_⟩;·grind
    ·rcases List.mem_cons.1 hq with rfl|hq
     ·refine⟨fr.size,?_,?_⟩
      ·cases e:O W.heap.size with
       |none=>rfl
       |some o=>
        have h4:=i.new W.heap.size o (by rw[C1 _ _ oo];grind) (by rw[C1 _ _ oo];exact e);omega
      ·rw[G8 oo,i.keep _ oo (by rw[C1 _ _ oo];grind)];exact H
     grind
def A3p{h0:aI}{W0:aF}{x:Operand}{ps:Array Tmp}{asg body:aS}{v:aE}{zs:Z aE}{B:Z aE->aI->(aI->Prop)->(aI->Prop)->Prop}{K KR:aI->Prop}{Q':Exit->Act->aF->Prop}
 (g:aK n h0 W0 st h a W) (hev:D6 st x= .val v) (hlen:zs.length=ps.size) (hps:∀t∈ps.toList,t<n)
 (hv:A9c P v h (fun args h1 jq9 JR=>exL zs fun vs=>args=vs/\B vs h1 jq9 JR) K KR)
 (hQ:∀(l:J) vs h1 jq9 JR a1 W1,B vs h1 jq9 JR->aK n h1 W1 (Qt st ps.toList vs) h1 a1 W1->∃K2:VS->aI->Prop,
  (∀fu' (Q2:Exit->Act->aF->Prop),(∀st' h' a' W',K2 st' h'->aK n h1 W1 st' h' a' W'->Q2 .normal a' W')->asg.wpIn (Fence.wide.inRound l) fu' P Q2 a1 W1)/\
  ∀W1' st1 h2 a2 W2 fu' (Q2:Exit->Act->aF->Prop),K2 st1 h2->aK n h1 W1' st1 h2 a2 W2->(∀st' h' a' W',jq9 h'->aK n h1 W1' st' h' a' W'->Q2 .normal a' W')->(∀st' h' a' W',JR h'->aK n h1 W1' st' h' a' W'->Q2 .ret a' W')->body.wpIn (Fence.wide.inRound l) fu' P Q2 a2 W2)
 (hK:∀h' a' W',K h'->aK n h0 W0 st h' a' W'->Q' .normal a' W') (hKR:∀h' a' W',KR h'->aK n h0 W0 st h' a' W'->Q' .ret a' W'):(Code.rangeFunc x ps asg body).wpIn Fence.wide fu P Q' a W:=by
 obtain⟨f,first,j,rfl,M,hv⟩:=hv;obtain⟨θ,r,fr,aj⟩:=id g;refine wpIn_rangeFunc fun fn _=>?_;generalize hrec:({ state:=.ready,pending:=none,fn:=fn,tmps:=a.tmps,params:=ps,assign:=asg,body:=body,defers:=W.heap.size }:Loop)=rec
 generalize hl:W.heap.size+1=l;generalize hW1:({ W with heap:=(W.heap.push (.deferred (some []))).push (.loop rec) }:aF)=W1;have an:W1.heap.size=W.heap.size+2:=gz0;have T:W1.heap[W.heap.size]? = some (.deferred (some [])):=gz0
 have N:∀b,b<W.heap.size->W1.heap[b]? = W.heap[b]? :=by
  grind
 have E:∀b,W.heap.size<=b->h b=none:=by
  intro b y
  cases e:h b with
  |none=>rfl
  |some o=>have:=Fw (r.sim b o e);omega
 have R:Sim (h.put l (.loop rec)) W1:=by
  intro b o e;by_cases y:b=l;·subst y;rw[C3]at e;grind
  ·rw[C1 _ _ y]at e;have h1:=r.sim b o e;grind
 refine⟨l,[{ target:=.collected W.heap.size,args:=#[] }],W1,{ target:=.fn (.func f) j,args:=first ++ #[.func (.yield l) #[] #[]] },W1,f,first ++ #[.func (.yield l) #[] #[]]++j,W1,?_,?_,fun _ _=>trivial,?_,(fun e=>by cases e),?_⟩
 ·rw[<- hW1,<- hl,<- hrec];simp[Instr.enterLoop,newObj,Sem.run_bind,Sem.run,Fence.wide];rfl
 ·have ec:a.eval (.const (.func (.yield l) #[] #[]))= .func (.yield l) #[] #[]:=rfl;simp[resolve,r.evalVal hev,Deferred.ofValue,ec]
 ·simp[invoke,M]
 ·refine callsIn_wide.2 ((hv l rec (E l oo) ?_ W1 R).mono ?_)
  ·
   intro args h1 jq9 JR D y W2 aa
   obtain⟨vs,rfl,ae,y⟩:∃vs,args=vs/\vs.length=zs.length/\B vs h1 jq9 JR:=by
    obtain⟨vs,ae,e,y⟩:=exL.out y;grind
   have A:W2.heap[l]? = some (.loop rec):=aa l _ (C3 h1 l _);have G:=Fw A;refine⟨fn,(ps.zip args.toArray).foldl (fun tmps (t,v)=>tmps.setIfInBounds t v) a.tmps,asg,body,?_,fun m=>?_⟩
   ·unfold Instr.yield;simp only[Sem.run_bind,V1 A,aC];rw[<- hrec];simp_all
   ·have ac:Sim h1 W2:=by
     intro b o e;have d:b≠l:=gz0;exact aa b o (by rw[C1 _ _ d];exact e)
    have hz:(ps.zip args.toArray).foldl (fun tmps (t,v)=>tmps.setIfInBounds t v) a.tmps=(ps.toList.zip args).foldl (fun tmps (t,v)=>tmps.setIfInBounds t v) a.tmps:=by
     rw[<- Array.foldl_toList];simp
    have gr:=g.round hps (vs:=args) ac;obtain⟨K2,ad,al⟩:=hQ l args h1 jq9 JR _ _ y gr;rw[hz];refine roundIn_of_wpIn (F:=Fence.wide) trivial (ad m _ ?_);intro st1 h2 a2 W3 af g2
    have k:W3.heap[l]? = some (.loop rec):=by
     obtain⟨_,_,fr2,_⟩:=g2;rw[fr2.keep l G D];exact A
    refine⟨World.setO W3 l (.loop { rec with state:=.busy }),?_,?_⟩
    ·unfold Instr.beginRound;simp only[Sem.run_bind,V1 k,aC,Bb k gz0];rw[<- hrec];rfl
    ·have fin:∀(u:Option aS) (c:Loop) (V:Bool),(c={ rec with state:=if u.isNone then .ready else .done,pending:=u })->V=u.isNone->∀st' h' a' W',aK n h1 (World.setO W2 l (.loop { rec with state:=.busy })) st' h' a' W'->∀(X:VP),(∀p,p l=none->p=h'->X (.bool V) (p.put l (.loop c)))->∃v w',(aQ l u).run P W'= .ok v w'/\∃r h',(Ending.returned v)= .returned r/\X r h'/\Fr (h1.put l (.loop rec)) W2 h' w':=by
      intro u c V O ag st' h' a' W' Q X hX;obtain⟨θ',r',s,_⟩:=Q
      have H:W'.heap[l]? = some (.loop { rec with state:=.busy }):=by
       rw[s.keep l (by simpa[World.setO]using G) D];exact Ft A
      have ai:h' l=none:=by
       cases e:h' l with
       |none=>rfl
       |some o=>have:=s.new l o D e;simp[World.setO]at this;omega
      refine⟨.bool V,World.setO W' l (.loop c),?_,.bool V,h'.put l (.loop c),rfl,hX h' ai rfl,?_⟩
      ·unfold aQ;simp only[Sem.run_bind,V1 H,aC,Bb H gz0];rw[O,ag];rfl
      ·refine⟨fun b o e=>?_,s.os,s.tape,s.output,?_,fun b y e=>?_,fun b o e e'=>?_⟩
       ·by_cases y:b=l;·subst y;rw[C3]at e;cases e;exact Ft H
        ·rw[C1 _ _ y]at e;rw[G8 y];exact s.sim b o e
       ·have:=s.size;simpa[World.setO]using this
       ·have d:b≠l:=by rintro rfl;rw[C3]at e;cases e
        rw[C1 _ _ d]at e;rw[G8 d,s.keep b (by simpa[World.setO]using y) e,G8 d]
       ·have d:b≠l:=by rintro rfl;rw[C3]at e;cases e
        rw[C1 _ _ d]at e e';have:=s.new b o e e';simpa[World.setO]using this
     refine al (World.setO W2 l (.loop { rec with state:=.busy })) st1 h2 a2 _ m _ af (g2.setLoop D G k) ?_ ?_
     ·intro st' h' a' W' hJ Q;exact fin none rec true gz0 rfl st' h' a' W' Q _ fun p z e3=>⟨p,z,.inl ⟨rfl,rfl,gz0⟩⟩
     ·intro st' h' a' W' hJ Q;exact fin (some .ret) (A86 rec) false rfl rfl st' h' a' W' Q _ fun p z e3=>⟨p,z,.inr ⟨rfl,rfl,gz0⟩⟩
  ·have fin:∀(c:Loop),c.state ≠ .busy->∀p,p l=none->∀W3,Fr (h.put l (.loop rec)) W1 (p.put l (.loop c)) W3->(aR l).run P W3= .ok c.pending (World.setO W3 l (.loop { c with state:=.exhausted }))/\aK n h0 W0 st p { a with defers:=[{ target:=.collected W.heap.size,args:=#[] }]++a.defers } (World.setO W3 l (.loop { c with state:=.exhausted })):=by
    intro c ah p z W3 i;have k:W3.heap[l]? = some (.loop c):=i.sim l _ (C3 p l _)
    have S:Fr h W p (World.setO W3 l (.loop { c with state:=.exhausted })):=by
     have L:W1.os=W.os/\W1.tape=W.tape/\W1.output=W.output:=gz0;refine⟨fun b o e=>?_,i.os.trans L.1,i.tape.trans L.2.1,i.output.trans L.2.2,?_,fun b y e=>?_,fun b o e e'=>?_⟩
     ·have d:b≠l:=gz0;rw[G8 d];exact i.sim b o (by rw[C1 _ _ d];exact e)
     ·have:=i.size;simp[World.setO];omega
     ·have d:b≠l:=oo;rw[G8 d,i.keep b oo (by rw[C1 _ _ d];exact e),N b y]
     ·have d:b≠l:=gz0;have:=i.new b o (by rw[C1 _ _ d];exact e) (by rw[C1 _ _ d];exact e');omega
    refine⟨?_,⟨θ,?_,fr.trans S,aj⟩⟩
    ·unfold aR;simp only[Sem.run_bind,V1 k,aC];rw[iN gz0];simp[Bb k gz0]
    ·have w:=r.world S;refine⟨?_,w.size,w.slot,w.sim,w.own,w.inj,w.wf,w.out⟩;obtain⟨rs,n1,n2,n3⟩:=w.defers;obtain⟨ak,m1,m2,m3⟩:=r.defers
     have am:rs=ak:=by
      have:=n2.symm.trans m2;exact(List.map_inj_right (fun a b e=>by injection e)).1 this
     refine⟨W.heap.size::rs,List.nodup_cons.2 ⟨fun hm=>?_,n1⟩,by simp[n2],fun q hq=>?_⟩;·grind
     ·rcases List.mem_cons.1 hq with rfl|hq
      ·refine⟨fr.size,?_,?_⟩
       ·cases e:p W.heap.size with
        |none=>rfl
        |some o=>
         have h4:=i.new W.heap.size o (by rw[C1 _ _ oo];grind) (by rw[C1 _ _ oo];exact e);omega
       ·rw[G8 oo,i.keep _ oo (by rw[C1 _ _ oo];grind)];exact T
      grind
   rintro e W3 ⟨rv,h2,rfl,⟨p,z,C⟩,i⟩;rcases C with⟨rfl,C⟩|⟨rfl,C⟩
   ·obtain⟨L,e2⟩:=fin rec gz0 p z W3 i;refine⟨_,_,L,?_⟩;grind
   ·obtain⟨L,e2⟩:=fin (A86 rec) (by intro e;cases e) p z W3 i;exact⟨_,_,L,wpIn_ret (hKR p _ _ C e2)⟩
def C8i(Q:Exit->Act->aF->Prop):Exit->Act->aF->Prop
 |.goto _,_,_=>False
 |e,a,w=>Q e a w
def Ay{b:Frame}{k:Z Item}{cs:Z Frame}{w:aF}{c:aS}:step P (lone (b.atR a (.code (.scope c)::k)) cs w)= .next (lone (b.atR a (.code c :: .inScope c::k)) cs w):=step_lone_go (by rfl)
def A0n{b:Frame}{k:Z Item}{cs:Z Frame}{w:aF}{c:aS}:step P (lone (b.atR a (.inScope c::k)) cs w)= .next (lone (b.atR a k) cs w):=step_lone_go (by rfl)
def A5v{c:aS}{Q:Exit->Act->aF->Prop}(h:c.wpIn F fu P (C8i Q) a W):(Code.scope c).wpIn F fu P Q a W:=by
 intro b k cs q p n;have g:(lone (b.atR a (.code (.scope c)::k)) cs W).fenced P F:=fenced_calm p n rfl;obtain⟨e,a₁,w₁,f,d⟩:=h b (.inScope c::k) cs q p n
 cases e with
 |normal=>exact⟨.normal,a₁,w₁,f,.head g Ay (StepsIn.trans d (.one (fenced_calm p n rfl) A0n))⟩
 |exit id'=>
  exact⟨.exit id',a₁,w₁,f,fun s r=>.head g Ay (d.1 s (by assumption)),
   fun m r=>let ⟨k₁,h1,h2⟩:=d.2 m (by assumption);⟨k₁,h1,.head g Ay h2⟩⟩
 |goto l=>exact f.elim
 |ret=>exact⟨_,a₁,w₁,f,.of_steps (.one g Ay) d⟩
 |panic ch=>exact⟨_,a₁,w₁,f,.of_steps (.one g Ay) d⟩
 |outgrown=>exact⟨_,a₁,w₁,f,.of_steps (.one g Ay) d⟩
def B0x{fa:FnAnn}(c:aS):∀{F:Fence} [FOk F] {fu:J} {h0:aI} {W0:aF} (cfg:Cfg) (st:VS) (h:aI) (a:Act) (W:aF) (Q:Ex->VS->aI->Prop) (Q':Exit->Act->aF->Prop),cfg.n=n->Bodies P cfg.fns->(cfg.inr=false->F=Fence.wide)->aK n h0 W0 st h a W->
 Y2 P fa c cfg st h Q->(∀e st' h' a' W',Q e st' h'->aK n h0 W0 st' h' a' W'->Agree cfg.lim st st'->Q' e.toExit a' W')->c.wpIn F fu P Q' a W:=by
 induction c with
 |skip=>exact fun {F} _ {fu h0 W0} cfg st h a W Q Q' q s w g f m=>wpIn_skip (m .normal st h a W f g (Agree.refl _ _))
 |region id ops draw=>
  intro F _ fu h0 W0 cfg st h a W Q Q' q s w g f m
  cases draw with
  |false=>exact wpIn_region (B87 q s _ st h a W g f fun st' h' a' W' d i u=>m .normal st' h' a' W' d i u)
  |true=>
   obtain⟨p,f⟩:=f.both;exact B0o q s p g f fun st' h' a' W' d i u=>m .normal st' h' a' W' d i u
 |seq x y ihx ihy=>
  intro F _ fu h0 W0 cfg st h a W Q Q' q s w g f m;unfold Y2 at f;split at f
  ·refine wpIn_seq (ihx cfg st h a W _ _ q s w g f fun e st' h' a' W' d i u=>?_)
   cases e with
   |normal=>exact ihy cfg st' h' a' W' Q Q' q s w i d fun e M B T W2 k R L=>m e M B T W2 k R (u.trans L)
   |exit id=>exact m (.exit id) st' h' a' W' d i u
   |ret=>exact m .ret st' h' a' W' d i u
  ·rename_i C _;obtain⟨p,G,af,ah⟩:=f.both;refine wpIn_seq (ihx (cfg.within C) st h a W _ _ q s w g af fun e st' h' a' W' d i u=>?_)
   cases e with
   |normal=>
    obtain⟨xs,ys,hx,hy,O,hJ⟩:=d.out;obtain⟨hl,hz⟩:=Wk O;have E:=allL.at ah hl hz h' hJ;exact ihy cfg _ h' a' W' Q Q' q s w (i.head p u g.wf q hx hy) E fun e M B T W2 k R L=>m e M B T W2 k R (((Agree.head p _).within p).trans L)
   |exit id=>exact m (.exit id) st' h' a' W' d i (u.within p)
   |ret=>exact m .ret st' h' a' W' d i (u.within p)
 |cond c x y ihx ihy=>
  intro F _ fu h0 W0 cfg st h a W Q Q' q s w g f m;unfold Y2 at f;split at f
  ·rename_i b E;obtain⟨θ,r,_,_⟩:=id g
   cases b with
   |true=>exact wpIn_cond_true (r.evalVal E) (ihx cfg st h a W Q Q' q s w g f m)
   |false=>exact wpIn_cond_false (r.evalVal E) (ihy cfg st h a W Q Q' q s w g f m)
  grind
 |block id b ih=>
  intro F _ fu h0 W0 cfg st h a W Q Q' q s w g f m;refine wpIn_block (ih cfg st h a W _ _ q s w g f fun e st' h' a' W' d i u=>?_)
  cases e with
  |normal=>exact m .normal st' h' a' W' d i u
  |ret=>exact m .ret st' h' a' W' d i u
  |exit j=>
   by_cases hj:j=id
   ·subst hj;have d:Q .normal st' h':=by simp_all
    show Exit.inBlock j Q' (.exit j) a' W';simp only[Exit.inBlock,if_true];exact m .normal st' h' a' W' d i u
   ·have d:Q (.exit j) st' h':=by simp_all
    show Exit.inBlock id Q' (.exit j) a' W';simp only[Exit.inBlock,hj,if_false];exact m (.exit j) st' h' a' W' d i u
 |loop b ih=>
  intro F _ fu h0 W0 cfg st h a W Q Q' q s w g f m;unfold Y2 at f;split at f;·exact f.elim
  ·rename_i C _;obtain⟨p,Inv,μ,X,B⟩:=f.both;obtain⟨xs,ys,hx,hy,O,hI⟩:=X.out;have aa:=g.wf;refine A0a (fun(z:Z aE×aI) a' W'=>Rl C.zs z.1=true/\Inv z.1 z.2/\aK n h0 W0 (Ep C st z.1) z.2 a' W') (fun z=>μ z.1 z.2) (xs++ys,h) ⟨O,hI,g.head p (Agree.refl _ _) aa q hx hy⟩ ?_;intro z a1 W1 ⟨hk1,hI1,g1⟩;obtain⟨hl,hz⟩:=Wk hk1;have E:=allL.at B hl hz z.2 hI1;refine ih (cfg.within C) _ z.2 a1 W1 _ _ q s w g1 E fun e st' h' a' W' d i u=>?_;have S:Agree (some C.lim) st st':=(Agree.head p _).trans u
   cases e with
   |normal=>
    obtain⟨ae,aj,ad,al,ai,am,hμ⟩:=d.out;exact⟨(ae++aj,h'),⟨ai,am,i.head p S aa q ad al⟩,hμ⟩
   |exit id=>exact m (.exit id) st' h' a' W' d i (S.within p)
   |ret=>exact m .ret st' h' a' W' d i (S.within p)
 |exit id=>exact fun {F} _ {fu h0 W0} cfg st h a W Q Q' q s w g f m=>wpIn_exit (m (.exit id) st h a W f g (Agree.refl _ _))
 |ret=>exact fun {F} _ {fu h0 W0} cfg st h a W Q Q' q s w g f m=>wpIn_ret (m .ret st h a W f g (Agree.refl _ _))
 |rangeFunc x ps asg body iha ihb=>
  intro F _ fu h0 W0 cfg st h a W Q Q' q s w g f m;unfold Y2 at f;split at f
  ·rename_i v zs V an;obtain⟨p,f⟩:=f.both;simp only[aH,Bool.not_eq_true',aL]at p;obtain⟨⟨H,ao⟩,ac⟩:=p;obtain rfl:=w ac;split at f
   ·refine A6n g V (aM H) (fun t ht=>by simp_all) f ?_ (fun h' a' W' d i=>m .normal st h' a' W' d i (Agree.refl _ _));intro l vs X G a1 W1 E g1
    refine⟨fun D B=>Y2 P fa body { cfg with lim:=none,inr:=true } D B fun e _ h3=>
      match e with
      |.normal=>G h3
      |_=>False,fun N Q2 A=>?_,fun W1' D B T W2 N Q2 O R A=>?_⟩
    ·refine iha (F:=Fence.wide.inRound l) { cfg with lim:=none,inr:=true } _ X a1 W1 _ _ q s (fun e=>by cases e) g1 E fun e st' h' a' W' d i _=>?_
     cases e with
     |normal=>exact A st' h' a' W' d i
     |_=>exact d.elim
    ·refine ihb (F:=Fence.wide.inRound l) { cfg with lim:=none,inr:=true } _ B T W2 _ _ q s (fun e=>by cases e) R O fun e st' h' a' W' d i _=>?_
     cases e with
     |normal=>exact A st' h' a' W' d i
     |_=>exact d.elim
   ·refine A3p g V (aM H) (fun t ht=>by simp_all) f ?_ (fun h' a' W' d i=>m .normal st h' a' W' d i (Agree.refl _ _)) (fun h' a' W' d i=>m .ret st h' a' W' d i (Agree.refl _ _));intro l vs X G JR a1 W1 E g1
    refine⟨fun D B=>Y2 P fa body { cfg with lim:=none,inr:=true } D B fun e _ h3=>
      match e with
      |.normal=>G h3
      |.ret=>JR h3
      |_=>False,fun N Q2 A=>?_,fun W1' D B T W2 N Q2 O R A ak=>?_⟩
    ·refine iha (F:=Fence.wide.inRound l) { cfg with lim:=none,inr:=true } _ X a1 W1 _ _ q s (fun e=>by cases e) g1 E fun e st' h' a' W' d i _=>?_
     cases e with
     |normal=>exact A st' h' a' W' d i
     |_=>exact d.elim
    ·refine ihb (F:=Fence.wide.inRound l) { cfg with lim:=none,inr:=true } _ B T W2 _ _ q s (fun e=>by cases e) R O fun e st' h' a' W' d i _=>?_
     cases e with
     |normal=>exact A st' h' a' W' d i
     |ret=>exact ak st' h' a' W' d i
     |exit _=>exact d.elim
  grind
 |scope b ih=>
  intro F _ fu h0 W0 cfg st h a W Q Q' q s w g f m;refine A5v (ih cfg st h a W Q (C8i Q') q s w g f fun e st' h' a' W' d i u=>?_)
  cases e with
  |normal=>exact m .normal st' h' a' W' d i u
  |exit id=>exact m (.exit id) st' h' a' W' d i u
  |ret=>exact m .ret st' h' a' W' d i u
 |label l=>exact fun {F} _ {fu h0 W0} cfg st h a W Q Q' q s w g f m=>wpIn_label (m .normal st h a W f g (Agree.refl _ _))
 |_=>intro F _ fu h0 W0 cfg st h a W Q Q' q s w g f m;exact f.elim
def B8w(args:Z aE):VS:={ env:=fun i=>.val (args.getD i undef),own:=fun _=>none }
def A84(P:aN)(st:VS):ResultVar->Option aE
 |.tmp t=>match st.env t with
  |.val v=>some v
  |_=>none
 |.cell a t=>match st.env a with
  |.own k off=>match st.own k with
   |some cs=>match Pj P t with
    |some true=>bif Nat.ble (off+P.cellsOf t) cs.length then some (.agg ((cs.drop off).take (P.cellsOf t)).toArray)else none
    |some false=>cs[off]?
    |none=>none
   |none=>none
  |_=>none
def A0y(P:aN)(st:VS):Z ResultVar->Option (Z aE)
 | []=>some []
 |r::rs=>match A84 P st r with
  |some v=>match A0y P st rs with
   |some vs=>some (v::vs)
   |none=>none
  |none=>none
def B8e(P:aN)(st:VS)(h:aI):Z ResultVar->(Z aE->Prop)->Prop
 | [],C=>C []
 |.tmp t::rs,C=>match st.env t with
  |.val v=>B8e P st h rs fun vs=>C (v::vs)
  |_=>False
 |.cell x t::rs,C=>match st.env x with
  |.own k off=>match st.own k with
   |some cs=>Af P t cs off fun w=>match w with
    |.val v=>B8e P st h rs fun vs=>C (v::vs)
    |_=>False
   |none=>False
  |.val (.pointer (some p))=>Aj P t p h fun w=>match w with
   |.val v=>B8e P st h rs fun vs=>C (v::vs)
   |_=>False
  |_=>False
def Qq:Z aE->aE
 | [v]=>v
 |vs=>.tuple vs.toArray
def A6i(P:aN)(rs:Z ResultVar)(K:VP)(e:Ex)(st:VS)(h:aI):Prop:=
 match e with
 |.exit _=>False
 |_=>match A0y P st rs with
  |some a=>K (Qq a) h
  |none=>B8e P st h rs fun a=>K (Qq a) h
def C61(P:aN)(fa:FnAnn)(cfg:Cfg)(rs:Z ResultVar)(c:aS)(args:Z aE)(h:aI)(K:VP):Prop:=Y2 P fa c cfg (B8w args) h fun e st a=>A6i P rs K e st a
def A9v{θ:J->J}(r:Rel s0 n θ st h a W){rv:ResultVar}{v:aE}(e:A84 P st rv=some v):
 (match rv with
  |.tmp t=>(pure (a.tmps.getD t undef):Sem aE)
  |.cell x t=>do loadVar t (<- asAddr (a.tmps.getD x undef))).run P W= .ok v W:=by
 cases rv with
 |tmp t=>
  simp only[A84]at e;have:=r.slot' t;split at e
  ·rename_i u b;rw[b]at this;have this:a.tmps.getD t undef=u:=this;simp_all
  ·cases e
 |cell x t=>
  simp only[A84]at e;have d:=r.slot' x;split at e
  ·rename_i k off i;rw[i]at d;have d:a.tmps.getD x undef= .pointer (some ⟨θ k,off,none⟩):=d;split at e
   ·rename_i cs f
    have hl:Af P t cs off fun w=>w= .val v:=by
     split at e
     ·rename_i c
      cases hb:Nat.ble (off+P.cellsOf t) cs.length with
      |false=>grind
      |true=>
       rw[hb]at e;injection e with e;unfold Af;rw[c];simp only[Ng c,hb,Bool.and_self];show _=_;rw[e]
     ·unfold Af;grind
     ·cases e
    obtain⟨u,b,g⟩:=Hg r f hl;injection b with b;subst b;simp only[aT,aP,Sem.run_bind,Sem.run_pure,aC]at g;simp only[d,asAddr,Sem.run_bind,Sem.run_pure,aC,g]
   ·cases e
  ·cases e
def Vh{θ:J->J}(r:Rel s0 n θ st h a W)(rs:Z ResultVar):∀{vs:Z aE},A0y P st rs=some vs->
 (rs.mapM fun(rv:ResultVar)=>match rv with
  |.tmp t=>(pure (a.tmps.getD t undef):Sem aE)
  |.cell x t=>do loadVar t (<- asAddr (a.tmps.getD x undef))).run P W= .ok vs W:=by
 induction rs with
 |nil=>intro vs e;injection e with e;simp_all
 |cons rv rs ih=>
  intro vs e;unfold A0y at e;split at e
  ·rename_i v c;split at e
   ·rename_i d b;injection e with e;subst e;rw[List.mapM_cons];simp only[Sem.run_bind,A9v r c,aC,ih b,Sem.run_pure]
   ·cases e
  ·cases e
def A85{θ:J->J}(r:Rel s0 n θ st h a W)(rs:Z ResultVar):∀{C:Z aE->Prop},B8e P st h rs C->∃vs,C vs/\
 (rs.mapM fun(rv:ResultVar)=>match rv with
  |.tmp t=>(pure (a.tmps.getD t undef):Sem aE)
  |.cell x t=>do loadVar t (<- asAddr (a.tmps.getD x undef))).run P W= .ok vs W:=by
 induction rs with
 |nil=>intro C e;exact⟨[],e,by simp⟩
 |cons rv rs ih=>
  intro C e
  have next:∀(v:aE),(match rv with
   |.tmp t=>(pure (a.tmps.getD t undef):Sem aE)
   |.cell x t=>do loadVar t (<- asAddr (a.tmps.getD x undef))).run P W= .ok v W->(B8e P st h rs fun vs=>C (v::vs))->∃vs,C vs/\
  ((rv::rs).mapM fun(rv:ResultVar)=>match rv with
   |.tmp t=>(pure (a.tmps.getD t undef):Sem aE)
   |.cell x t=>do loadVar t (<- asAddr (a.tmps.getD x undef))).run P W= .ok vs W:=by
   intro v l f;obtain⟨m,j,c⟩:=ih f;simp_all
  cases rv with
  |tmp t=>
   unfold B8e at e;have:=r.slot' t;split at e
   ·rename_i u d;rw[d]at this;have this:a.tmps.getD t undef=u:=this;exact next u (by simp_all) e
   grind
  |cell x t=>
   unfold B8e at e;have b:=r.slot' x;split at e
   ·rename_i k off f;rw[f]at b;have b:a.tmps.getD x undef= .pointer (some ⟨θ k,off,none⟩):=b;split at e
    ·rename_i cs g;obtain⟨u,d,c⟩:=Hg r g e;refine next u ?_ d;simp only[aT,aP,Sem.run_bind,Sem.run_pure,aC]at c;simp only[b,asAddr,Sem.run_bind,Sem.run_pure,aC,c]
    grind
   ·rename_i p i;rw[i]at b;have b:a.tmps.getD x undef= .pointer (some p):=b;obtain⟨u,d,c⟩:=Lu r.sim e;refine next u ?_ d;simp only[aT,aP,Sem.run_bind,Sem.run_pure,aC]at c;simp only[b,asAddr,Sem.run_bind,Sem.run_pure,aC,c]
   grind
def Mc(fn:Func):aS:=
 match fn.body with
 |some c=>c
 |none=>.skip
def Bodies.nil:Bodies P []:=fun g a=>by cases a
def Bodies.cons{g:J}{l:Z J}(hg:∀args W,(callFunc g args).run P W= .ok (.enter g args) W)(hl:Bodies P l):Bodies P (g::l):=fun k a=>by
 cases a with
 |head=>exact hg
 |tail _ a=>exact hl k a
def Th{r:J}(e:W.heap[r]? = some (.deferred (some []))):(Instr.takeDeferred r).run P W= .ok [] (World.setO W r (.deferred none)):=by simp[Instr.takeDeferred,getObj,Sem.run_bind,Sem.run,e,Bb e gz0]
def B3h{fn:Func}{tmps:Array aE}{R:Ending->aF->Prop}:∀(ds:Z Deferred) (W:aF) (rs:Z J),rs.Nodup->ds.map (·.target)=rs.map Target.collected->(∀r∈rs,W.heap[r]? = some (.deferred (some [])))->
 (∀W2:aF,W2.os=W.os->W2.tape=W.tape->W2.output=W.output->W2.heap.size=W.heap.size->(∀b,b∉rs->W2.heap[b]? = W.heap[b]?)->∃v,(results fn tmps).run P W2= .ok v W2/\R (.returned v) W2)->
 LeavesInM Fence.wide 0 P fn tmps R ds .returning W:=by
 intro ds
 induction ds with
 |nil=>
  intro W rs _ e _ x;exact x W rfl rfl rfl rfl (fun _ _=>rfl)
 |cons d ds ih=>
  intro W rs g e l x
  cases rs with
  |nil=>cases e
  |cons r rs=>
   simp only[List.map_cons,List.cons.injEq]at e;have i:=l r (by simp);obtain⟨m,c⟩:=List.nodup_cons.1 g;refine⟨by simp,.inl ⟨r,_,e.1,Th i,ih _ rs c e.2 (fun q s=>?_) (fun W2 j k n f p=>x W2 j k n (by rw[f];simp[World.setO]) (fun b a=>?_))⟩⟩;·rw[G8 gz0];grind
   ·simp only[List.mem_cons,not_or]at a;rw[p b a.2,G8 a.1]
def A8r{f:FuncId}{fn:Func}(hf:P.funcs[f]? = some fn){c:aS}(hb:fn.body=some c){rs:Z ResultVar}(hr:fn.results.toList=rs){fa:FnAnn}{cfg:Cfg}{args:Z aE}(hn:cfg.n=args.length+(fn.ntmps-args.length))(hfn:Bodies P cfg.fns){h:aI}{K:VP}
 (hv:C61 P fa cfg rs c args h K):FCall P f args.toArray h K:=by
 intro W hs;subst hr
 have g:aK cfg.n h W (B8w args) h { tmps:=args.toArray++Array.replicate (fn.ntmps-args.toArray.size) undef,defers:=[] } W:=by
  refine⟨fun _=>0,⟨MarksOk.nil,by simp[hn],fun i R=>?_,hs,(fun k cs e=>by cases e),(fun k T A=>by cases A),(fun i k off e=>by cases e),fun i R=>?_⟩,Fr.refl hs,(fun k A=>by cases A)⟩
  ·show _=args.getD i undef;rcases Nat.lt_or_ge i args.length with x|x;·simp_all
   simp_all
  ·show AVal.val (args.getD i undef)=_;grind
 refine callsIn_wide.1 (callsIn_of_wp_marks (n:=0) hf hb trivial (B0x c (F:=Fence.wide) cfg _ h _ W _ _ rfl hfn (fun _=>rfl) g hv fun e z m u W' a M _=>?_));obtain⟨θ,r,p,_⟩:=M
 have fin:(∀{a2:Act} {W2:aF},Rel W.heap.size cfg.n θ z m a2 W2->∃d,K (Qq d) m/\(fn.results.toList.mapM fun(rv:ResultVar)=>match rv with
  |.tmp t=>(pure (a2.tmps.getD t undef):Sem aE)
  |.cell x t=>do loadVar t (<- asAddr (a2.tmps.getD x undef))).run P W2= .ok d W2)->bodyPostM Fence.wide 0 P fn (fun e W'=>∃r m,e= .returned r/\K r m/\Fr h W m W') .ret u W':=by
  intro y;obtain⟨rs,H,N,B⟩:=r.defers;refine B3h u.defers W' rs H N (fun q L=>(B q L).2.2) ?_;intro W2 E O G Q D
  have fr2:Fr h W m W2:=by
   refine⟨fun b o e=>?_,E.trans p.os,O.trans p.tape,G.trans p.output,by rw[Q];exact p.size,fun b hb e=>?_,p.new⟩;·rw[D b (fun C=>gz0)];exact p.sim b o e
   ·rw[D b (fun C=>gz0)];exact p.keep b hb e
  have j:Rel W.heap.size cfg.n θ z m { u with defers:=[] } W2:=by
   refine⟨MarksOk.nil,r.size,r.slot,fr2.sim,fun k cs e=>?_,r.inj,r.wf,r.out⟩;obtain⟨t,V,S⟩:=r.own k cs e;grind
  obtain⟨d,a,C⟩:=y j;refine⟨Qq d,?_,_,m,rfl,a,fr2⟩
  have e:(results fn u.tmps).run P W2=((fn.results.toList.mapM (fun(rv:ResultVar)=>match rv with
   |.tmp t=>(pure (u.tmps.getD t undef):Sem aE)
   |.cell x t=>do loadVar t (<- asAddr (u.tmps.getD x undef)))).run P W2).andThen fun l w=>.ok (if h:l.toArray.size=1 then l.toArray[0]else .tuple l.toArray) w:=by
   unfold results;rw[Sem.run_bind,Array.mapM_eq_mapM_toList];simp only[map_eq_pure_bind,Sem.run_bind];generalize Sem.run P _ W2=x;cases x<;>simp
  rw[e,C,aC]
  cases d with
  |nil=>rfl
  |cons v d=>cases d<;>rfl
 cases e with
 |exit id=>exact a.elim
 |normal=>
  unfold A6i at a;split at a;·exact a.elim
  ·split at a;·rename_i d s;exact fin fun j=>⟨d,a,Vh (P:=P) j fn.results.toList s⟩
   ·exact fin fun j=>A85 (P:=P) j fn.results.toList a
 |ret=>
  unfold A6i at a;split at a;·exact a.elim
  ·split at a;·rename_i d s;exact fin fun j=>⟨d,a,Vh (P:=P) j fn.results.toList s⟩
   ·exact fin fun j=>A85 (P:=P) j fn.results.toList a
def C7t{L:Z J}(hL:Bodies P L){f:FuncId}{fn:Func}(hf:P.funcs[f]? = some fn)(rs:Z ResultVar)(fa:FnAnn)(n:J)(own fns wr:Z J){args:Z aE}{h:aI}{K:VP}{T:Prop}
 (e:(fn.body.isSome,fn.results.toList,n,fns.all (has L),C61 P fa { n:=n,own:=own,lim:=none,fns:=fns,wr:=wr } rs (Mc fn) args h K)=(true,rs,args.length+(fn.ntmps-args.length),true,T)) (hvc:T):FCall P f args.toArray h K:=by
 simp only[Prod.mk.injEq]at e;obtain⟨k,j,b,c,a⟩:=e
 have d:fn.body=some (Mc fn):=by
  unfold Mc;grind
 exact A8r hf d j b (fun g i=>hL g (Be.1 (List.all_eq_true.1 c g i))) (a.mpr hvc)
end
abbrev I(n:Int):aE:=.int .i64 n
abbrev I32(n:Int):aE:=.int .i32 n
abbrev U(n:Int):aE:=.int .u64 n
abbrev U32(n:Int):aE:=.int .u32 n
abbrev yq9(n:Int):aE:=.int .u8 n
abbrev C4(n:Int):Int:=IntKind.i64.wrap n
abbrev C8r(n:Int):Int:=IntKind.i32.wrap n
abbrev C7(n:Int):Int:=IntKind.u64.wrap n
abbrev J5(n:Int):Int:=IntKind.u32.wrap n
abbrev wu8(n:Int):Int:=IntKind.u8.wrap n
def A2g(k:IntKind)(x y:Int):Int:=k.wrap (BitVec.ofInt k.bits x &&& BitVec.ofInt k.bits y).toNat
def bor(k:IntKind)(x y:Int):Int:=k.wrap (BitVec.ofInt k.bits x ||| BitVec.ofInt k.bits y).toNat
def C99(k:IntKind)(x y:Int):Int:=k.wrap (BitVec.ofInt k.bits x ^^^ BitVec.ofInt k.bits y).toNat
def C1z(k:IntKind)(x y:Int):Int:=k.wrap (BitVec.ofInt k.bits x &&& ~~~BitVec.ofInt k.bits y).toNat
