/-
  Texts of this proof, merged by a program of ours.
-/
import Derived.Test.YtajkakhfcokljaaGreatDoorG03
namespace Go.Proofs.YtajkakhfcokljaaGreatDoor
open Go
inductive Ex where
 | normal
 | exit (id:Nat)
 | ret
structure Ann where
 slots:List Nat
 owns:List (Nat × Nat)
 zs:List Value
 lim:Lim
structure FnAnn where
 loops:List (Nat × Ann)
 cuts:List (Nat × Ann)
 orders:List (Nat × List Nat × List (List Nat))
 rounds:List (Nat × List Value):=[]
 alts:List (Nat × List (Nat × List Nat)):=[]
def Ht{α:Type}:List (Nat × α)->Nat->Option α
 | [],_=>none
 | (k,x)::r,i=>bif Nat.beq i k then some x else Ht r i
def K6:Code->Option Nat
 | .region id _ _=>some id
 | .seq a b=>match K6 a with
  | some i=>some i
  | none=>K6 b
 | .block _ b=>K6 b
 | .loop b=>K6 b
 | .scope b=>K6 b
 | .cond _ a b=>match K6 a with
  | some i=>some i
  | none=>K6 b
 | _=>none
def A0b:List Nat->Nat->Nat->Option Nat
 | [],_,_=>none
 | x::xs,i,j=>bif Nat.beq i x then some j else A0b xs i (j+1)
def Ch:List (Nat × Nat)->Nat->Nat->Option (Nat × Nat)
 | [],_,_=>none
 | (k,n)::r,i,j=>bif Nat.beq i k then some (j,n) else Ch r i (j+n)
def Bh(ann:Ann)(st:VS)(vs:List Value):VS:=
 { env:=fun i=>match A0b ann.slots i 0 with
    | some j=>.val (vs.getD j undef)
    | none=>bif has ann.lim.slots i then .any else st.env i
   own:=fun k=>match Ch ann.owns k ann.slots.length with
    | some (j,n)=>some ((vs.drop j).take n)
    | none=>st.own k }
def Bi(st:VS):List Nat->Option (List Value)
 | []=>some []
 | i::is=>match st.env i with
  | .val v=>match Bi st is with
   | some vs=>some (v::vs)
   | none=>none
  | _=>none
def Lb(st:VS):List (Nat × Nat)->Option (List Value)
 | []=>some []
 | (k,n)::r=>match st.own k with
  | some cs=>bif Nat.beq cs.length n then (match Lb st r with
   | some vs=>some (cs++vs)
   | none=>none) else none
  | none=>none
def La:List Value->List Value->Bool
 | [],[]=>true
 | z::zs,v::vs=>Xj z v&&La zs vs
 | _,_=>false
def keep(ann:Ann)(st:VS)(h:Heap)(K:List Value->Heap->Prop):Prop:=
 match Bi st ann.slots with
 | some xs=>match Lb st ann.owns with
  | some ys=>When (La ann.zs (xs++ys)) (K (xs++ys) h)
  | none=>False
 | none=>False
def Mj(cfg:Cfg)(ann:Ann)(st:VS):Bool:=
 ann.lim.slots.all (fun d=>Xi cfg d)&&ann.lim.keys.all (fun k=>Xk cfg.lim k&&((st.own k).isNone||(Ch ann.owns k 0).isSome)) &&
 ann.slots.all (has ann.lim.slots)&&ann.owns.all (fun p=>has ann.lim.keys p.1)&&kindsLen ann
where
 kindsLen (ann:Ann):Bool:=Nat.beq ann.zs.length (ann.slots.length+ann.owns.foldr (fun p s=>p.2+s) 0)
def Cfg.within(cfg:Cfg)(ann:Ann):Cfg:={ n:=cfg.n,own:=cfg.own,lim:=some ann.lim,fns:=cfg.fns,wr:=cfg.wr,inr:=cfg.inr }
def B4r(ann:Ann)(cfg:Cfg)(body:Cfg->VS->Heap->(Ex->VS->Heap->Prop)->Prop)(st:VS)(h:Heap)(Q:Ex->VS->Heap->Prop):Prop:=
 When (Mj cfg ann st) <|
 ∃ (Inv:List Value->Heap->Prop) (μ:List Value->Heap->Nat),keep ann st h Inv/\
  allL ann.zs fun vs=>∀ h,Inv vs h->body (cfg.within ann) (Bh ann st vs) h fun e st' h'=>
   match e with
   | .normal=>keep ann st' h' fun vs' h'=>Inv vs' h'/\μ vs' h'<μ vs h
   | e=>Q e st' h'
def B7f(ann:Ann)(cfg:Cfg)(a b:Cfg->VS->Heap->(Ex->VS->Heap->Prop)->Prop)(st:VS)(h:Heap)(Q:Ex->VS->Heap->Prop):Prop:=
 When (Mj cfg ann st) <|
 ∃ J:List Value->Heap->Prop,(a (cfg.within ann) st h fun e st' h'=>
    match e with
    | .normal=>keep ann st' h' J
    | e=>Q e st' h')/\
  allL ann.zs fun vs=>∀ h,J vs h->b cfg (Bh ann st vs) h Q
def A9q:AVal->AVal
 | .own _ _=>.any
 | v=>v
def putAll:VS->List Nat->List Value->VS
 | st,t::ts,v::vs=>putAll (st.put t (.val v)) ts vs
 | st,_,_=>st
def Ty(st:VS)(ps:List Nat)(vs:List Value):VS:=putAll { env:=fun i=>A9q (st.env i),own:=fun _=>none } ps vs
def Q1(P:Program)(fa:FnAnn):Code->Cfg->VS->Heap->(Ex->VS->Heap->Prop)->Prop
 | .skip,_,st,h,Q=>Q .normal st h
 | .region id ops draw,cfg,st,h,Q=>
  match draw with
  | false=>A8v P cfg ops false (List.range ops.size) st h (Q .normal)
  | true=>
   match Ht fa.orders id with
   | some (ord,anc)=>When (A71 P ops ord anc) (Cb P cfg ops anc (fun j=>((Ht fa.alts id).bind (fun l=>Ht l j)).getD []) ord.length ord st h (Q .normal))
   | none=>False
 | .seq a b,cfg,st,h,Q=>
  match (K6 b).bind (Ht fa.cuts) with
  | none=>Q1 P fa a cfg st h fun e st' h'=>
   match e with
   | .normal=>Q1 P fa b cfg st' h' Q
   | e=>Q e st' h'
  | some ann=>B7f ann cfg (Q1 P fa a) (Q1 P fa b) st h Q
 | .cond c t e,cfg,st,h,Q=>
  match D0 st c with
  | .val (.bool b)=>Br b (Q1 P fa t cfg st h Q) (Q1 P fa e cfg st h Q)
  | _=>False
 | .block id b,cfg,st,h,Q=>Q1 P fa b cfg st h fun e st' h'=>
  match e with
  | .exit j=>bif Nat.beq j id then Q .normal st' h' else Q (.exit j) st' h'
  | e=>Q e st' h'
 | .loop b,cfg,st,h,Q=>
  match (K6 b).bind (Ht fa.loops) with
  | none=>False
  | some ann=>B4r ann cfg (Q1 P fa b) st h Q
 | .rangeFunc g ps asg body,cfg,st,h,Q=>
  match D0 st g,(K6 body).bind (Ht fa.rounds) with
  | .val v,some zs=>
   When (Nat.beq zs.length ps.size&&ps.toList.all (fun t=>Nat.blt t cfg.n) && !cfg.inr)
    (A2q P v h (fun args h1 J=>exL zs fun vs=>args=vs/\Q1 P fa asg { cfg with lim:=none,inr:=true } (Ty st ps.toList vs) h1 fun e st1 h2=>
     match e with
     | .normal=>Q1 P fa body { cfg with lim:=none,inr:=true } st1 h2 fun e _ h3=>
      match e with
      | .normal=>J h3
      | _=>False
     | _=>False) (Q .normal st))
  | _,_=>False
 | .exit id,_,st,h,Q=>Q (.exit id) st h
 | .ret,_,st,h,Q=>Q .ret st h
 | .scope b,cfg,st,h,Q=>Q1 P fa b cfg st h Q
 | .label _,_,st,h,Q=>Q .normal st h
 | _,_,_,_,_=>False
section
variable {P:Program} {s0:Nat} {F:Fence} {fu:Nat} {n:Nat} {st:VS} {h:Heap} {a:Act} {W:World}
theorem Sa{l:List Nat}: ∀ {i j p:Nat},A0b l i j=some p->∃ q,p=j+q/\l[q]? = some i:=by
 induction l with
 | nil=>intro i j p e;cases e
 | cons x xs ih=>
  intro i j p e
  unfold A0b at e
  cases hb:Nat.beq i x with
  | true=>
   rw [hb] at e
   have:=Nat.eq_of_beq_eq_true hb
   simp only [cond_true,Option.some.injEq] at e
   exact ⟨0,by omega,by simp [this]⟩
  | false=>
   rw [hb] at e
   obtain ⟨q,hq,hl⟩:=ih e
   exact ⟨q+1,by omega,by simpa using hl⟩
theorem A0k{l:List Nat}: ∀ {vs:List Value} {q i:Nat},Bi st l=some vs->l[q]? = some i->∃ v,vs[q]? = some v/\st.env i= .val v:=by
 induction l with
 | nil=>intro vs q i _ e;simp at e
 | cons x xs ih=>
  intro vs q i hg e
  unfold Bi at hg
  split at hg
  ·rename_i v hv
   split at hg
   ·rename_i ws hws
    injection hg with hg;subst hg
    cases q with
    | zero=>simp at e;subst e;exact ⟨v,by simp,hv⟩
    | succ q=>simp at e;simpa using ih hws e
   ·cases hg
  ·cases hg
theorem Oy{l:List Nat}: ∀ {vs:List Value},Bi st l=some vs->vs.length=l.length:=by
 induction l with
 | nil=>intro vs e;injection e with e;subst e;rfl
 | cons x xs ih=>
  intro vs hg
  unfold Bi at hg
  split at hg
  ·split at hg
   ·rename_i ws hws;injection hg with hg;subst hg;simp [ih hws]
   ·cases hg
  ·cases hg
theorem A3j{l:List (Nat × Nat)}: ∀ {vs:List Value} {k j p m:Nat},Lb st l=some vs->Ch l k j=some (p,m)->∃ q,p=j+q/\st.own k=some ((vs.drop q).take m):=by
 induction l with
 | nil=>intro vs k j p m _ e;cases e
 | cons x xs ih=>
  obtain ⟨k0,n0⟩:=x
  intro vs k j p m hg e
  unfold Lb at hg
  split at hg
  ·rename_i cs hcs
   cases hb:Nat.beq cs.length n0 with
   | false=>rw [hb] at hg;cases hg
   | true=>
    rw [hb] at hg
    have hlen:=Nat.eq_of_beq_eq_true hb
    simp only [cond_true] at hg
    split at hg
    ·rename_i ws hws
     injection hg with hg;subst hg
     unfold Ch at e
     cases hk:Nat.beq k k0 with
     | true=>
      rw [hk] at e
      have:=Nat.eq_of_beq_eq_true hk;subst this
      simp only [cond_true,Option.some.injEq,Prod.mk.injEq] at e
      obtain ⟨rfl,rfl⟩:=e
      exact ⟨0,by omega,by rw [hcs,List.drop_zero,<- hlen,List.take_left'];rfl⟩
     | false=>
      rw [hk] at e
      obtain ⟨q,hq,ho⟩:=ih hws e
      refine ⟨n0+q,by omega,?_⟩
      rw [ho,<- hlen,List.drop_length_add_append]
    ·cases hg
  ·cases hg
theorem Ow{zs:List Value}: ∀ {vs:List Value},La zs vs=true->vs.length=zs.length/\∀ p∈zs.zip vs,Xj p.1 p.2=true:=by
 induction zs with
 | nil=>
  intro vs e
  cases vs with
  | nil=>exact ⟨rfl,fun p hp=>by cases hp⟩
  | cons=>cases e
 | cons z zs ih=>
  intro vs e
  cases vs with
  | nil=>cases e
  | cons v vs=>
   simp only [La,Bool.and_eq_true] at e
   obtain ⟨hl,hk⟩:=ih e.2
   refine ⟨by simp [hl],fun p hp=>?_⟩
   simp only [List.zip_cons_cons,List.mem_cons] at hp
   rcases hp with rfl|hp
   ·exact e.1
   ·exact hk p hp
theorem keep.out{ann:Ann}{K:List Value->Heap->Prop}(x:keep ann st h K):
 ∃ xs ys,Bi st ann.slots=some xs/\Lb st ann.owns=some ys/\La ann.zs (xs++ys)=true/\K (xs++ys) h:=by
 unfold keep at x
 split at x
 ·split at x
  ·rename_i xs hx _ ys hy
   exact ⟨xs,ys,hx,hy,x.both.1,x.both.2⟩
  ·exact x.elim
 ·exact x.elim
theorem Xb{l:List (Nat × Nat)}: ∀ {k i j:Nat},(Ch l k i).isSome=(Ch l k j).isSome:=by
 induction l with
 | nil=>intros;rfl
 | cons x xs ih=>
  obtain ⟨k0,n0⟩:=x
  intro k i j
  unfold Ch
  cases Nat.beq k k0 with
  | true=>rfl
  | false=>exact ih
theorem Good.head{cfg:Cfg}{h0:Heap}{W0:World}{ann:Ann}{st0:VS}(g:Good n h0 W0 st h a W)(hok:Mj cfg ann st0=true)(ag:Agree (some ann.lim) st0 st)(g0:∀ i k off,st0.env i= .own k off->(st0.own k).isSome=true)(hn:cfg.n=n)
 {xs ys:List Value} (hx:Bi st ann.slots=some xs) (hy:Lb st ann.owns=some ys):Good n h0 W0 (Bh ann st0 (xs++ys)) h a W:=by
 obtain ⟨θ,r,f,hB⟩:=g
 simp only [Mj,Bool.and_eq_true,List.all_eq_true] at hok
 obtain ⟨⟨⟨⟨h1,h2⟩,h3⟩,h4⟩,_⟩:=hok
 have hlenx:=Oy hx
 have henv:∀ i,(∃ v,(Bh ann st0 (xs++ys)).env i= .val v/\st.env i= .val v)\/((Bh ann st0 (xs++ys)).env i= .any/\has ann.lim.slots i=true)\/((Bh ann st0 (xs++ys)).env i=st.env i/\st.env i=st0.env i):=by
  intro i
  show (∃ v,(match A0b ann.slots i 0 with
   | some j=>AVal.val ((xs++ys).getD j undef)
   | none=>bif has ann.lim.slots i then .any else st0.env i)=_/\_)\/(_=_/\_)\/(_=_/\_)
  simp only [Bh]
  cases hp:A0b ann.slots i 0 with
  | some p=>
   obtain ⟨q,hq,hl⟩:=Sa hp
   obtain ⟨v,hv,he⟩:=A0k hx hl
   refine .inl ⟨v,?_,he⟩
   have hql:q<xs.length:=(List.getElem?_eq_some_iff.1 hv).1
   have:p=q:=by omega
   subst this
   simp [List.getD,List.getElem?_append_left hql,hv]
  | none=>
   cases hh:has ann.lim.slots i with
   | true=>exact .inr (.inl ⟨rfl,rfl⟩)
   | false=>exact .inr (.inr ⟨(ag.env i hh).symm,ag.env i hh⟩)
 have hown:∀ k cs,(Bh ann st0 (xs++ys)).own k=some cs->st.own k=some cs:=by
  intro k cs e
  simp only [Bh] at e
  cases hp:Ch ann.owns k ann.slots.length with
  | some p=>
   obtain ⟨p,m⟩:=p
   rw [hp] at e
   obtain ⟨q,hq,ho⟩:=A3j hy hp
   injection e with e
   rw [ho,<- e,hq,<- hlenx,List.drop_length_add_append]
  | none=>
   rw [hp] at e
   have e:st0.own k=some cs:=e
   cases hh:has ann.lim.keys k with
   | false=>rw [ag.own k hh];exact e
   | true=>
    have:=(h2 k (V8.1 hh)).2
    rw [e,Xb (j:=ann.slots.length),hp] at this
    cases this
 refine ⟨θ,⟨r.defers,r.size,fun i hi=>?_,r.sim,fun k cs e=>r.own k cs (hown k cs e),fun k k' hk hk' e=>?_,fun i k off e=>?_,fun i hi=>?_⟩,f,fun k hk=>?_⟩
 ·rcases henv i with ⟨v,e1,e2⟩|⟨e1,_⟩|⟨e1,_⟩
  ·rw [e1];have:=r.slot i hi;rw [e2] at this;exact this
  ·rw [e1];trivial
  ·rw [e1];exact r.slot i hi
 ·obtain ⟨cs,e1⟩:=Option.isSome_iff_exists.1 hk
  obtain ⟨cs',e2⟩:=Option.isSome_iff_exists.1 hk'
  exact r.inj k k' (by rw [hown k cs e1];rfl) (by rw [hown k' cs' e2];rfl) e
 ·rcases henv i with ⟨v,e1,_⟩|⟨e1,_⟩|⟨e1,e2⟩
  ·rw [e1] at e;cases e
  ·rw [e1] at e;cases e
  ·have h5:=g0 i k off (by rw [<- e2,<- e1,e])
   simp only [Bh]
   cases hp:Ch ann.owns k ann.slots.length with
   | some p=>rfl
   | none=>exact h5
 ·rcases henv i with ⟨v,e1,e2⟩|⟨e1,e2⟩|⟨e1,e2⟩
  ·have:=r.out i hi;rw [e1];rw [e2] at this;exact this
  ·have:=h1 i (V8.1 e2)
   simp only [Xi,Bool.and_eq_true] at this
   have:=Nat.le_of_ble_eq_true this.1
   omega
  ·rw [e1];exact r.out i hi
 ·obtain ⟨cs,e1⟩:=Option.isSome_iff_exists.1 hk
  exact hB k (by rw [hown k cs e1];rfl)
theorem Agree.within{cfg:Cfg}{ann:Ann}{st0 st':VS}(hok:Mj cfg ann st0=true){s:VS}(x:Agree (some ann.lim) s st'):Agree cfg.lim s st':=by
 simp only [Mj,Bool.and_eq_true,List.all_eq_true] at hok
 obtain ⟨⟨⟨⟨h1,h2⟩,_⟩,_⟩,_⟩:=hok
 refine ⟨fun i hi=>x.env i ?_,fun k hk=>x.own k ?_⟩
 ·cases hh:has ann.lim.slots i with
  | false=>exact hh
  | true=>
   have:=h1 i (V8.1 hh)
   simp only [Xi,Bool.and_eq_true] at this
   rw [this.2] at hi;cases hi
 ·cases hh:has ann.lim.keys k with
  | false=>exact hh
  | true=>have:=(h2 k (V8.1 hh)).1;rw [this] at hk;cases hk
theorem Agree.head{ann:Ann}{cfg:Cfg}{st0:VS}(hok:Mj cfg ann st0=true)(vs:List Value):Agree (some ann.lim) st0 (Bh ann st0 vs):=by
 simp only [Mj,Bool.and_eq_true,List.all_eq_true] at hok
 obtain ⟨⟨⟨⟨h1,h2⟩,h3⟩,h4⟩,_⟩:=hok
 refine ⟨fun i hi=>?_,fun k hk=>?_⟩
 ·have hi:has ann.lim.slots i=false:=hi
  simp only [Bh]
  cases hp:A0b ann.slots i 0 with
  | some p=>
   obtain ⟨q,_,hl⟩:=Sa hp
   have:=h3 i (List.mem_of_getElem? hl)
   rw [this] at hi;cases hi
  | none=>simp [hi]
 ·have hk:has ann.lim.keys k=false:=hk
  simp only [Bh]
  cases hp:Ch ann.owns k ann.slots.length with
  | none=>rfl
  | some p=>
   exfalso
   have mem:∀ {l:List (Nat × Nat)} {j:Nat} {p:Nat × Nat},Ch l k j=some p->∃ m,(k,m)∈l:=by
    intro l
    induction l with
    | nil=>intro j p e;cases e
    | cons x xs ih=>
     obtain ⟨k0,n0⟩:=x
     intro j p e
     unfold Ch at e
     cases hb:Nat.beq k k0 with
     | true=>have:=Nat.eq_of_beq_eq_true hb;subst this;exact ⟨n0,by simp⟩
     | false=>rw [hb] at e;obtain ⟨m,hm⟩:=ih e;exact ⟨m,by simp [hm]⟩
   obtain ⟨m,hm⟩:=mem hp
   have:=h4 (k,m) hm
   rw [this] at hk;cases hk
theorem Tn{α:Type}{c:Code}{Q:Exit->Act->World->Prop}(I:α->Act->World->Prop)(μ:α->Nat)(z0:α)(h₀:I z0 a W)
 (round:∀ z a w,I z a w->c.wpIn F fu P (Exit.then (fun a' w'=>∃ z',I z' a' w'/\μ z'<μ z) Q) a w):(Code.loop c).wpIn F fu P Q a W:=by
 intro b k cs hro hb hr
 have key:∀ m z a w,μ z=m->I z a w->∃ e a' w',Q e a' w'/\ArrivesIn (Machine.fenced P F) P (lone (b.atR a (.code c :: .inLoop c::k)) cs w) b k cs e a' w':=by
  intro m
  induction m using Nat.strongRecOn with
  | _ m ih=>
   intro z a w hm hI
   obtain ⟨e,a₁,w₁,hq,harr⟩:=round z a w hI b (.inLoop c::k) cs hro hb hr
   cases e with
   | normal=>
    obtain ⟨z',hI',hlt⟩:=hq
    obtain ⟨e,a',w',hQ,harr'⟩:=ih _ (by omega) z' a₁ w₁ rfl hI'
    exact ⟨e,a',w',hQ,.of_steps (StepsIn.trans harr (.one (fenced_calm hb hr rfl) stepR_inLoop)) harr'⟩
   | exit id=>exact ⟨_,a₁,w₁,hq,.pass (x:=.inLoop c) rfl (fun _ _=>.inl (by simp)) harr⟩
   | goto l=>exact ⟨_,a₁,w₁,hq,.pass (x:=.inLoop c) rfl (fun _ _=>.inl (by simp)) harr⟩
   | ret=>exact ⟨_,a₁,w₁,hq,.pass (x:=.inLoop c) rfl (fun _ _=>.inl (by simp)) harr⟩
   | panic ch=>exact ⟨_,a₁,w₁,hq,.pass (x:=.inLoop c) rfl (fun _ _=>.inl (by simp)) harr⟩
   | outgrown=>exact ⟨_,a₁,w₁,hq,.pass (x:=.inLoop c) rfl (fun _ _=>.inl (by simp)) harr⟩
 obtain ⟨e,a',w',hq,harr⟩:=key _ z0 a W rfl h₀
 exact ⟨e,a',w',hq,.of_steps (.one (fenced_calm hb hr rfl) stepR_loop) harr⟩
def Ex.toExit:Ex->Exit
 | .normal=>.normal
 | .exit id=>.exit id
 | .ret=>.ret
theorem Good.wf{h0:Heap}{W0:World}(g:Good n h0 W0 st h a W):∀ i k off,st.env i= .own k off->(st.own k).isSome=true:=by
 obtain ⟨θ,r,_,_⟩:=g;exact r.wf
theorem Rz:∀ (ps:List Nat) (vs:List Value) (st:VS),(putAll st ps vs).own=st.own
 | [],_,_=>rfl
 | _::_,[],_=>rfl
 | t::ts,v::vs,st=>by rw [putAll,Rz ts vs];rfl
theorem Rel.putAll{θ:Nat->Nat}: ∀ (ps:List Nat) (vs:List Value) (st:VS) (a:Act),Rel s0 n θ st h a W->(∀ t∈ps,t<n)->Rel s0 n θ (putAll st ps vs) h { a with tmps:=(ps.zip vs).foldl (fun tmps (t,v)=>tmps.setIfInBounds t v) a.tmps } W
 | [],_,_,_,r,_=>r
 | _::_,[],_,_,r,_=>r
 | t::ts,v::vs,st,a,r,hp=>by
  have:=Rel.putAll ts vs (st.put t (.val v)) (a.put (some t) v) (r.put (hp t (by simp)) (v:=.val v) rfl (fun _ _ e=>by cases e)) (fun t' h'=>hp t' (by simp [h']))
  exact this
theorem Good.round{h0:Heap}{W0:World}(g:Good n h0 W0 st h a W){ps:List Nat}(hps:∀ t∈ps,t<n){vs:List Value}{h1:Heap}{W1:World}(hs:Sim h1 W1):
 Good n h1 W1 (Ty st ps vs) h1 { tmps:=(ps.zip vs).foldl (fun tmps (t,v)=>tmps.setIfInBounds t v) a.tmps,defers:=[] } W1:=by
 obtain ⟨θ,r,_,_⟩:=g
 have r0:Rel W1.heap.size n θ { env:=fun i=>A9q (st.env i),own:=fun _=>none } h1 { tmps:=a.tmps,defers:=[] } W1:=by
  refine ⟨MarksOk.nil,r.size,fun i hi=>?_,hs,(fun k cs e=>by cases e),(fun k k' e=>by cases e),fun i k off e=>?_,fun i hi=>?_⟩
  ·have:=r.slot i hi
   show rel θ (A9q (st.env i)) _
   cases hx:st.env i with
   | own k off=>trivial
   | val v=>rw [hx] at this;exact this
   | any=>trivial
  ·exfalso
   simp only at e
   cases hx:st.env i<;>rw [hx] at e<;>cases e
  ·show A9q (st.env i)=_
   rw [r.out i hi];rfl
 refine ⟨θ,r0.putAll ps vs _ _ hps,Fr.refl hs,fun k hk=>?_⟩
 unfold Ty at hk
 rw [Rz] at hk;cases hk
theorem Dl{l:Nat}{rec:Loop}(e:W.heap[l]? = some (.loop rec)):(Instr.getLoop l).run P W= .ok rec W:=by
 simp [Instr.getLoop,getObj,Sem.run_bind,Sem.run,e]
def World.setO(W:World)(l:Nat)(o:Obj):World:={ W with heap:=W.heap.setIfInBounds l o }
theorem Gs{l:Nat}{o o':Obj}(e:W.heap[l]? = some o')(hc:∀ c t f,o' ≠ .cells c t f):(setObj l o).run P W= .ok () (World.setO W l o):=by
 cases o' with
 | cells c t f=>exact absurd rfl (hc c t f)
 | _=>simp [setObj,Sem.run,e,World.setO]
theorem Is{l:Nat}{o o':Obj}(e:W.heap[l]? = some o'):(World.setO W l o).heap[l]? = some o:=by
 have:=Cj e
 simp [World.setO,this]
theorem I9{l b:Nat}{o:Obj}(hb:b≠l):(World.setO W l o).heap[b]? = W.heap[b]? :=by
 simp [World.setO,Array.getElem?_setIfInBounds,Ne.symm hb]
theorem Good.setLoop{h0:Heap}{W2 W3:World}{l:Nat}{rec rec':Loop}(g:Good n h0 W2 st h a W3)(hl:h0 l=none)(hs:l<W2.heap.size)(e:W3.heap[l]? = some (.loop rec)):Good n h0 (World.setO W2 l (.loop rec')) st h a (World.setO W3 l (.loop rec')):=by
 obtain ⟨θ,r,fr,hB⟩:=g
 have hhl:h l=none:=by
  cases x:h l with
  | none=>rfl
  | some o=>have:=fr.new l o hl x;omega
 have hz:∀ (W:World) (o:Obj),(World.setO W l o).heap.size=W.heap.size:=fun W o=>by simp [World.setO]
 refine ⟨θ,⟨?_,r.size,r.slot,fun b o eb=>?_,fun k cs ek=>?_,r.inj,r.wf,r.out⟩,⟨fun b o eb=>?_,fr.os,fr.tape,fr.output,by rw [hz,hz];exact fr.size,fun b hb eb=>?_,fun b o e1 e2=>by rw [hz];exact fr.new b o e1 e2⟩,fun k hk=>by rw [hz];exact hB k hk⟩
 ·obtain ⟨rs,n1,n2,n3⟩:=r.defers
  refine ⟨rs,n1,n2,fun q hq=>?_⟩
  obtain ⟨m1,m2,m3⟩:=n3 q hq
  have hne:q≠l:=by rintro rfl;rw [e] at m3;cases m3
  exact ⟨by rw [hz];exact m1,m2,by rw [I9 hne];exact m3⟩
 ·have hne:b≠l:=by rintro rfl;rw [hhl] at eb;cases eb
  rw [I9 hne];exact r.sim b o eb
 ·obtain ⟨t,g1,g2⟩:=r.own k cs ek
  have hne:θ k≠l:=by intro x;rw [x,e] at g1;cases g1
  exact ⟨t,by rw [I9 hne];exact g1,g2⟩
 ·have hne:b≠l:=by rintro rfl;rw [hhl] at eb;cases eb
  rw [I9 hne];exact fr.sim b o eb
 ·rw [hz] at hb
  by_cases hne:b=l
  ·subst hne
   rw [Is e,Is (o':=W2.heap[b]) (Array.getElem?_eq_getElem hb)]
  ·rw [I9 hne,I9 hne];exact fr.keep b hb eb
theorem A09{h0:Heap}{W0:World}{x:Operand}{ps:Array Tmp}{asg body:Code}{v:Value}{zs:List Value}{B:List Value->Heap->(Heap->Prop)->Prop}{K:Heap->Prop}{Q':Exit->Act->World->Prop}
 (g:Good n h0 W0 st h a W) (hev:D0 st x= .val v) (hlen:zs.length=ps.size) (hps:∀ t∈ps.toList,t<n)
 (hv:A2q P v h (fun args h1 J=>exL zs fun vs=>args=vs/\B vs h1 J) K)
 (hQ:∀ (l:Nat) vs h1 J a1 W1,B vs h1 J->Good n h1 W1 (Ty st ps.toList vs) h1 a1 W1->∃ K2:VS->Heap->Prop,
  (∀ fu' (Q2:Exit->Act->World->Prop),(∀ st' h' a' W',K2 st' h'->Good n h1 W1 st' h' a' W'->Q2 .normal a' W')->asg.wpIn (Fence.wide.inRound l) fu' P Q2 a1 W1)/\
  ∀ W1' st1 h2 a2 W2 fu' (Q2:Exit->Act->World->Prop),K2 st1 h2->Good n h1 W1' st1 h2 a2 W2->(∀ st' h' a' W',J h'->Good n h1 W1' st' h' a' W'->Q2 .normal a' W')->body.wpIn (Fence.wide.inRound l) fu' P Q2 a2 W2)
 (hK:∀ h' a' W',K h'->Good n h0 W0 st h' a' W'->Q' .normal a' W'):(Code.rangeFunc x ps asg body).wpIn Fence.wide fu P Q' a W:=by
 obtain ⟨f,first,captured,rfl,hbody,hv⟩:=hv
 obtain ⟨θ,r,fr,hB0⟩:=id g
 refine wpIn_rangeFunc fun fn _=>?_
 generalize hrec:({ state:=.ready,pending:=none,fn:=fn,tmps:=a.tmps,params:=ps,assign:=asg,body:=body,defers:=W.heap.size }:Loop)=rec
 generalize hl:W.heap.size+1=l
 generalize hW1:({ W with heap:=(W.heap.push (.deferred (some []))).push (.loop rec) }:World)=W1
 have hsz:W1.heap.size=W.heap.size+2:=by rw [<- hW1];simp
 have hat:W1.heap[l]? = some (.loop rec):=by
  rw [<- hW1,<- hl]
  simp only [Array.getElem?_push,Array.size_push]
  simp
 have hat0:W1.heap[W.heap.size]? = some (.deferred (some [])):=by rw [<- hW1];simp [Array.getElem?_push]
 have hold:∀ b,b<W.heap.size->W1.heap[b]? = W.heap[b]? :=by
  intro b hb
  rw [<- hW1]
  simp only [Array.getElem?_push,Array.size_push]
  rw [if_neg (by omega),if_neg (by omega)]
 have hnone:∀ b,W.heap.size<=b->h b=none:=by
  intro b hb
  cases e:h b with
  | none=>rfl
  | some o=>have:=Cj (r.sim b o e);omega
 have hsim:Sim (h.put l (.loop rec)) W1:=by
  intro b o e
  by_cases hb:b=l
  ·subst hb;rw [C3] at e;cases e;exact hat
  ·rw [B8 _ _ hb] at e
   have h1:=r.sim b o e
   rw [hold b (Cj h1)];exact h1
 refine ⟨l,[{ target:=.collected W.heap.size,args:=#[] }],W1,{ target:=.fn (.func f) captured,args:=first ++ #[.func (.yield l) #[] #[]] },W1,f,first ++ #[.func (.yield l) #[] #[]]++captured,W1,?_,?_,fun _ _=>trivial,?_,(fun e=>by cases e),?_⟩
 ·rw [<- hW1,<- hl,<- hrec]
  simp [Instr.enterLoop,newObj,Sem.run_bind,Sem.run,Fence.wide]
  rfl
 ·have ec:a.eval (.const (.func (.yield l) #[] #[]))= .func (.yield l) #[] #[]:=rfl
  simp [resolve,rangeCall,r.evalVal hev,Deferred.ofValue,ec]
 ·simp [invoke,hbody]
 ·refine callsIn_wide.2 ((hv l rec (hnone l (by omega)) ?_ W1 hsim).mono ?_)
  ·
   intro args h1 J hl1 hb W2 hs2
   obtain ⟨vs,rfl,hvl,hb⟩:∃ vs,args=vs/\vs.length=zs.length/\B vs h1 J:=by
    obtain ⟨vs,hvl,e,hb⟩:=exL.out hb
    exact ⟨vs,e,hvl,hb⟩
   have hat2:W2.heap[l]? = some (.loop rec):=hs2 l _ (C3 h1 l _)
   have hl2:=Cj hat2
   refine ⟨fn,(ps.zip args.toArray).foldl (fun tmps (t,v)=>tmps.setIfInBounds t v) a.tmps,asg,body,?_,fun m=>?_⟩
   ·unfold Instr.yield
    simp only [Sem.run_bind,Dl hat2,Result.andThen_ok]
    rw [<- hrec]
    simp [hvl,hlen]
   ·have hs2':Sim h1 W2:=by
     intro b o e
     have hne:b≠l:=by rintro rfl;rw [hl1] at e;cases e
     exact hs2 b o (by rw [B8 _ _ hne];exact e)
    have hz:(ps.zip args.toArray).foldl (fun tmps (t,v)=>tmps.setIfInBounds t v) a.tmps=(ps.toList.zip args).foldl (fun tmps (t,v)=>tmps.setIfInBounds t v) a.tmps:=by
     rw [<- Array.foldl_toList];simp
    have gr:=g.round hps (vs:=args) hs2'
    obtain ⟨K2,hq1,hq2⟩:=hQ l args h1 J _ _ hb gr
    rw [hz]
    refine roundIn_of_wpIn (F:=Fence.wide) trivial (hq1 m _ ?_)
    intro st1 h2 a2 W3 hK2 g2
    have hat3:W3.heap[l]? = some (.loop rec):=by
     obtain ⟨_,_,fr2,_⟩:=g2
     rw [fr2.keep l hl2 hl1];exact hat2
    refine ⟨World.setO W3 l (.loop { rec with state:=.busy }),?_,?_⟩
    ·unfold Instr.beginRound
     simp only [Sem.run_bind,Dl hat3,Result.andThen_ok,Gs hat3 (by intro c t f h;cases h)]
     rw [<- hrec]
     rfl
    ·refine hq2 (World.setO W2 l (.loop { rec with state:=.busy })) st1 h2 a2 _ m _ hK2 (g2.setLoop hl1 hl2 hat3) ?_
     intro st' h' a' W' hJ g'
     obtain ⟨θ',r',fr',_⟩:=g'
     have hb2:W'.heap[l]? = some (.loop { rec with state:=.busy }):=by
      rw [fr'.keep l (by simpa [World.setO] using hl2) hl1]
      exact Is hat2
     have hl':h' l=none:=by
      cases e:h' l with
      | none=>rfl
      | some o=>have:=fr'.new l o hl1 e;simp [World.setO] at this;omega
     refine ⟨.bool true,World.setO W' l (.loop rec),?_,.bool true,h'.put l (.loop rec),rfl,⟨rfl,h',hl',rfl,hJ⟩,?_⟩
     ·unfold Instr.endRound
      simp only [Sem.run_bind,Dl hb2,Result.andThen_ok,Gs hb2 (by intro c t f h;cases h)]
      rw [<- hrec]
      rfl
     ·refine ⟨fun b o e=>?_,fr'.os,fr'.tape,fr'.output,?_,fun b hb e=>?_,fun b o e e'=>?_⟩
      ·by_cases hb:b=l
       ·subst hb;rw [C3] at e;cases e;exact Is hb2
       ·rw [B8 _ _ hb] at e
        rw [I9 hb];exact fr'.sim b o e
      ·have:=fr'.size;simpa [World.setO] using this
      ·have hne:b≠l:=by rintro rfl;rw [C3] at e;cases e
       rw [B8 _ _ hne] at e
       rw [I9 hne,fr'.keep b (by simpa [World.setO] using hb) e,I9 hne]
      ·have hne:b≠l:=by rintro rfl;rw [C3] at e;cases e
       rw [B8 _ _ hne] at e e'
       have:=fr'.new b o e e'
       simpa [World.setO] using this
  ·rintro e W3 ⟨rv,h2,rfl,⟨h3,hl3,rfl,hK3⟩,fr3⟩
   have hat3:W3.heap[l]? = some (.loop rec):=fr3.sim l _ (C3 h3 l _)
   have frh:Fr h W h3 (World.setO W3 l (.loop { rec with state:=.exhausted })):=by
    have e1:W1.os=W.os/\W1.tape=W.tape/\W1.output=W.output:=by rw [<- hW1];exact ⟨rfl,rfl,rfl⟩
    refine ⟨fun b o e=>?_,fr3.os.trans e1.1,fr3.tape.trans e1.2.1,fr3.output.trans e1.2.2,?_,fun b hb e=>?_,fun b o e e'=>?_⟩
    ·have hne:b≠l:=by rintro rfl;rw [hl3] at e;cases e
     rw [I9 hne]
     exact fr3.sim b o (by rw [B8 _ _ hne];exact e)
    ·have:=fr3.size
     simp [World.setO];omega
    ·have hne:b≠l:=by omega
     rw [I9 hne,fr3.keep b (by omega) (by rw [B8 _ _ hne];exact e),hold b hb]
    ·have hne:b≠l:=by rintro rfl;rw [hl3] at e';cases e'
     have:=fr3.new b o (by rw [B8 _ _ hne];exact e) (by rw [B8 _ _ hne];exact e')
     omega
   refine ⟨none,World.setO W3 l (.loop { rec with state:=.exhausted }),?_,hK h3 _ _ hK3 ⟨θ,?_,fr.trans frh,hB0⟩⟩
   ·unfold Instr.endLoop
    simp only [Sem.run_bind,Dl hat3,Result.andThen_ok]
    rw [<- hrec] at hat3 ⊢
    simp [Gs hat3 (by intro c t f h;cases h)]
   ·have rw1:=r.world frh
    refine ⟨?_,rw1.size,rw1.slot,rw1.sim,rw1.own,rw1.inj,rw1.wf,rw1.out⟩
    obtain ⟨rs,n1,n2,n3⟩:=rw1.defers
    obtain ⟨rs0,m1,m2,m3⟩:=r.defers
    have ers:rs=rs0:=by
     have:=n2.symm.trans m2
     exact (List.map_inj_right (fun a b e=>by injection e)).1 this
    subst ers
    refine ⟨W.heap.size::rs,List.nodup_cons.2 ⟨fun hm=>?_,n1⟩,by simp [n2],fun q hq=>?_⟩
    ·have:=Cj (m3 _ hm).2.2;omega
    ·rcases List.mem_cons.1 hq with rfl|hq
     ·refine ⟨fr.size,?_,?_⟩
      ·cases e:h3 W.heap.size with
       | none=>rfl
       | some o=>
        have:=frh.new _ o (hnone _ (Nat.le_refl _)) e
        have h4:=fr3.new W.heap.size o (by rw [B8 _ _ (by omega)];exact hnone _ (Nat.le_refl _)) (by rw [B8 _ _ (by omega)];exact e)
        omega
      ·rw [I9 (by omega),fr3.keep _ (by omega) (by rw [B8 _ _ (by omega)];exact hnone _ (Nat.le_refl _))]
       exact hat0
     ·exact n3 q hq
def B8k(Q:Exit->Act->World->Prop):Exit->Act->World->Prop
 | .goto _,_,_=>False
 | e,a,w=>Q e a w
theorem T0{b:Frame}{k:List Item}{cs:List Frame}{w:World}{c:Code}:step P (lone (b.atR a (.code (.scope c)::k)) cs w)= .next (lone (b.atR a (.code c :: .inScope c::k)) cs w):=
 step_lone_go (by simp [stepG,stepG.exec,Frame.atR])
theorem Tt{b:Frame}{k:List Item}{cs:List Frame}{w:World}{c:Code}:step P (lone (b.atR a (.inScope c::k)) cs w)= .next (lone (b.atR a k) cs w):=
 step_lone_go (by simp [stepG,stepG.exec,Frame.atR])
theorem Zn{c:Code}{Q:Exit->Act->World->Prop}(h:c.wpIn F fu P (B8k Q) a W):(Code.scope c).wpIn F fu P Q a W:=by
 intro b k cs hro hb hr
 have h0:(lone (b.atR a (.code (.scope c)::k)) cs W).fenced P F:=fenced_calm hb hr rfl
 obtain ⟨e,a₁,w₁,hq,harr⟩:=h b (.inScope c::k) cs hro hb hr
 cases e with
 | normal=>exact ⟨.normal,a₁,w₁,hq,.head h0 T0 (StepsIn.trans harr (.one (fenced_calm hb hr rfl) Tt))⟩
 | exit id'=>
  have hx:exitTo id' (.inScope c::k)=exitTo id' k:=by simp [exitTo]
  exact ⟨.exit id',a₁,w₁,hq,fun k' hk=>.head h0 T0 (harr.1 k' (by rw [hx];exact hk)),
   fun hr' hk=>let ⟨k₁,h1,h2⟩:=harr.2 hr' (by rw [hx];exact hk);⟨k₁,h1,.head h0 T0 h2⟩⟩
 | goto l=>exact hq.elim
 | ret=>exact ⟨_,a₁,w₁,hq,.of_steps (.one h0 T0) harr⟩
 | panic ch=>exact ⟨_,a₁,w₁,hq,.of_steps (.one h0 T0) harr⟩
 | outgrown=>exact ⟨_,a₁,w₁,hq,.of_steps (.one h0 T0) harr⟩
theorem A3o{fa:FnAnn}(c:Code):∀ {F:Fence} [FOk F] {fu:Nat} {h0:Heap} {W0:World} (cfg:Cfg) (st:VS) (h:Heap) (a:Act) (W:World) (Q:Ex->VS->Heap->Prop) (Q':Exit->Act->World->Prop),cfg.n=n->Bodies P cfg.fns->(cfg.inr=false->F=Fence.wide)->Good n h0 W0 st h a W->
 Q1 P fa c cfg st h Q->(∀ e st' h' a' W',Q e st' h'->Good n h0 W0 st' h' a' W'->Agree cfg.lim st st'->Q' e.toExit a' W')->c.wpIn F fu P Q' a W:=by
 induction c with
 | skip=>exact fun {F} _ {fu h0 W0} cfg st h a W Q Q' hn hf hi g hv hQ=>wpIn_skip (hQ .normal st h a W hv g (Agree.refl _ _))
 | region id ops draw=>
  intro F _ fu h0 W0 cfg st h a W Q Q' hn hf hi g hv hQ
  unfold Q1 at hv
  cases draw with
  | false=>exact wpIn_region (B0y hn hf _ st h a W g hv fun st' h' a' W' hK g' ag=>hQ .normal st' h' a' W' hK g' ag)
  | true=>
   simp only at hv
   split at hv
   ·obtain ⟨hok,hv⟩:=hv.both
    exact A3l hn hf hok g hv fun st' h' a' W' hK g' ag=>hQ .normal st' h' a' W' hK g' ag
   ·exact hv.elim
 | seq x y ihx ihy=>
  intro F _ fu h0 W0 cfg st h a W Q Q' hn hf hi g hv hQ
  unfold Q1 at hv
  split at hv
  ·refine wpIn_seq (ihx cfg st h a W _ _ hn hf hi g hv fun e st' h' a' W' hK g' ag=>?_)
   cases e with
   | normal=>exact ihy cfg st' h' a' W' Q Q' hn hf hi g' hK fun e st2 h2 a2 W2 k g2 ag2=>hQ e st2 h2 a2 W2 k g2 (ag.trans ag2)
   | exit id=>exact hQ (.exit id) st' h' a' W' hK g' ag
   | ret=>exact hQ .ret st' h' a' W' hK g' ag
  ·rename_i ann _
   obtain ⟨hok,J,hv1,hv2⟩:=hv.both
   refine wpIn_seq (ihx (cfg.within ann) st h a W _ _ hn hf hi g hv1 fun e st' h' a' W' hK g' ag=>?_)
   cases e with
   | normal=>
    obtain ⟨xs,ys,hx,hy,hk,hJ⟩:=hK.out
    obtain ⟨hl,hz⟩:=Ow hk
    have hb:=allL.at hv2 hl hz h' hJ
    exact ihy cfg _ h' a' W' Q Q' hn hf hi (g'.head hok ag g.wf hn hx hy) hb fun e st2 h2 a2 W2 k g2 ag2=>hQ e st2 h2 a2 W2 k g2 (((Agree.head hok _).within hok).trans ag2)
   | exit id=>exact hQ (.exit id) st' h' a' W' hK g' (ag.within hok)
   | ret=>exact hQ .ret st' h' a' W' hK g' (ag.within hok)
 | cond c x y ihx ihy=>
  intro F _ fu h0 W0 cfg st h a W Q Q' hn hf hi g hv hQ
  unfold Q1 at hv
  split at hv
  ·rename_i b hb
   obtain ⟨θ,r,_,_⟩:=id g
   cases b with
   | true=>exact wpIn_cond_true (r.evalVal hb) (ihx cfg st h a W Q Q' hn hf hi g hv hQ)
   | false=>exact wpIn_cond_false (r.evalVal hb) (ihy cfg st h a W Q Q' hn hf hi g hv hQ)
  ·exact hv.elim
 | block id b ih=>
  intro F _ fu h0 W0 cfg st h a W Q Q' hn hf hi g hv hQ
  unfold Q1 at hv
  refine wpIn_block (ih cfg st h a W _ _ hn hf hi g hv fun e st' h' a' W' hK g' ag=>?_)
  cases e with
  | normal=>exact hQ .normal st' h' a' W' hK g' ag
  | ret=>exact hQ .ret st' h' a' W' hK g' ag
  | exit j=>
   by_cases hj:j=id
   ·subst hj
    have hK:Q .normal st' h':=by simpa using hK
    show Exit.inBlock j Q' (.exit j) a' W'
    simp only [Exit.inBlock,if_true]
    exact hQ .normal st' h' a' W' hK g' ag
   ·have hK:Q (.exit j) st' h':=by simpa [Bn hj] using hK
    show Exit.inBlock id Q' (.exit j) a' W'
    simp only [Exit.inBlock,hj,if_false]
    exact hQ (.exit j) st' h' a' W' hK g' ag
 | loop b ih=>
  intro F _ fu h0 W0 cfg st h a W Q Q' hn hf hi g hv hQ
  unfold Q1 at hv
  split at hv
  ·exact hv.elim
  ·rename_i ann _
   obtain ⟨hok,Inv,μ,h1,h2⟩:=hv.both
   obtain ⟨xs,ys,hx,hy,hk,hI⟩:=h1.out
   have wf0:=g.wf
   refine Tn (fun (z:List Value × Heap) a' W'=>La ann.zs z.1=true/\Inv z.1 z.2/\Good n h0 W0 (Bh ann st z.1) z.2 a' W') (fun z=>μ z.1 z.2) (xs++ys,h) ⟨hk,hI,g.head hok (Agree.refl _ _) wf0 hn hx hy⟩ ?_
   intro z a1 W1 ⟨hk1,hI1,g1⟩
   obtain ⟨hl,hz⟩:=Ow hk1
   have hb:=allL.at h2 hl hz z.2 hI1
   refine ih (cfg.within ann) _ z.2 a1 W1 _ _ hn hf hi g1 hb fun e st' h' a' W' hK g' ag=>?_
   have ag0:Agree (some ann.lim) st st':=(Agree.head hok _).trans ag
   cases e with
   | normal=>
    obtain ⟨xs',ys',hx',hy',hk',hI',hμ⟩:=hK.out
    exact ⟨(xs'++ys',h'),⟨hk',hI',g'.head hok ag0 wf0 hn hx' hy'⟩,hμ⟩
   | exit id=>exact hQ (.exit id) st' h' a' W' hK g' (ag0.within hok)
   | ret=>exact hQ .ret st' h' a' W' hK g' (ag0.within hok)
 | exit id=>exact fun {F} _ {fu h0 W0} cfg st h a W Q Q' hn hf hi g hv hQ=>wpIn_exit (hQ (.exit id) st h a W hv g (Agree.refl _ _))
 | ret=>exact fun {F} _ {fu h0 W0} cfg st h a W Q Q' hn hf hi g hv hQ=>wpIn_ret (hQ .ret st h a W hv g (Agree.refl _ _))
 | rangeFunc x ps asg body iha ihb=>
  intro F _ fu h0 W0 cfg st h a W Q Q' hn hf hi g hv hQ
  unfold Q1 at hv
  split at hv
  ·rename_i v zs hev hann
   obtain ⟨hok,hv⟩:=hv.both
   simp only [Bool.and_eq_true,Bool.not_eq_true',List.all_eq_true] at hok
   obtain ⟨⟨hlen,hps⟩,hinr⟩:=hok
   obtain rfl:=hi hinr
   refine A09 g hev (Nat.eq_of_beq_eq_true hlen) (fun t ht=>by rw [<- hn];exact Nat.le_of_ble_eq_true (hps t ht)) hv ?_ (fun h' a' W' hK g'=>hQ .normal st h' a' W' hK g' (Agree.refl _ _))
   intro l vs h1 J a1 W1 hb g1
   refine ⟨fun st1 h2=>Q1 P fa body { cfg with lim:=none,inr:=true } st1 h2 fun e _ h3=>
     match e with
     | .normal=>J h3
     | _=>False,fun fu' Q2 hQ2=>?_,fun W1' st1 h2 a2 W2 fu' Q2 hk g2 hQ2=>?_⟩
   ·refine iha (F:=Fence.wide.inRound l) { cfg with lim:=none,inr:=true } _ h1 a1 W1 _ _ hn hf (fun e=>by cases e) g1 hb fun e st' h' a' W' hK g' _=>?_
    cases e with
    | normal=>exact hQ2 st' h' a' W' hK g'
    | _=>exact hK.elim
   ·refine ihb (F:=Fence.wide.inRound l) { cfg with lim:=none,inr:=true } _ h2 a2 W2 _ _ hn hf (fun e=>by cases e) g2 hk fun e st' h' a' W' hK g' _=>?_
    cases e with
    | normal=>exact hQ2 st' h' a' W' hK g'
    | _=>exact hK.elim
  ·exact hv.elim
 | scope b ih=>
  intro F _ fu h0 W0 cfg st h a W Q Q' hn hf hi g hv hQ
  unfold Q1 at hv
  refine Zn (ih cfg st h a W Q (B8k Q') hn hf hi g hv fun e st' h' a' W' hK g' ag=>?_)
  cases e with
  | normal=>exact hQ .normal st' h' a' W' hK g' ag
  | exit id=>exact hQ (.exit id) st' h' a' W' hK g' ag
  | ret=>exact hQ .ret st' h' a' W' hK g' ag
 | label l=>exact fun {F} _ {fu h0 W0} cfg st h a W Q Q' hn hf hi g hv hQ=>wpIn_label (hQ .normal st h a W hv g (Agree.refl _ _))
 | _=>intro F _ fu h0 W0 cfg st h a W Q Q' hn hf hi g hv hQ;exact hv.elim
def B1e(args:List Value):VS:={ env:=fun i=>.val (args.getD i undef),own:=fun _=>none }
def A1w(P:Program)(st:VS):ResultVar->Option Value
 | .tmp t=>match st.env t with
  | .val v=>some v
  | _=>none
 | .cell a t=>match st.env a with
  | .own k off=>match st.own k with
   | some cs=>match Jh P t with
    | some true=>bif Nat.ble (off+P.cellsOf t) cs.length then some (.agg ((cs.drop off).take (P.cellsOf t)).toArray) else none
    | some false=>cs[off]?
    | none=>none
   | none=>none
  | _=>none
def Ol(P:Program)(st:VS):List ResultVar->Option (List Value)
 | []=>some []
 | r::rs=>match A1w P st r with
  | some v=>match Ol P st rs with
   | some vs=>some (v::vs)
   | none=>none
  | none=>none
def Zt:List Value->Value
 | [v]=>v
 | vs=>.tuple vs.toArray
def A05(P:Program)(rs:List ResultVar)(K:Value->Heap->Prop)(e:Ex)(st:VS)(h:Heap):Prop:=
 match e with
 | .exit _=>False
 | _=>match Ol P st rs with
  | some vs=>K (Zt vs) h
  | none=>False
def B9j(P:Program)(fa:FnAnn)(cfg:Cfg)(rs:List ResultVar)(c:Code)(args:List Value)(h:Heap)(K:Value->Heap->Prop):Prop:=
 Q1 P fa c cfg (B1e args) h (A05 P rs K)
theorem A39{θ:Nat->Nat}(r:Rel s0 n θ st h a W){rv:ResultVar}{v:Value}(e:A1w P st rv=some v):
 (match rv with
  | .tmp t=>(pure (a.tmps.getD t undef):Sem Value)
  | .cell x t=>do loadVar t (<- asAddr (a.tmps.getD x undef))).run P W= .ok v W:=by
 cases rv with
 | tmp t=>
  simp only [A1w] at e
  have:=r.slot' t
  split at e
  ·rename_i u hu
   injection e with e;subst e
   rw [hu] at this
   have this:a.tmps.getD t undef=u:=this
   simp [this]
  ·cases e
 | cell x t=>
  simp only [A1w] at e
  have hx:=r.slot' x
  split at e
  ·rename_i k off hk
   rw [hk] at hx
   have hx:a.tmps.getD x undef= .pointer (some ⟨θ k,off,none⟩):=hx
   split at e
   ·rename_i cs hcs
    have hl:T4 P t cs off fun w=>w= .val v:=by
     split at e
     ·rename_i hag
      cases hb:Nat.ble (off+P.cellsOf t) cs.length with
      | false=>rw [hb] at e;cases e
      | true=>
       rw [hb] at e;injection e with e
       unfold T4;rw [hag]
       simp only [Hq hag,hb,Bool.and_self]
       show _=_
       rw [e]
     ·rename_i hag
      unfold T4;rw [hag];simp only [e]
     ·cases e
    obtain ⟨u,hu,hr⟩:=Iz r hcs hl
    injection hu with hu;subst hu
    simp only [Instr.loadAt,Instr.sureAddr,Sem.run_bind,Sem.run_pure,Result.andThen_ok] at hr
    simp only [hx,asAddr,Sem.run_bind,Sem.run_pure,Result.andThen_ok,hr]
   ·cases e
  ·cases e
theorem A06{θ:Nat->Nat}(r:Rel s0 n θ st h a W)(rs:List ResultVar):∀ {vs:List Value},Ol P st rs=some vs->
 (rs.mapM fun (rv:ResultVar)=>match rv with
  | .tmp t=>(pure (a.tmps.getD t undef):Sem Value)
  | .cell x t=>do loadVar t (<- asAddr (a.tmps.getD x undef))).run P W= .ok vs W:=by
 induction rs with
 | nil=>intro vs e;injection e with e;subst e;simp
 | cons rv rs ih=>
  intro vs e
  unfold Ol at e
  split at e
  ·rename_i v hv
   split at e
   ·rename_i ws hws
    injection e with e;subst e
    rw [List.mapM_cons]
    simp only [Sem.run_bind,A39 r hv,Result.andThen_ok,ih hws,Sem.run_pure]
   ·cases e
  ·cases e
def C2(fn:Func):Code:=
 match fn.body with
 | some c=>c
 | none=>.skip
theorem Bodies.nil:Bodies P []:=fun g hg=>by cases hg
theorem B0{g:Nat}{l:List Nat}(hg:∀ args W,(callFunc g args).run P W= .ok (.enter g args) W)(hl:Bodies P l):Bodies P (g::l):=fun k hk=>by
 cases hk with
 | head=>exact hg
 | tail _ hk=>exact hl k hk
theorem Ng{r:Nat}(e:W.heap[r]? = some (.deferred (some []))):(Instr.takeDeferred r).run P W= .ok [] (World.setO W r (.deferred none)):=by
 simp [Instr.takeDeferred,getObj,Sem.run_bind,Sem.run,e,Gs e (by intro c t f h;cases h)]
theorem A62{fn:Func}{tmps:Array Value}{R:Ending->World->Prop}: ∀ (ds:List Deferred) (W:World) (rs:List Nat),rs.Nodup->ds.map (·.target)=rs.map Target.collected->(∀ r∈rs,W.heap[r]? = some (.deferred (some [])))->
 (∀ W2:World,W2.os=W.os->W2.tape=W.tape->W2.output=W.output->W2.heap.size=W.heap.size->(∀ b,b∉rs->W2.heap[b]? = W.heap[b]?)->∃ v,(results fn tmps).run P W2= .ok v W2/\R (.returned v) W2)->
 LeavesInM Fence.wide 0 P fn tmps R ds .returning W:=by
 intro ds
 induction ds with
 | nil=>
  intro W rs _ e _ x
  exact x W rfl rfl rfl rfl (fun _ _=>rfl)
 | cons d ds ih=>
  intro W rs nd e hr x
  cases rs with
  | nil=>cases e
  | cons r rs=>
   simp only [List.map_cons,List.cons.injEq] at e
   have e0:=hr r (by simp)
   obtain ⟨nd1,nd2⟩:=List.nodup_cons.1 nd
   refine ⟨by simp,.inl ⟨r,_,e.1,Ng e0,ih _ rs nd2 e.2 (fun q hq=>?_) (fun W2 a1 a2 a3 a4 a5=>x W2 a1 a2 a3 (by rw [a4];simp [World.setO]) (fun b hb=>?_))⟩⟩
   ·rw [I9 (by rintro rfl;exact nd1 hq)];exact hr q (by simp [hq])
   ·simp only [List.mem_cons,not_or] at hb
    rw [a5 b hb.2,I9 hb.1]
theorem B7{f:FuncId}{fn:Func}(hf:P.funcs[f]? = some fn){c:Code}(hb:fn.body=some c){rs:List ResultVar}(hr:fn.results.toList=rs){fa:FnAnn}{cfg:Cfg}{args:List Value}(hn:cfg.n=args.length+(fn.ntmps-args.length))(hfn:Bodies P cfg.fns){h:Heap}{K:Value->Heap->Prop}
 (hv:B9j P fa cfg rs c args h K):FCall P f args.toArray h K:=by
 intro W hs
 subst hr
 have g:Good cfg.n h W (B1e args) h { tmps:=args.toArray++Array.replicate (fn.ntmps-args.toArray.size) undef,defers:=[] } W:=by
  refine ⟨fun _=>0,⟨MarksOk.nil,by simp [hn],fun i hi=>?_,hs,(fun k cs e=>by cases e),(fun k k' hk=>by cases hk),(fun i k off e=>by cases e),fun i hi=>?_⟩,Fr.refl hs,(fun k hk=>by cases hk)⟩
  ·show _=args.getD i undef
   rcases Nat.lt_or_ge i args.length with x|x
   ·simp [Array.getD,x,List.getD];omega
   ·have:i<args.length+(fn.ntmps-args.length):=by rw [<- hn];exact hi
    simp [Array.getD,this,List.getD,Array.getElem_append,Nat.not_lt.2 x]
  ·show AVal.val (args.getD i undef)=_
   have:args.length<=i:=by rw [hn] at hi;omega
   simp [List.getD,List.getElem?_eq_none this]
 refine callsIn_wide.1 (callsIn_of_wp_marks (n:=0) hf hb trivial (A3o c (F:=Fence.wide) cfg _ h _ W _ _ rfl hfn (fun _=>rfl) g hv fun e st' h' a' W' hK g' _=>?_))
 obtain ⟨θ,r,fr,_⟩:=g'
 have fin:∀ vs,Ol P st' fn.results.toList=some vs->K (Zt vs) h'->bodyPostM Fence.wide 0 P fn (fun e W'=>∃ r h',e= .returned r/\K r h'/\Fr h W h' W') .ret a' W':=by
  intro vs hvs hK
  obtain ⟨rs,nd,em,hrs⟩:=r.defers
  refine A62 a'.defers W' rs nd em (fun q hq=>(hrs q hq).2.2) ?_
  intro W2 b1 b2 b3 b4 b5
  have fr2:Fr h W h' W2:=by
   refine ⟨fun b o e=>?_,b1.trans fr.os,b2.trans fr.tape,b3.trans fr.output,by rw [b4];exact fr.size,fun b hb e=>?_,fr.new⟩
   ·rw [b5 b (fun hm=>by rw [(hrs b hm).2.1] at e;cases e)];exact fr.sim b o e
   ·rw [b5 b (fun hm=>by have:=(hrs b hm).1;omega)];exact fr.keep b hb e
  have r2:Rel W.heap.size cfg.n θ st' h' { a' with defers:=[] } W2:=by
   refine ⟨MarksOk.nil,r.size,r.slot,fr2.sim,fun k cs e=>?_,r.inj,r.wf,r.out⟩
   obtain ⟨t,g1,g2⟩:=r.own k cs e
   exact ⟨t,by rw [b5 _ (fun hm=>by rw [(hrs _ hm).2.2] at g1;cases g1)];exact g1,g2⟩
  refine ⟨Zt vs,?_,_,h',rfl,hK,fr2⟩
  have hm:=A06 (P:=P) r2 fn.results.toList hvs
  have e:(results fn a'.tmps).run P W2=((fn.results.toList.mapM (fun (rv:ResultVar)=>match rv with
   | .tmp t=>(pure (a'.tmps.getD t undef):Sem Value)
   | .cell x t=>do loadVar t (<- asAddr (a'.tmps.getD x undef)))).run P W2).andThen fun l w=>.ok (if h:l.toArray.size=1 then l.toArray[0] else .tuple l.toArray) w:=by
   unfold results
   rw [Sem.run_bind,Array.mapM_eq_mapM_toList]
   simp only [map_eq_pure_bind,Sem.run_bind]
   generalize Sem.run P _ W2=x
   cases x<;>simp
  rw [e,hm,Result.andThen_ok]
  cases vs with
  | nil=>rfl
  | cons v vs=>cases vs<;>rfl
 cases e with
 | exit id=>exact hK.elim
 | normal=>
  unfold A05 at hK
  split at hK
  ·exact hK.elim
  ·split at hK
   ·rename_i vs hvs;exact fin vs hvs hK
   ·exact hK.elim
 | ret=>
  unfold A05 at hK
  split at hK
  ·exact hK.elim
  ·split at hK
   ·rename_i vs hvs;exact fin vs hvs hK
   ·exact hK.elim
end
abbrev I(n:Int):Value:=.int .i64 n
abbrev I32(n:Int):Value:=.int .i32 n
abbrev U(n:Int):Value:=.int .u64 n
abbrev U32(n:Int):Value:=.int .u32 n
abbrev Y(n:Int):Value:=.int .u8 n
abbrev B4(n:Int):Int:=IntKind.i64.wrap n
abbrev B9q(n:Int):Int:=IntKind.i32.wrap n
abbrev B9(n:Int):Int:=IntKind.u64.wrap n
abbrev F3(n:Int):Int:=IntKind.u32.wrap n
abbrev wu8(n:Int):Int:=IntKind.u8.wrap n
def Ni(k:IntKind)(x y:Int):Int:=k.wrap (BitVec.ofInt k.bits x &&& BitVec.ofInt k.bits y).toNat
def bor(k:IntKind)(x y:Int):Int:=k.wrap (BitVec.ofInt k.bits x ||| BitVec.ofInt k.bits y).toNat
end Go.Proofs.YtajkakhfcokljaaGreatDoor
