/-
  Texts of this proof, merged by a program of ours.
-/
import Derived.Test.YtajkakhfcokljaaGreatDoorG02
namespace Go.Proofs.YtajkakhfcokljaaGreatDoor
open Go
def O9(cfg:Cfg)(o:Oper):Bool:=
 match o.op with
 | .alloc _ | .box _ _=>Jg cfg o.dst
 | _=>false
def Z1(P:Program)(cfg:Cfg)(o:Oper):Bool:=On P o||O9 cfg o
def A6k(ops:Array Oper)(y:Nat):Bool:=ops.toList.all fun o=>match o.dst with
 | some d=> !Nat.beq d y
 | none=>true
def A4p(cfg:Cfg)(o:Oper):Bool:=
 match o.op with
 | .call c=>
  match c.callee with
  | .value (.func g)=>has cfg.wr g
  | .value (.tmp _)=>true
  | .builtin .copy=>true
  | .builtin .append=>has cfg.wr 1000000000
  | _=>false
 | _=>false
def Fl(o:Oper)(st:VS):Bool:=
 match o.op with
 | .load _ a=>(match D0 st a with
  | .own _ _=>false
  | _=>true)
 | _=>false
def Ln(cfg:Cfg)(ops:Array Oper)(oj oi:Oper)(st:VS):Bool:=
 !(A4p cfg oi&&Fl oj st) &&
 match oi.op with
 | .store _ (.tmp y) _=>
  match oj.op with
  | .load _ a=>A6k ops y&&(match D0 st a,st.env y with
   | .own k _,.own k' _=> !Nat.beq k k'
   | .val _,.own _ _=>true
   | _,_=>false)
  | _=>true
 | .store _ _ _=>false
 | _=>true
def A9f(P:Program)(cfg:Cfg)(al:Nat->List Nat)(oj:Oper)(j:Nat):Bool:=Z1 P cfg oj&&(al j).isEmpty
def A5m(P:Program)(cfg:Cfg)(ops:Array Oper)(anc:List (List Nat))(al:Nat->List Nat)(st:VS)(oj:Oper)(j i:Nat):Bool:=
 has (anc.getD i []) j ||
 match ops[i]? with
 | some oi=>A9f P cfg al oj j&&oj.apart ops oi&&Ln cfg ops oj oi st
 | none=>false
def Hs(cfg:Cfg)(o:Oper):Bool:=
 match o.op with
 | .store _ _ _=>false
 | _=> !A4p cfg o
def Uc(P:Program)(cfg:Cfg)(ops:Array Oper)(anc:List (List Nat))(al:Nat->List Nat)(st:VS)(oj:Oper)(j i:Nat):Bool:=
 A5m P cfg ops anc al st oj j i||(!A9f P cfg al oj j&&has (al j) i)
def B4s(i:Nat):List Nat->List Nat
 | []=>[]
 | x::L=>bif Nat.beq x i then [] else x::B4s i L
def del(i:Nat):List Nat->List Nat
 | []=>[]
 | x::L=>bif Nat.beq x i then L else x::del i L
def Yf(P:Program)(cfg:Cfg)(anc:List (List Nat))(al:Nat->List Nat)(oj:Oper)(j:Nat)(L:List Nat):List Nat:=
 match A9f P cfg al oj j with
 | true=>[]
 | false=>(al j).filter fun i=>has L i&&(B4s i L).all (fun x=> !has (anc.getD i []) x) && !has (anc.getD i []) j
def B8d(f:Nat->Prop):Nat->List Nat->Prop
 | i,[]=>f i
 | i,k::r=>f i/\B8d f k r
def B8e(A:Prop)(f:Nat->Prop):List Nat->Prop
 | []=>A
 | i::r=>A/\B8d f i r
def Cb(P:Program)(cfg:Cfg)(ops:Array Oper)(anc:List (List Nat))(al:Nat->List Nat):Nat->List Nat->VS->Heap->(VS->Heap->Prop)->Prop
 | _,[],st,h,K=>K st h
 | 0,_::_,_,_,_=>False
 | n+1,j::L,st,h,K=>
  match ops[j]? with
  | none=>False
  | some o=>When (L.all (Uc P cfg ops anc al st o j))
   (B8e (Mc P cfg ops o (Hs cfg o) st h fun st' h'=>Cb P cfg ops anc al n L st' h' K)
    (fun i=>
     match ops[i]? with
     | none=>False
     | some oi=>Mc P cfg ops oi (Hs cfg oi) st h fun st' h'=>Cb P cfg ops anc al n (j::del i L) st' h' K)
    (Yf P cfg anc al o j L))
theorem A7g{f:Nat->Prop}{i:Nat}: ∀ {k:Nat} {r:List Nat},B8d f k r->i∈k::r->f i
 | k,[],x,h=>by rw [List.mem_singleton.1 h];exact x
 | k,m::r,x,h=>by
  rcases List.mem_cons.1 h with rfl|h
  ·exact x.1
  ·exact A7g x.2 h
theorem A2h{A:Prop}{f:Nat->Prop}: ∀ {r:List Nat},B8e A f r->A
 | [],x=>x
 | _::_,x=>x.1
theorem B3v{A:Prop}{f:Nat->Prop}{i:Nat}: ∀ {r:List Nat},B8e A f r->i∈r->f i
 | [],_,h=>by cases h
 | _::_,x,h=>A7g x.2 h
theorem A1m{i:Nat}{L2:List Nat}: ∀ {L1:List Nat},i∉L1->B4s i (L1++i::L2)=L1/\del i (L1++i::L2)=L1++L2
 | [],_=>by simp [B4s,del]
 | x::L1,h=>by
  have hx:Nat.beq x i=false:=by
   cases e:Nat.beq x i with
   | false=>rfl
   | true=>
    have he:=Nat.eq_of_beq_eq_true e
    subst he
    exact absurd List.mem_cons_self h
  obtain ⟨h1,h2⟩:=A1m (L2:=L2) (L1:=L1) (i:=i) (fun hm=>h (List.mem_cons_of_mem _ hm))
  simp only [List.cons_append,B4s,del,hx,h1,h2,cond_false,and_self]
def B63(ops:Array Oper)(anc:List (List Nat)):Bool:=
 (List.range ops.size).all fun i=>(anc.getD i []).all fun j=>
  match ops[i]? with
  | some o=>o.after.toList.any fun e=>Region.binds .any e&&(Nat.beq e.on j||has (anc.getD e.on []) j)
  | none=>false
def A5p(ops:Array Oper):List Nat->List Nat->Bool
 | _,[]=>true
 | done,i::L=>
  (match ops[i]? with
   | some o=>o.after.toList.all fun e=> !Region.binds .any e||has done e.on
   | none=>false) && !has done i&&A5p ops (i::done) L
def A71(P:Program)(ops:Array Oper)(ord:List Nat)(anc:List (List Nat)):Bool:=
 P.follows .mixedOrders&&B63 ops anc&&A5p ops [] ord&&(List.range ops.size).all (has ord)&&Nat.beq ord.length ops.size
section
variable {P:Program} {cfg:Cfg} {ops:Array Oper}
structure AgreeOn (cfg:Cfg) (ops:Array Oper) (o:Oper) (st st':VS):Prop where
 env:∀ x∈o.looksAt ops,st'.env x=st.env x
 load:∀ t a k off,o.op= .load t a->D0 st a= .own k off->st'.own k=st.own k
 alloc:∀ d,O9 cfg o=true->o.dst=some d->st.own d=none->st'.own d=none
theorem AgreeOn.eval{o:Oper}{st st':VS}(ag:AgreeOn cfg ops o st st'){x:Operand}(hx:x∈o.op.operands):D0 st' x=D0 st x:=by
 cases x with
 | tmp t=>
  refine ag.env t ?_
  unfold Oper.looksAt
  exact List.mem_append_left _ (List.mem_filterMap.2 ⟨.tmp t,by simpa using hx,rfl⟩)
 | _=>rfl
theorem AgreeOn.rho{o:Oper}{st st':VS}(ag:AgreeOn cfg ops o st st'){x:Operand}(hx:x∈o.op.operands):rho st' x=rho st x:=by
 unfold Go.Proofs.YtajkakhfcokljaaGreatDoor.rho;rw [ag.eval hx]
theorem A2b{z:Value}{K K':Value->Prop}(x:exV z K)(hk:∀ v,K v->K' v):exV z K':=by
 cases z<;>(unfold exV at x ⊢)<;>first
  | (obtain ⟨n,hn⟩:=x;exact ⟨n,hk _ hn⟩)
  | (obtain ⟨p,n,c,hn⟩:=x;exact ⟨p,n,c,hk _ hn⟩)
theorem B02{zs:List Value}: ∀ {K K':List Value->Prop},exL zs K->(∀ v,K v->K' v)->exL zs K':=by
 induction zs with
 | nil=>exact fun x hk=>hk _ x
 | cons z zs ih=>exact fun x hk=>A2b x fun v y=>ih y fun vs=>hk _
theorem A6s{z:Value}{K:Value->Prop}(x:exV z K):∃ v,K v/\∀ K':Value->Prop,K' v->exV z K':=by
 cases z<;>(unfold exV at x)<;>first
  | (obtain ⟨n,hn⟩:=x;exact ⟨_,hn,fun K' y=>⟨_,y⟩⟩)
  | (obtain ⟨p,n,c,hn⟩:=x;exact ⟨_,hn,fun K' y=>⟨_,_,_,y⟩⟩)
theorem B3i{zs:List Value}: ∀ {K:List Value->Prop},exL zs K->∃ vs,K vs/\∀ K':List Value->Prop,K' vs->exL zs K':=by
 induction zs with
 | nil=>exact fun x=>⟨[],x,fun _ y=>y⟩
 | cons z zs ih=>
  intro K x
  obtain ⟨v,hv,h1⟩:=A6s x
  obtain ⟨vs,hvs,h2⟩:=ih hv
  exact ⟨v::vs,hvs,fun K' y=>h1 _ (h2 _ y)⟩
theorem A0w{h:Heap}{a:Addr}: ∀ {vs:List Value} {j:Nat} {X:Prop},cellsAt h a j vs X->X/\∀ h' (Y:Prop),h.le h'->Y->cellsAt h' a j vs Y:=by
 intro vs
 induction vs with
 | nil=>exact fun x=>⟨x,fun _ _ _ y=>y⟩
 | cons v vs ih=>
  intro j X ⟨h1,h2⟩
  obtain ⟨hx,hr⟩:=ih h2
  exact ⟨hx,fun h' Y hl y=>⟨D5 hl h1,hr h' Y hl y⟩⟩
theorem Xl{h:Heap}{t:TypeId}{a:Addr}{C:AVal->Prop}(x:U3 P t a h C):∃ u,C (.val u)/\∀ h' (C':AVal->Prop),h.le h'->C' (.val u)->U3 P t a h' C':=by
 cases hag:Jh P t with
 | none=>simp only [U3,hag] at x
 | some b=>
  cases b with
  | true=>
   simp only [U3,hag] at x
   split at x
   ·rename_i zs hz
    obtain ⟨hn,x⟩:=x.both
    obtain ⟨vs,hvs,hb⟩:=B3i x
    obtain ⟨hC,hc⟩:=A0w hvs
    refine ⟨_,hC,fun h' C' hl y=>?_⟩
    simp only [U3,hag,hz,hn]
    exact hb _ (hc h' _ hl y)
   ·exact x.elim
  | false=>
   simp only [U3,hag] at x
   obtain ⟨v,⟨h1,h2⟩,hb⟩:=A6s x
   refine ⟨_,h2,fun h' C' hl y=>?_⟩
   simp only [U3,hag]
   exact hb _ ⟨D5 hl h1,y⟩
theorem A0c{t:TypeId}{cs:List Value}{off:Nat}{C:AVal->Prop}(x:T4 P t cs off C):∃ u,C (.val u)/\∀ C':AVal->Prop,C' (.val u)->T4 P t cs off C':=by
 cases hag:Jh P t with
 | none=>simp only [T4,hag] at x
 | some b=>
  cases b with
  | true=>
   simp only [T4,hag] at x
   obtain ⟨hn,x⟩:=x.both
   exact ⟨_,x,fun C' y=>by simp only [T4,hag,hn];exact y⟩
  | false=>
   simp only [T4,hag] at x
   split at x
   ·rename_i v hv
    exact ⟨_,x,fun C' y=>by simp only [T4,hag,hv];exact y⟩
   ·exact x.elim
theorem T1{v:Option AVal}{dflt y:Nat}{C:Nat->Prop}(x:slBound v dflt y C):∃ m,C m/\∀ C':Nat->Prop,C' m->slBound v dflt y C':=by
 rcases x.out with ⟨rfl,hc⟩|⟨k,i,rfl,h0,h1,hc⟩
 ·exact ⟨_,hc,fun _ z=>z⟩
 ·exact ⟨_,hc,fun _ z=>⟨⟨h0,h1⟩,z⟩⟩
theorem Zq{t:TypeId}{x:AVal}{lo hi:Option AVal}{C:AVal->Prop}(hv:De P t x lo hi C):∃ u,C (.val u)/\∀ C':AVal->Prop,C' (.val u)->De P t x lo hi C':=by
 unfold De at hv
 split at hv
 ·rename_i s ht
  obtain ⟨m,h1,h2⟩:=T1 hv
  obtain ⟨l,h3,h4⟩:=T1 h1
  exact ⟨_,h3,fun C' y=>by simp only [De,ht];exact h2 (fun h=>slBound lo 0 h fun l=>C' (.val (.string (s.extract l h)))) (h4 (fun l=>C' (.val (.string (s.extract l m)))) y)⟩
 ·rename_i e A n c ht
  obtain ⟨hn,hv⟩:=hv.both
  obtain ⟨m,h1,h2⟩:=T1 hv
  obtain ⟨l,h3,h4⟩:=T1 h1
  exact ⟨_,h3,fun C' y=>by simp only [De,ht,hn];exact h2 (fun h=>slBound lo 0 h fun l=>C' (.val (.slice (J6 A c l (P.cellsOf e)) (h-l) (c-l)))) (h4 (fun l=>C' (.val (.slice (J6 A c l (P.cellsOf e)) (m-l) (c-l)))) y)⟩
 ·rename_i n e a ht
  obtain ⟨hn,hv⟩:=hv.both
  obtain ⟨m,h1,h2⟩:=T1 hv
  obtain ⟨l,h3,h4⟩:=T1 h1
  exact ⟨_,h3,fun C' y=>by simp only [De,ht,hn];exact h2 (fun h=>slBound lo 0 h fun l=>C' (.val (.slice (J6 (some a) n l (P.cellsOf e)) (h-l) (n-l)))) (h4 (fun l=>C' (.val (.slice (J6 (some a) n l (P.cellsOf e)) (m-l) (n-l)))) y)⟩
 ·exact hv.elim
theorem Tl{b:Bool}{X Y:Prop}(x:Br b X Y):(b=true/\X)\/(b=false/\Y):=by
 cases b
 ·exact .inr ⟨rfl,x⟩
 ·exact .inl ⟨rfl,x⟩
theorem Oe{t:TypeId}{x i:AVal}{C:AVal->Prop}(hv:L6 P t x i C):
 ∃ v,C v/\(∀ k off,v= .own k off->∃ off',x= .own k off')/\∀ C':AVal->Prop,C' v->L6 P t x i C':=by
 unfold L6 at hv
 split at hv
 ·rename_i len e k off _ n ht
  obtain ⟨hn,hv⟩:=hv.both
  rcases Tl hv with ⟨e,hv⟩|⟨_,hv⟩
  ·exact ⟨_,hv,(fun k' off' e'=>by cases e';exact ⟨off,rfl⟩),fun C' y=>by simp only [L6,ht,hn,e];exact y⟩
  ·exact hv.elim
 ·rename_i len e a _ n ht
  obtain ⟨hn,h1,hv⟩:=hv.both
  exact ⟨_,hv,(fun k' off' e'=>by cases e'),fun C' y=>by simp only [L6,ht,hn];exact ⟨h1,y⟩⟩
 ·rename_i e A n c _ i ht
  obtain ⟨hn,a,h1,h2,h3,hv⟩:=hv.both
  exact ⟨_,hv,(fun k' off' e'=>by cases e'),fun C' y=>by simp only [L6,ht,hn];exact ⟨a,h1,h2,h3,y⟩⟩
 ·exact hv.elim
theorem V5{st st':VS}{xs:List Operand}(h:∀ x∈xs,D0 st' x=D0 st x):N6 st' xs=N6 st xs:=by
 unfold N6
 induction xs with
 | nil=>rfl
 | cons x xs ih=>simp only [List.all_cons,h x (by simp),ih (fun y hy=>h y (by simp [hy]))]
theorem Ko{o:Oper}{st:VS}(hsel:∀ cs b,o.op ≠ .select cs b){C:AVal->Prop}(hv:Ig P o st C):∃ u,C (.val u)/\∀ st' (C':AVal->Prop),AgreeOn cfg ops o st st'->C' (.val u)->Ig P o st' C':=by
 unfold Ig at hv
 split at hv
 ·rename_i e
  split at hv
  ·rename_i v hp
   refine ⟨_,hv,fun st' C' ag y=>?_⟩
   unfold Ig
   have h1:N6 st' o.op.operands.toList=true:=by rw [V5 (fun x hx=>ag.eval (by simpa using hx))];exact e
   have h2:execOp (rho st') o=execOp (rho st) o:=execOp_congr o hsel fun x hx=>ag.rho hx
   rw [h1]
   simp only [h2,hp]
   exact y
  ·exact hv.elim
 ·exact hv.elim
theorem Wk{t:TypeId}{xs ys:Array Value}{C:Bool->Prop}(hv:Wl P t xs ys C):∃ b,C b/\∀ C':Bool->Prop,C' b->Wl P t xs ys C':=by
 unfold Wl at hv
 split at hv
 ·rename_i fs hu
  obtain ⟨hn,hv⟩:=hv.both
  split at hv
  ·rename_i b hb
   exact ⟨b,hv,fun C' y=>by simp only [Wl,hu,hn,hb];exact y⟩
  ·exact hv.elim
 ·exact hv.elim
theorem A4r{o:Oper}{st:VS}{op:BinOp}{t t':TypeId}{x z:Operand}(hop:o.op= .binOp op t x z t'){C:AVal->Prop}(hv:Gz P o st op t (D0 st x) (D0 st z) C):
 ∃ u,C (.val u)/\∀ st' (C':AVal->Prop),AgreeOn cfg ops o st st'->C' (.val u)->Gz P o st' op t (D0 st' x) (D0 st' z) C':=by
 have hsel:∀ cs b,o.op ≠ .select cs b:=by rw [hop];intro _ _ e;cases e
 have hx:∀ st',AgreeOn cfg ops o st st'->D0 st' x=D0 st x/\D0 st' z=D0 st z:=fun st' ag=>⟨ag.eval (by rw [hop];simp [Op.operands]),ag.eval (by rw [hop];simp [Op.operands])⟩
 unfold Gz at hv
 split at hv
 ·rename_i h1 h2
  obtain ⟨b,hc,hs⟩:=Wk hv
  exact ⟨_,hc,fun st' C' ag y=>by rw [(hx st' ag).1,(hx st' ag).2];simp only [Gz,h1,h2];exact hs (fun b=>C' (.val (.bool b))) y⟩
 ·rename_i h1 h2
  obtain ⟨b,hc,hs⟩:=Wk hv
  exact ⟨_,hc,fun st' C' ag y=>by rw [(hx st' ag).1,(hx st' ag).2];simp only [Gz,h1,h2];exact hs (fun b=>C' (.val (.bool (!b)))) y⟩
 ·rename_i h1 h2
  obtain ⟨hn,hv⟩:=hv.both
  exact ⟨_,hv,fun st' C' ag y=>by rw [(hx st' ag).1,(hx st' ag).2];simp only [Gz,h1,h2,hn];exact y⟩
 ·rename_i h1 h2
  obtain ⟨hn,hv⟩:=hv.both
  exact ⟨_,hv,fun st' C' ag y=>by rw [(hx st' ag).1,(hx st' ag).2];simp only [Gz,h1,h2,hn];exact y⟩
 ·rename_i h1 h2
  obtain ⟨hn,hv⟩:=hv.both
  rcases Tl hv with ⟨e,hv⟩|⟨e,hv⟩
  ·exact hv.elim
  ·exact ⟨_,hv,fun st' C' ag y=>by rw [(hx st' ag).1,(hx st' ag).2];simp only [Gz,h1,h2,hn,e];exact y⟩
 ·rename_i h1 h2
  obtain ⟨hn,hv⟩:=hv.both
  rcases Tl hv with ⟨e,hv⟩|⟨e,hv⟩
  ·exact hv.elim
  ·exact ⟨_,hv,fun st' C' ag y=>by rw [(hx st' ag).1,(hx st' ag).2];simp only [Gz,h1,h2,hn,e];exact y⟩
 ·rename_i h1 h2
  rcases Tl hv with ⟨e,hv⟩|⟨e,hv⟩
  ·exact hv.elim
  ·exact ⟨_,hv,fun st' C' ag y=>by rw [(hx st' ag).1,(hx st' ag).2];simp only [Gz,h1,h2,e];exact y⟩
 ·rename_i h1 h2
  rcases Tl hv with ⟨e,hv⟩|⟨e,hv⟩
  ·exact hv.elim
  ·exact ⟨_,hv,fun st' C' ag y=>by rw [(hx st' ag).1,(hx st' ag).2];simp only [Gz,h1,h2,e];exact y⟩
 ·rename_i h1 h2
  exact ⟨_,hv.2,fun st' C' ag y=>by rw [(hx st' ag).1,(hx st' ag).2];simp only [Gz,h1,h2];exact ⟨hv.1,y⟩⟩
 ·rename_i n8 n9 n6 n7 n1 n2 n3 n4 n5
  obtain ⟨u,hC,hs⟩:=Ko (cfg:=cfg) (ops:=ops) hsel hv
  refine ⟨u,hC,fun st' C' ag y=>?_⟩
  rw [(hx st' ag).1,(hx st' ag).2]
  unfold Gz
  split
  ·rename_i h1 h2;exact (n8 _ _ rfl h1 h2).elim
  ·rename_i h1 h2;exact (n9 _ _ rfl h1 h2).elim
  ·rename_i h1 h2;exact (n6 _ _ _ _ _ rfl h1 h2).elim
  ·rename_i h1 h2;exact (n7 _ _ _ _ _ rfl h1 h2).elim
  ·rename_i h1 h2;exact (n1 _ _ _ _ rfl h1 h2).elim
  ·rename_i h1 h2;exact (n2 _ _ _ _ rfl h1 h2).elim
  ·rename_i h1 h2;exact (n3 _ _ _ _ rfl h1 h2).elim
  ·rename_i h1 h2;exact (n4 _ _ _ _ rfl h1 h2).elim
  ·rename_i h1 h2;exact (n5 _ _ rfl h1 h2).elim
  ·exact hs st' C' ag y
theorem B2k{o:Oper}{st:VS}{h:Heap}(hsel:∀ cs b,o.op ≠ .select cs b){C:AVal->Prop}(hv:vcQ P o st h C):
 ∃ v,C v/\(∀ k off,v= .own k off->∃ x off',x∈o.op.operands/\D0 st x= .own k off')/\∀ st' h' C',(Fl o st=true->h.le h')->AgreeOn cfg ops o st st'->C' v->vcQ P o st' h' C':=by
 unfold vcQ at hv
 split at hv
 ·rename_i x hop
  refine ⟨_,hv,(fun k off e=>⟨x,off,(by rw [hop];simp [Op.operands]),e⟩),fun st' h' C' hl ag y=>?_⟩
  unfold vcQ;simp only [hop,ag.eval (x:=x) (by rw [hop];simp [Op.operands])];exact y
 ·rename_i x hop
  refine ⟨_,hv,(fun k off e=>⟨x,off,(by rw [hop];simp [Op.operands]),e⟩),fun st' h' C' hl ag y=>?_⟩
  unfold vcQ;simp only [hop,ag.eval (x:=x) (by rw [hop];simp [Op.operands])];exact y
 ·rename_i c x z hop
  split at hv
  ·rename_i b hb
   have hc:∀ st',AgreeOn cfg ops o st st'->D0 st' c= .val (.bool b)/\D0 st' x=D0 st x/\D0 st' z=D0 st z:=fun st' ag=>
    ⟨by rw [ag.eval (x:=c) (by rw [hop];simp [Op.operands])];exact hb,ag.eval (by rw [hop];simp [Op.operands]),ag.eval (by rw [hop];simp [Op.operands])⟩
   rcases Tl hv with ⟨e,hv⟩|⟨e,hv⟩
   ·refine ⟨_,hv,(fun k off e=>⟨x,off,(by rw [hop];simp [Op.operands]),e⟩),fun st' h' C' hl ag y=>?_⟩
    obtain ⟨h1,h2,h3⟩:=hc st' ag
    unfold vcQ;simp only [hop,h1,h2,h3,e];exact y
   ·refine ⟨_,hv,(fun k off e=>⟨z,off,(by rw [hop];simp [Op.operands]),e⟩),fun st' h' C' hl ag y=>?_⟩
    obtain ⟨h1,h2,h3⟩:=hc st' ag
    unfold vcQ;simp only [hop,h1,h2,h3,e];exact y
  ·exact hv.elim
 ·rename_i t x hop
  have hx:∀ st',AgreeOn cfg ops o st st'->D0 st' x=D0 st x:=fun st' ag=>ag.eval (by rw [hop];simp [Op.operands])
  split at hv
  ·rename_i k off hk
   split at hv
   ·rename_i cs hcs
    obtain ⟨u,hC,hs⟩:=A0c hv
    refine ⟨_,hC,(fun k off e=>by cases e),fun st' h' C' hl ag y=>?_⟩
    unfold vcQ;simp only [hop,hx st' ag,hk,ag.load t x k off hop hk,hcs];exact hs C' y
   ·exact hv.elim
  ·rename_i ad hk
   obtain ⟨u,hC,hs⟩:=Xl hv
   refine ⟨_,hC,(fun k off e=>by cases e),fun st' h' C' hl ag y=>?_⟩
   unfold vcQ;simp only [hop,hx st' ag,hk];exact hs h' C' (hl (by simp only [Fl,hop,hk])) y
  ·exact hv.elim
 ·rename_i s x f hop
  have hx:∀ st',AgreeOn cfg ops o st st'->D0 st' x=D0 st x:=fun st' ag=>ag.eval (by rw [hop];simp [Op.operands])
  split at hv
  ·rename_i k off hk
   split at hv
   ·rename_i fs hu
    split at hv
    ·rename_i fd hf
     obtain ⟨hb,hv⟩:=hv.both
     refine ⟨_,hv,(fun k' off' e=>by cases e;exact ⟨x,off,(by rw [hop];simp [Op.operands]),hk⟩),fun st' h' C' hl ag y=>?_⟩
     unfold vcQ;simp only [hop,hx st' ag,hk,hu,hf,hb];exact y
    ·exact hv.elim
   ·exact hv.elim
  ·rename_i ad hk
   split at hv
   ·rename_i fs hu
    split at hv
    ·rename_i fd hf
     obtain ⟨hb,hv⟩:=hv.both
     refine ⟨_,hv,(fun k' off' e=>by cases e),fun st' h' C' hl ag y=>?_⟩
     unfold vcQ;simp only [hop,hx st' ag,hk,hu,hf,hb];exact y
    ·exact hv.elim
   ·exact hv.elim
  ·exact hv.elim
 ·rename_i x hop
  have hx:∀ st',AgreeOn cfg ops o st st'->D0 st' x=D0 st x:=fun st' ag=>ag.eval (by rw [hop];simp [Op.operands])
  split at hv
  ·rename_i k off hk
   refine ⟨_,hv,(fun k' off' e=>by cases e;exact ⟨x,off,(by rw [hop];simp [Op.operands]),hk⟩),fun st' h' C' hl ag y=>?_⟩
   unfold vcQ;simp only [hop,hx st' ag,hk];exact y
  ·rename_i p hk
   obtain ⟨ad,hp,hv⟩:=hv
   refine ⟨_,hv,(fun k' off' e=>by cases e),fun st' h' C' hl ag y=>?_⟩
   unfold vcQ;simp only [hop,hx st' ag,hk];exact ⟨ad,hp,y⟩
  ·exact hv.elim
 ·rename_i t x i hop
  obtain ⟨v,hC,hw,hs⟩:=Oe hv
  refine ⟨_,hC,(fun k off e=>let ⟨off',e'⟩:=hw k off e;⟨x,off',(by rw [hop];simp [Op.operands]),e'⟩),fun st' h' C' hl ag y=>?_⟩
  unfold vcQ;simp only [hop,ag.eval (x:=x) (by rw [hop];simp [Op.operands]),ag.eval (x:=i) (by rw [hop];simp [Op.operands])];exact hs C' y
 ·rename_i t x i hop
  have hx:∀ st',AgreeOn cfg ops o st st'->D0 st' x=D0 st x/\D0 st' i=D0 st i:=fun st' ag=>⟨ag.eval (by rw [hop];simp [Op.operands]),ag.eval (by rw [hop];simp [Op.operands])⟩
  split at hv
  ·rename_i s _ j ht h1 h2
   obtain ⟨c,h0,hv⟩:=hv
   refine ⟨_,hv,(fun k off e=>by cases e),fun st' h' C' hl ag y=>?_⟩
   unfold vcQ;simp only [hop,(hx st' ag).1,(hx st' ag).2,ht,h1,h2];exact ⟨c,h0,y⟩
  ·rename_i n1
   obtain ⟨u,hC,hs⟩:=Ko (cfg:=cfg) (ops:=ops) hsel hv
   refine ⟨_,hC,(fun k off e=>by cases e),fun st' h' C' hl ag y=>?_⟩
   unfold vcQ;simp only [hop,(hx st' ag).1,(hx st' ag).2]
   exact hs st' C' ag y
 ·rename_i t x lo hi hop
  obtain ⟨u,hC,hs⟩:=Zq hv
  refine ⟨_,hC,(fun k off e=>by cases e),fun st' h' C' hl ag y=>?_⟩
  have hx:D0 st' x=D0 st x:=ag.eval (by rw [hop];simp [Op.operands])
  have hlo:lo.map (D0 st')=lo.map (D0 st):=by
   cases lo with
   | none=>rfl
   | some z=>simp only [Option.map_some];rw [ag.eval (x:=z) (by rw [hop];simp [Op.operands])]
  have hhi:hi.map (D0 st')=hi.map (D0 st):=by
   cases hi with
   | none=>rfl
   | some z=>simp only [Option.map_some];rw [ag.eval (x:=z) (by rw [hop];simp [Op.operands])]
  unfold vcQ;simp only [hop,hx,hlo,hhi];exact hs C' y
 ·rename_i t x lo hi mx hop
  have ev:∀ st',AgreeOn cfg ops o st st'->D0 st' x=D0 st x/\D0 st' lo=D0 st lo/\D0 st' hi=D0 st hi/\D0 st' mx=D0 st mx:=fun st' ag=>⟨ag.eval (by rw [hop];simp [Op.operands]),ag.eval (by rw [hop];simp [Op.operands]),ag.eval (by rw [hop];simp [Op.operands]),ag.eval (by rw [hop];simp [Op.operands])⟩
  unfold If at hv
  split at hv
  ·rename_i e A m c k1 l k2 h' k3 b ht hx hlo hhi hmx
   obtain ⟨hb,h1,h2,h3,hv⟩:=hv.both
   refine ⟨_,hv,(fun k off e=>by cases e),fun st' h' C' hl ag y=>?_⟩
   unfold vcQ;simp only [hop,(ev st' ag).1,(ev st' ag).2.1,(ev st' ag).2.2.1,(ev st' ag).2.2.2,hx,hlo,hhi,hmx,If,ht,hb]
   exact ⟨h1,h2,h3,y⟩
  ·exact hv.elim
 ·rename_i op t x z t' hop
  obtain ⟨u,hC,hs⟩:=A4r (cfg:=cfg) (ops:=ops) hop hv
  refine ⟨_,hC,(fun k off e=>by cases e),fun st' h' C' hl ag y=>?_⟩
  unfold vcQ;simp only [hop];exact hs st' C' ag y
 ·exact hv.elim
 ·rename_i n1 n2 n3 n4 n5 n6 n7 n8 n9 n12 n10 n11
  obtain ⟨u,hC,hs⟩:=Ko (cfg:=cfg) (ops:=ops) hsel hv
  refine ⟨_,hC,(fun k off e=>by cases e),fun st' h' C' hl ag y=>?_⟩
  unfold vcQ
  split
  ·rename_i e;exact (n1 _ e).elim
  ·rename_i e;exact (n2 _ e).elim
  ·rename_i e;exact (n3 _ _ _ e).elim
  ·rename_i e;exact (n4 _ _ e).elim
  ·rename_i e;exact (n5 _ _ _ e).elim
  ·rename_i e;exact (n6 _ e).elim
  ·rename_i e;exact (n7 _ _ _ e).elim
  ·rename_i e;exact (n8 _ _ _ e).elim
  ·rename_i e;exact (n9 _ _ _ _ e).elim
  ·rename_i e;exact (n12 _ _ _ _ _ e).elim
  ·rename_i e;exact (n10 _ _ _ _ _ e).elim
  ·rename_i e;exact (n11 _ e).elim
  ·exact hs st' C' ag y
inductive Upd where
 | put (d:Option Nat) (v:AVal)
 | own (d:Nat) (cs:List Value)
def Upd.app:Upd->VS->VS
 | .put d v,s=>s.putO d v
 | .own d cs,s=>(s.put d (.own d 0)).setOwn d cs
def Upd.dst:Upd->Option Nat
 | .put d _=>d
 | .own d _=>some d
theorem Hr{o:Oper}{j:Nat}{want:Bool}{g:Nat}(hg:o.guard=some (j,want))(hd:(ops[j]?).bind (·.dst)=some g):g∈o.looksAt ops:=by
 unfold Oper.looksAt
 refine List.mem_append_right _ ?_
 simp only [hg,hd,Option.toList_some,List.mem_singleton]
theorem Vf{o:Oper}{st:VS}{h:Heap}{gr:Bool}{K:VS->Heap->Prop}(hs:Z1 P cfg o=true)(hv:P8 P cfg o gr st h K):
 ∃ u:Upd,u.dst=o.dst/\K (u.app st) h/\(∀ d cs,u= .own d cs->st.own d=none)/\(∀ d v k off,u= .put d v->v= .own k off->∃ x off',x∈o.op.operands/\D0 st x= .own k off')/\(∀ d cs,u= .own d cs->O9 cfg o=true)/\
  ∀ st' h' (K':VS->Heap->Prop),(Fl o st=true->h.le h')->AgreeOn cfg ops o st st'->K' (u.app st') h'->P8 P cfg o gr st' h' K':=by
 unfold P8 at hv
 obtain ⟨hd,hv⟩:=hv.both
 split at hv
 ·rename_i hq
  have hsel:∀ cs b,o.op ≠ .select cs b:=fun cs b e=>by simp [On,e] at hq
  obtain ⟨v,hK,hw,hst⟩:=B2k (cfg:=cfg) (ops:=ops) hsel hv
  refine ⟨.put o.dst v,rfl,hK,(fun d cs e=>by cases e),(fun d v' k off e e'=>by cases e;exact hw k off e'),(fun d cs e=>by cases e),fun st' h' K' hl ag y=>?_⟩
  unfold P8;rw [hd];simp only [When,hq];exact hst st' h' _ hl ag y
 ·rename_i hq
  have hown:O9 cfg o=true:=by simpa [Z1,hq] using hs
  have fin:∀ cells:List Value,Fa cfg o.dst cells st h K->∃ u:Upd,u.dst=o.dst/\K (u.app st) h/\(∀ d cs,u= .own d cs->st.own d=none)/\(∀ d v k off,u= .put d v->v= .own k off->∃ x off',x∈o.op.operands/\D0 st x= .own k off')/\(∀ d cs,u= .own d cs->O9 cfg o=true)/\
   ∀ st' h' (K':VS->Heap->Prop),(Fl o st=true->h.le h')->AgreeOn cfg ops o st st'->K' (u.app st') h'->Fa cfg o.dst cells st' h' K':=by
   intro cells hv
   unfold Fa at hv
   split at hv
   ·rename_i d hdd
    obtain ⟨hok,hv⟩:=hv.both
    simp only [Bool.and_eq_true,Option.isNone_iff_eq_none] at hok
    refine ⟨.own d cells,hdd.symm,hv,(fun d' cs e=>by cases e;exact hok.2),(fun d' v k off e _=>by cases e),(fun _ _ _=>hown),fun st' h' K' hl ag y=>?_⟩
    have hn:st'.own d=none:=ag.alloc d hown hdd hok.2
    rw [hdd]
    simp only [Fa,hok.1.1,hok.1.2,hn,Option.isNone_none,Bool.and_self,When]
    exact y
   ·exact hv.elim
  have hown':=hown
  unfold O9 at hown
  split at hv
  ·rename_i t hop
   rw [hop] at hown
   simp only [hown] at hv
   obtain ⟨hz,hv⟩:=hv.both
   obtain ⟨u,h1,h2,h3,h4,h6,h5⟩:=fin _ hv
   refine ⟨u,h1,h2,h3,h4,h6,fun st' h' K' hl ag y=>?_⟩
   unfold P8;rw [hd];simp only [When,hq,hop,hown,hz];exact h5 st' h' K' hl ag y
  ·rename_i t x hop
   rw [hop] at hown
   obtain ⟨hx,hv⟩:=hv.both
   simp only [hown] at hv
   obtain ⟨u,h1,h2,h3,h4,h6,h5⟩:=fin _ hv
   refine ⟨u,h1,h2,h3,h4,h6,fun st' h' K' hl ag y=>?_⟩
   have hx':=ag.eval (x:=x) (by rw [hop];simp [Op.operands])
   unfold P8;rw [hd];simp only [When,hq,hop,hown,hx',hx,ag.rho (x:=x) (by rw [hop];simp [Op.operands])];exact h5 st' h' K' hl ag y
  all_goals (rename_i hop;simp [hop] at hown)
theorem B18{o:Oper}{st:VS}{h:Heap}{gr:Bool}{K:VS->Heap->Prop}(hs:Z1 P cfg o=true)(hv:Mc P cfg ops o gr st h K):
 ∃ u:Upd,u.dst=o.dst/\K (u.app st) h/\(∀ d cs,u= .own d cs->st.own d=none)/\(∀ d v k off,u= .put d v->v= .own k off->∃ x off',x∈o.op.operands/\D0 st x= .own k off')/\(∀ d cs,u= .own d cs->O9 cfg o=true)/\
  ∀ st' h' (K':VS->Heap->Prop),(Fl o st=true->h.le h')->AgreeOn cfg ops o st st'->K' (u.app st') h'->Mc P cfg ops o gr st' h' K':=by
 unfold Mc at hv
 split at hv
 ·rename_i hg
  obtain ⟨u,h1,h2,h3,h4,h6,h5⟩:=Vf (ops:=ops) hs hv
  exact ⟨u,h1,h2,h3,h4,h6,fun st' h' K' hl ag y=>by unfold Mc;simp only [hg];exact h5 st' h' K' hl ag y⟩
 ·rename_i j want hg
  split at hv
  ·exact hv.elim
  ·rename_i gs hgs
   split at hv
   ·rename_i b hb
    have look:=Hr hg hgs
    have skip:∀ bb:Bool,b=bb->When (O1 cfg o.dst) (K ((st.put gs (.val (.bool bb))).putO o.dst (.val undef)) h)->O1 cfg o.dst=true/\K (st.putO o.dst (.val undef)) h:=by
     intro bb e x
     subst e
     rw [put_self st hb] at x
     exact x.both
    cases b<;>cases want
    ·have hv2:P8 P cfg o gr (st.put gs (.val (.bool false))) h K:=hv
     rw [put_self st hb] at hv2
     obtain ⟨u,h1,h2,h3,h4,h6,h5⟩:=Vf (ops:=ops) hs hv2
     refine ⟨u,h1,h2,h3,h4,h6,fun st' h' K' hl ag y=>?_⟩
     have hb':st'.env gs= .val (.bool false):=by rw [ag.env gs look];exact hb
     unfold Mc;simp only [hg,hgs,hb',Br]
     rw [put_self st' hb'];exact h5 st' h' K' hl ag y
    ·obtain ⟨hd,hK⟩:=skip false rfl hv
     refine ⟨.put o.dst (.val undef),rfl,hK,(fun d cs e=>by cases e),(fun d v k off e e'=>by cases e;cases e'),(fun d cs e=>by cases e),fun st' h' K' hl ag y=>?_⟩
     have hb':st'.env gs= .val (.bool false):=by rw [ag.env gs look];exact hb
     unfold Mc;simp only [hg,hgs,hb',Br]
     rw [put_self st' hb',hd];exact y
    ·obtain ⟨hd,hK⟩:=skip true rfl hv
     refine ⟨.put o.dst (.val undef),rfl,hK,(fun d cs e=>by cases e),(fun d v k off e e'=>by cases e;cases e'),(fun d cs e=>by cases e),fun st' h' K' hl ag y=>?_⟩
     have hb':st'.env gs= .val (.bool true):=by rw [ag.env gs look];exact hb
     unfold Mc;simp only [hg,hgs,hb',Br]
     rw [put_self st' hb',hd];exact y
    ·have hv2:P8 P cfg o gr (st.put gs (.val (.bool true))) h K:=hv
     rw [put_self st hb] at hv2
     obtain ⟨u,h1,h2,h3,h4,h6,h5⟩:=Vf (ops:=ops) hs hv2
     refine ⟨u,h1,h2,h3,h4,h6,fun st' h' K' hl ag y=>?_⟩
     have hb':st'.env gs= .val (.bool true):=by rw [ag.env gs look];exact hb
     unfold Mc;simp only [hg,hgs,hb',Br]
     rw [put_self st' hb'];exact h5 st' h' K' hl ag y
   ·rename_i tv hb
    have look:=Hr hg hgs
    obtain ⟨hd,hK⟩:=hv.both
    refine ⟨.put o.dst (.val undef),rfl,hK,(fun d cs e=>by cases e),(fun d v k off e e'=>by cases e;cases e'),(fun d cs e=>by cases e),fun st' h' K' hl ag y=>?_⟩
    have hb':st'.env gs= .val (.tuple tv):=by rw [ag.env gs look];exact hb
    unfold Mc;simp only [hg,hgs,hb']
    rw [hd];exact y
   ·exact hv.elim
theorem Nz{z:Value}{K K':Value->Prop}(x:exT z K)(hk:∀ v,K v->K' v):exT z K':=by
 unfold exT at x ⊢
 split at x
 ·exact B02 x fun vs=>hk _
 ·exact A2b x hk
theorem A6t{zs:List Value}: ∀ {K K':List Value->Prop},exTs zs K->(∀ v,K v->K' v)->exTs zs K':=by
 induction zs with
 | nil=>exact fun x hk=>hk _ x
 | cons z zs ih=>exact fun x hk=>Nz x fun v y=>ih y fun vs=>hk _
theorem Pp{t:TypeId}{K K':Value->Prop}(x:exRt P t K)(hk:∀ v,K v->K' v):exRt P t K':=by
 unfold exRt at x ⊢
 split at x
 ·exact A6t x fun vs=>hk _
 ·exact Nz x hk
def WFs(st:VS):Prop:=∀ i k off,st.env i= .own k off->(st.own k).isSome=true
structure Frm (o:Oper) (st st':VS):Prop where
 env:∀ x,o.dst≠some x->st'.env x=st.env x
 own:∀ k,(o.dst=some k->(st.own k).isSome=true)->(∀ t a b off,o.op= .store t a b->D0 st a ≠ .own k off)->st'.own k=st.own k
 wf:WFs st'
theorem Va{st:VS}(wf:WFs st){x:Operand}{k off:Nat}(e:D0 st x= .own k off):(st.own k).isSome=true:=by
 cases x with
 | tmp t=>exact wf t k off e
 | _=>cases e
theorem Kt(st:VS)(d:Option Nat)(v:AVal)(x:Nat):(st.putO d v).env x=if d=some x then v else st.env x:=by
 cases d with
 | none=>simp [VS.putO]
 | some d=>
  by_cases h:x=d
  ·subst h;simp [VS.putO,VS.put]
  ·have:¬ d=x:=fun e=>h e.symm
   simp [VS.putO,VS.put,Bn h,this]
theorem P7{o:Oper}{st:VS}(wf:WFs st)(u:Value):Frm o st (st.putO o.dst (.val u)):=by
 refine ⟨fun x hx=>by rw [Kt,if_neg hx],fun k _ _=>by rw [L9],fun i k off e=>?_⟩
 rw [Kt] at e
 rw [L9]
 split at e
 ·cases e
 ·exact wf i k off e
theorem Cz{u:Upd}{st:VS}{x:Nat}(h:u.dst≠some x):(u.app st).env x=st.env x:=by
 cases u with
 | put d v=>simp only [Upd.app,Kt];rw [if_neg (show d≠some x from h)]
 | own d cs=>
  have:x≠d:=fun e=>h (by rw [e];rfl)
  simp [Upd.app,VS.setOwn,VS.put,Bn this]
theorem Ak{u:Upd}{st:VS}{k:Nat}(h:∀ d cs,u= .own d cs->k≠d):(u.app st).own k=st.own k:=by
 cases u with
 | put d v=>simp only [Upd.app,L9]
 | own d cs=>exact F2 _ _ (h d cs rfl)
theorem Mi(st:VS){d e:Nat}(v u:AVal)(h:d≠e):(st.put d v).put e u=(st.put e u).put d v:=by
 unfold VS.put
 congr 1
 funext i
 by_cases h1:i=d
 ·subst h1;simp [Bn h]
 ·by_cases h2:i=e
  ·subst h2;simp [Bn h1]
  ·simp [Bn h1,Bn h2]
theorem H9{u:Upd}{st:VS}{d:Option Nat}{v:AVal}(h:∀ x,u.dst=some x->d≠some x):(u.app st).putO d v=u.app (st.putO d v):=by
 cases d with
 | none=>rfl
 | some d=>
  cases u with
  | put e w=>
   cases e with
   | none=>rfl
   | some e=>exact Mi st w v (fun x=>h e rfl (congrArg some x.symm))
  | own e cs=>
   have:=Mi st (.own e 0) v (fun x=>h e rfl (congrArg some x.symm))
   show ((st.put e (.own e 0)).setOwn e cs).put d v=((st.put d v).put e (.own e 0)).setOwn e cs
   rw [<- this];rfl
theorem Gg{u:Upd}{st:VS}{k:Nat}{cs:List Value}(h:∀ d c,u= .own d c->k≠d):(u.app st).setOwn k cs=u.app (st.setOwn k cs):=by
 cases u with
 | put d v=>cases d<;>rfl
 | own d c=>
  have hk:=h d c rfl
  show ((st.put d (.own d 0)).setOwn d c).setOwn k cs=((st.setOwn k cs).put d (.own d 0)).setOwn d c
  unfold VS.setOwn VS.put
  congr 1
  funext i
  by_cases h1:i=d
  ·subst h1;simp [Bn (Ne.symm hk)]
  ·by_cases h2:i=k
   ·subst h2;simp [Bn h1]
   ·simp [Bn h1,Bn h2]
theorem B0n{u v:Upd}{st:VS}(h:∀ x,u.dst=some x->v.dst≠some x):v.app (u.app st)=u.app (v.app st):=by
 cases v with
 | put d w=>exact H9 h
 | own d cs=>
  have h1:(u.app st).put d (.own d 0)=u.app (st.put d (.own d 0)):=H9 (d:=some d) h
  show ((u.app st).put d (.own d 0)).setOwn d cs=_
  rw [h1,Gg (fun e c eq=>by subst eq;exact fun x=>h e rfl (by rw [<- x];rfl))];rfl
theorem Frm.upd{o:Oper}{u:Upd}{st:VS}(hd:u.dst=o.dst)(wf:WFs st)(hv:∀ d v k off,u= .put d v->v= .own k off->∃ x off',D0 st x= .own k off')(hn:∀ d cs,u= .own d cs->st.own d=none):Frm o st (u.app st):=by
 refine ⟨fun x hx=>Cz (by rw [hd];exact hx),fun k h1 _=>Ak (fun d cs e=>?_),fun i k off e=>?_⟩
 ·rintro rfl
  have:=h1 (by rw [<- hd,e];rfl)
  rw [hn k cs e] at this;cases this
 cases u with
 | put d v=>
  simp only [Upd.app,L9] at e ⊢
  rw [Kt] at e
  split at e
  ·obtain ⟨x,off',hx⟩:=hv d v k off rfl e
   exact Va wf hx
  ·exact wf i k off e
 | own d cs=>
  have hne:=hn d cs rfl
  by_cases hi:i=d
  ·subst hi
   have:((st.put i (.own i 0)).setOwn i cs).env i= .own i 0:=by simp [VS.setOwn,VS.put]
   simp only [Upd.app] at e ⊢
   rw [this] at e
   injection e with e1 e2;subst e1
   rw [T2];rfl
  ·rw [Cz (u:=.own d cs) (fun x=>hi (by cases x;rfl))] at e
   have:=wf i k off e
   have hk:k≠d:=by rintro rfl;rw [hne] at this;cases this
   rw [Ak (u:=.own d cs) (fun d' c' e'=>by cases e';exact hk)];exact this
structure Before (cfg:Cfg) (ops:Array Oper) (u:Upd) (o:Oper) (st:VS):Prop where
 look:∀ x,u.dst=some x->x∉o.looksAt ops
 dst:∀ x,u.dst=some x->o.dst≠some x
 free:∀ d cs,u= .own d cs->st.own d=none
 wf:WFs st
theorem Before.eval{u:Upd}{o:Oper}{st:VS}(b:Before cfg ops u o st){x:Operand}(hx:x∈o.op.operands):D0 (u.app st) x=D0 st x:=by
 cases x with
 | tmp t=>
  refine Cz fun e=>b.look t e ?_
  unfold Oper.looksAt
  exact List.mem_append_left _ (List.mem_filterMap.2 ⟨.tmp t,by simpa using hx,rfl⟩)
 | _=>rfl
theorem Before.rho{u:Upd}{o:Oper}{st:VS}(b:Before cfg ops u o st){x:Operand}(hx:x∈o.op.operands):rho (u.app st) x=rho st x:=by
 unfold Go.Proofs.YtajkakhfcokljaaGreatDoor.rho;rw [b.eval hx]
theorem Before.key{u:Upd}{o:Oper}{st:VS}(b:Before cfg ops u o st){x:Operand}{k off:Nat}(e:D0 st x= .own k off):∀ d cs,u= .own d cs->k≠d:=by
 rintro d cs hu rfl
 have:=Va b.wf e
 rw [b.free k cs hu] at this;cases this
def Grw(cfg:Cfg)(o:Oper)(st:VS)(h h':Heap):Prop:=A4p cfg o=false->(∀ t a b,o.op= .store t a b->∃ k off,D0 st a= .own k off)->h.le h'
theorem Grw.of{cfg:Cfg}{o:Oper}{st:VS}{h h':Heap}(x:h.le h'):Grw cfg o st h h':=fun _ _=>x
theorem Grow.map{gr:Bool}{h h':Heap}{X Y:Prop}(x:Grow gr h h' X)(f:X->(gr=true->h.le h')->Y):Grow gr h h' Y:=by
 cases gr
 ·exact f x (fun e=>by cases e)
 ·exact ⟨x.1,f x.2 (fun _=>x.1)⟩
theorem Pq{u:Upd}{o:Oper}{st:VS}(b:Before cfg ops u o st){s:Sem Value}{h:Heap}{K:VS->Heap->Prop}{K':VS->Heap->Prop}(hk:∀ st' h',K (u.app st') h'->Grw cfg o st h h'->Frm o st st'->K' st' h')(x:effV P s o true (u.app st) h K):
 effV P s o true st h K':=by
 refine Ie s x fun v h' y=>Nz y fun w ⟨h1,h2,h3⟩=>⟨h1,h2,hk _ _ ?_ (Grw.of h2) (P7 b.wf w)⟩
 rwa [H9 (fun z hz=>b.dst z hz)] at h3
theorem Sk{u:Upd}{o:Oper}{st:VS}{gr:Bool}(b:Before cfg ops u o st)(hgw:A4p cfg o=false->gr=true){s:Sem Value}{h:Heap}{K:VS->Heap->Prop}{K':VS->Heap->Prop}(hk:∀ st' h',K (u.app st') h'->Grw cfg o st h h'->Frm o st st'->K' st' h')(x:effV P s o gr (u.app st) h K):
 effV P s o gr st h K':=by
 refine Ie s x fun v h' y=>Nz y fun w ⟨h1,h2⟩=>⟨h1,h2.map fun h3 h4=>hk _ _ ?_ (fun e _=>h4 (hgw e)) (P7 b.wf w)⟩
 rwa [H9 (fun z hz=>b.dst z hz)] at h3
theorem Xu{u:Upd}{o:Oper}{st:VS}(b:Before cfg ops u o st){s:Sem Value}{h:Heap}{K:VS->Heap->Prop}{K':VS->Heap->Prop}(hk:∀ st' h',K (u.app st') h'->Grw cfg o st h h'->Frm o st st'->K' st' h')(x:effP P s o true (u.app st) h K):
 effP P s o true st h K':=by
 refine Ie s x fun v h' ⟨w,h1,h2,h3⟩=>⟨w,h1,h2,hk _ _ ?_ (Grw.of h2) (P7 b.wf _)⟩
 rwa [H9 (fun z hz=>b.dst z hz)] at h3
theorem A6x{u:Upd}{o:Oper}{st:VS}(b:Before cfg ops u o st){s:Sem Unit}{h:Heap}{K:VS->Heap->Prop}{K':VS->Heap->Prop}(hno:¬ (∀ t a b,o.op= .store t a b->∃ k off,D0 st a= .own k off))(hk:∀ st' h',K (u.app st') h'->Grw cfg o st h h'->Frm o st st'->K' st' h')(x:effU P s o false (u.app st) h K):
 effU P s o false st h K':=by
 refine Ie s x fun v h' h3=>?_
 have h3:K ((u.app st).putO o.dst (.val undef)) h':=h3
 rw [H9 (fun z hz=>b.dst z hz)] at h3
 exact hk _ _ h3 (fun _ hs=>absurd hs hno) (P7 b.wf _)
theorem Pz{u:Upd}{o:Oper}{st:VS}(b:Before cfg ops u o st)(hs:Z1 P cfg o=false){h:Heap}{K:VS->Heap->Prop}{K':VS->Heap->Prop}(hk:∀ st' h',K (u.app st') h'->Grw cfg o st h h'->Frm o st st'->K' st' h')(hv:P8 P cfg o (Hs cfg o) (u.app st) h K):P8 P cfg o (Hs cfg o) st h K':=by
 unfold P8 at hv ⊢
 obtain ⟨hd,hv⟩:=hv.both
 rw [hd]
 simp only [Z1,Bool.or_eq_false_iff] at hs
 simp only [hs.1] at hv ⊢
 show (match o.op with
  | .alloc t=>_
  | .box t x=>_
  | .store t a x=>_
  | .makeSlice t l c=>_
  | .buildSlice t n ps=>_
  | .convert s d x=>_
  | .call c=>_
  | _=>_)
 split at hv
 ·rename_i t hop
  have hgr:Hs cfg o=true:=by simp [Hs,A4p,hop]
  rw [hgr] at hv ⊢
  have:Jg cfg o.dst=false:=by simpa [O9,hop] using hs.2
  simp only [hop,this] at hv ⊢
  exact Xu b hk hv
 ·rename_i t x hop
  have hgr:Hs cfg o=true:=by simp [Hs,A4p,hop]
  rw [hgr] at hv ⊢
  have:Jg cfg o.dst=false:=by simpa [O9,hop] using hs.2
  have hx:x∈o.op.operands:=by rw [hop];simp [Op.operands]
  simp only [hop,this,b.eval hx,b.rho hx] at hv ⊢
  obtain ⟨h1,hv⟩:=hv.both
  rw [h1]
  exact Xu b hk hv
 ·rename_i t a x hop
  have hgr:Hs cfg o=false:=by simp [Hs,hop]
  rw [hgr] at hv ⊢
  have ha:a∈o.op.operands:=by rw [hop];simp [Op.operands]
  have hx:x∈o.op.operands:=by rw [hop];simp [Op.operands]
  simp only [hop]
  unfold Zp at hv ⊢
  rw [b.eval ha] at hv
  split at hv
  ·rename_i k off hka
   have hkey:=b.key hka
   rw [Ak hkey] at hv
   try simp only [hka]
   split at hv
   ·rename_i cs hcs
    try simp only [hcs]
    rw [b.eval hx,b.rho hx] at hv
    obtain ⟨h1,hv⟩:=hv.both
    rw [h1]
    rw [Gg hkey,H9 (fun z hz=>b.dst z hz)] at hv
    refine hk _ _ hv (Grw.of (B3 h)) (⟨fun y hy=>by rw [Kt,if_neg hy];rfl,fun k' _ h2=>?_,fun i k' off' e=>?_⟩)
    ·rw [L9,F2]
     rintro rfl;exact h2 t a x off hop hka
    ·rw [Kt] at e
     rw [L9]
     split at e
     ·cases e
     ·have:=b.wf i k' off' e
      by_cases hkk:k'=k
      ·subst hkk;rw [T2];rfl
      ·rw [F2 _ _ hkk];exact this
   ·exact hv.elim
  ·rename_i p hp
   try simp only [hp]
   rw [b.eval hx,b.rho hx] at hv
   obtain ⟨h1,hv⟩:=hv.both
   rw [h1]
   exact A6x b (fun hx=>by obtain ⟨k,off,e⟩:=hx _ _ _ hop;rw [hp] at e;cases e) hk hv
  ·exact hv.elim
 ·rename_i t l c hop
  have hgr:Hs cfg o=true:=by simp [Hs,A4p,hop]
  rw [hgr] at hv ⊢
  have hl:l∈o.op.operands:=by rw [hop];simp [Op.operands]
  have hc:c∈o.op.operands:=by rw [hop];simp [Op.operands]
  have ha:N6 (u.app st) [l,c]=N6 st [l,c]:=V5 fun y hy=>by
   simp only [List.mem_cons,List.not_mem_nil,or_false] at hy
   rcases hy with rfl|rfl
   ·exact b.eval hl
   ·exact b.eval hc
  simp only [hop]
  rw [ha,b.rho hl,b.rho hc] at hv
  obtain ⟨h1,hv⟩:=hv.both
  rw [h1]
  exact Pq b hk hv
 ·rename_i t n ps hop
  have hgr:Hs cfg o=true:=by simp [Hs,A4p,hop]
  rw [hgr] at hv ⊢
  have hp:∀ p∈ps,p.2∈o.op.operands:=fun p hp=>by
   rw [hop];simp only [Op.operands,List.mem_toArray,List.mem_map,Array.mem_toList_iff]
   exact ⟨p,hp,rfl⟩
  have ha:N6 (u.app st) (ps.toList.map (·.2))=N6 st (ps.toList.map (·.2)):=V5 fun y hy=>by
   obtain ⟨p,hp',rfl⟩:=List.mem_map.1 hy
   exact b.eval (hp p (by simpa using hp'))
  have hm:(ps.map fun (i,x)=>(i,rho (u.app st) x))=ps.map fun (i,x)=>(i,rho st x):=by
   apply Array.map_congr_left
   intro p hp'
   simp only [b.rho (hp p hp')]
  simp only [hop]
  rw [ha,hm] at hv
  obtain ⟨h1,hv⟩:=hv.both
  rw [h1]
  exact Pq b hk hv
 ·rename_i s d x hop
  have hgr:Hs cfg o=true:=by simp [Hs,A4p,hop]
  rw [hgr] at hv ⊢
  have hx:x∈o.op.operands:=by rw [hop];simp [Op.operands]
  have ha:N6 (u.app st) [x]=N6 st [x]:=V5 fun y hy=>by
   simp only [List.mem_cons,List.not_mem_nil,or_false] at hy
   rw [hy];exact b.eval hx
  simp only [hop]
  rw [ha,b.rho hx] at hv
  obtain ⟨h1,hv⟩:=hv.both
  rw [h1]
  exact Pq b hk hv
 ·rename_i c hop
  generalize hgr:Hs cfg o=gr at hv ⊢
  have hgw:A4p cfg o=false->gr=true:=fun e=>by rw [<- hgr];simp [Hs,hop,e]
  have hargs:∀ y∈c.args,y∈o.op.operands:=fun y hy=>by
   rw [hop];simp only [Op.operands,Call.operands];exact Array.mem_append.2 (.inr hy)
  have ha:N6 (u.app st) c.args.toList=N6 st c.args.toList:=V5 fun y hy=>b.eval (hargs y (by simpa using hy))
  have hm:c.args.map (rho (u.app st))=c.args.map (rho st):=Array.map_congr_left fun y hy=>b.rho (hargs y hy)
  simp only [hop]
  split at hv
  ·rename_i f hcl
   try simp only [hcl]
   unfold A1l at hv ⊢
   have hf:f∈o.op.operands:=by rw [hop];simp [Op.operands,Call.operands,hcl]
   rw [b.eval hf] at hv
   split at hv
   ·rename_i g first captured hfe
    try simp only [hfe]
    split at hv
    ·rename_i hhas
     rw [ha,hm] at hv
     obtain ⟨h1,hv⟩:=hv.both
     try simp only [hhas]
     rw [h1]
     refine FCall.mono hv fun r h' y=>Pp y fun w ⟨h1,h2⟩=>⟨h1,h2.map fun h3 h4=>hk _ _ ?_ (fun e _=>h4 (hgw e)) (P7 b.wf w)⟩
     rwa [H9 (fun z hz=>b.dst z hz)] at h3
    ·rename_i hhas
     rw [ha,hm] at hv
     obtain ⟨h1,hv⟩:=hv.both
     try simp only [hhas]
     rw [h1]
     refine ECall.mono hv fun r h' y=>Pp y fun w ⟨h1,h2⟩=>⟨h1,h2.map fun h3 h4=>hk _ _ ?_ (fun e _=>h4 (hgw e)) (P7 b.wf w)⟩
     rwa [H9 (fun z hz=>b.dst z hz)] at h3
   ·rename_i l first captured hfe
    try simp only [hfe]
    rw [ha,hm] at hv
    obtain ⟨h1,hv⟩:=hv.both
    rw [h1]
    refine YCall.mono hv fun r h' y=>Pp y fun w ⟨h1,h2⟩=>⟨h1,h2.map fun h3 h4=>hk _ _ ?_ (fun e _=>h4 (hgw e)) (P7 b.wf w)⟩
    rwa [H9 (fun z hz=>b.dst z hz)] at h3
   ·exact hv.elim
  ·rename_i hcl
   try simp only [hcl]
   rw [ha,hm] at hv
   obtain ⟨h1,hv⟩:=hv.both
   rw [h1]
   exact Sk b hgw hk hv
  ·rename_i hcl
   try simp only [hcl]
   rw [ha,hm] at hv
   obtain ⟨h1,hv⟩:=hv.both
   rw [h1]
   exact Sk b hgw hk hv
  ·exact hv.elim
 ·exact hv.elim
theorem A5s{u:Upd}{o:Oper}{st:VS}(b:Before cfg ops u o st){h:Heap}{K:VS->Heap->Prop}{K':VS->Heap->Prop}(hk:∀ st' h',K (u.app st') h'->Grw cfg o st h h'->Frm o st st'->K' st' h')(hv:Mc P cfg ops o (Hs cfg o) (u.app st) h K):Mc P cfg ops o (Hs cfg o) st h K':=by
 cases hs:Z1 P cfg o with
 | true=>
  obtain ⟨v,h1,h2,h3,h4,h6,h5⟩:=B18 (ops:=ops) hs hv
  have ag:AgreeOn cfg ops o (u.app st) st:=by
   refine ⟨fun x hx=>(Cz fun e=>b.look x e hx).symm,fun t a k off hop e=>?_,fun d _ hd hnn=>(Ak fun d' cs e=>?_).symm.trans hnn⟩
   ·rw [b.eval (by rw [hop];simp [Op.operands])] at e
    exact (Ak (b.key e)).symm
   ·rintro rfl
    exact b.dst d (by rw [e];rfl) hd
  refine h5 st h _ (fun _=>B3 h) ag (hk _ _ ?_ (Grw.of (B3 h)) (Frm.upd h1 b.wf (fun d w k off e e'=>?_) (fun d cs e=>?_)))
  ·rw [<- B0n (fun x hx=>by rw [h1];exact b.dst x hx)];exact h2
  ·obtain ⟨x,off',hx,he⟩:=h4 d w k off e e'
   exact ⟨x,off',by rw [<- b.eval hx];exact he⟩
  ·have:=h3 d cs e
   rwa [Ak (fun d' cs' e'=>by
    rintro rfl
    exact b.dst d (by rw [e'];rfl) (by rw [<- h1,e];rfl))] at this
 | false=>
  unfold Mc at hv ⊢
  split at hv
  ·rename_i hg
   exact Pz b hs hk hv
  ·rename_i j want hg
   split at hv
   ·exact hv.elim
   ·rename_i gs hgs
    have look:=Hr (o:=o) hg hgs
    have he:(u.app st).env gs=st.env gs:=Cz fun e=>b.look gs e look
    rw [he] at hv
    split at hv
    ·rename_i bb hb
     have hb1:(u.app st).env gs= .val (.bool bb):=by rw [he];exact hb
     have skip:O1 cfg o.dst=true/\K ((u.app st).putO o.dst (.val undef)) h->When (O1 cfg o.dst) (K' (st.putO o.dst (.val undef)) h):=by
      rintro ⟨h1,h2⟩
      rw [h1]
      rw [H9 (fun z hz=>b.dst z hz)] at h2
      exact hk _ _ h2 (Grw.of (B3 h)) (P7 b.wf _)
     try simp only [hb]
     cases bb<;>cases want
     ·have hv2:P8 P cfg o (Hs cfg o) ((u.app st).put gs (.val (.bool false))) h K:=hv
      rw [put_self _ hb1] at hv2
      simp only [Br];rw [put_self st hb]
      exact Pz b hs hk hv2
     ·have hv2:When (O1 cfg o.dst) (K (((u.app st).put gs (.val (.bool false))).putO o.dst (.val undef)) h):=hv
      rw [put_self _ hb1] at hv2
      simp only [Br];rw [put_self st hb]
      exact skip hv2.both
     ·have hv2:When (O1 cfg o.dst) (K (((u.app st).put gs (.val (.bool true))).putO o.dst (.val undef)) h):=hv
      rw [put_self _ hb1] at hv2
      simp only [Br];rw [put_self st hb]
      exact skip hv2.both
     ·have hv2:P8 P cfg o (Hs cfg o) ((u.app st).put gs (.val (.bool true))) h K:=hv
      rw [put_self _ hb1] at hv2
      simp only [Br];rw [put_self st hb]
      exact Pz b hs hk hv2
    ·rename_i tv hb
     try simp only [hb]
     obtain ⟨h1,h2⟩:=hv.both
     rw [h1]
     rw [H9 (fun z hz=>b.dst z hz)] at h2
     exact hk _ _ h2 (Grw.of (B3 h)) (P7 b.wf _)
    ·exact hv.elim
theorem Ot{o:Oper}{st:VS}(wf:WFs st){h:Heap}{K K':VS->Heap->Prop}(hv:Mc P cfg ops o (Hs cfg o) st h K)(hk:∀ st' h',K st' h'->Grw cfg o st h h'->Frm o st st'->K' st' h'):Mc P cfg ops o (Hs cfg o) st h K':=
 A5s (u:=.put none (.val undef)) ⟨(fun x e=>by cases e),(fun x e=>by cases e),(fun d cs e=>by cases e),wf⟩ hk hv
theorem B0a{oj oi x:Oper}{st st':VS}(hfr:Frm oi st st')(hap:oj.apart ops oi=true)(hmem:∃ i:Nat,ops[i]? = some oi)(h:Ln cfg ops oj x st=true):Ln cfg ops oj x st'=true:=by
 obtain ⟨_,_,h3⟩:=Oper.apart_spec hap
 unfold Ln at h ⊢
 simp only [Bool.and_eq_true] at h ⊢
 obtain ⟨h0,h⟩:=h
 have hload:Fl oj st'=Fl oj st:=by
  unfold Fl
  split
  ·rename_i t' a hj
   have ha:D0 st' a=D0 st a:=by
    cases a with
    | tmp z=>
     refine hfr.env z fun e=>h3 z e ?_
     unfold Oper.looksAt
     exact List.mem_append_left _ (List.mem_filterMap.2 ⟨.tmp z,by rw [hj];simp [Op.operands],rfl⟩)
    | _=>rfl
   rw [ha]
  ·rfl
 refine ⟨by rw [hload];exact h0,?_⟩
 split at h
 ·rename_i t y b hx
  split at h
  ·rename_i t' a hj
   simp only [Bool.and_eq_true] at h ⊢
   refine ⟨h.1,?_⟩
   have ha:D0 st' a=D0 st a:=by
    cases a with
    | tmp z=>
     refine hfr.env z fun e=>h3 z e ?_
     unfold Oper.looksAt
     exact List.mem_append_left _ (List.mem_filterMap.2 ⟨.tmp z,by rw [hj];simp [Op.operands],rfl⟩)
    | _=>rfl
   have hy:st'.env y=st.env y:=by
    refine hfr.env y fun e=>?_
    obtain ⟨i,hi⟩:=hmem
    have:=List.all_eq_true.1 h.1 oi (by simpa using Array.mem_of_getElem? hi)
    rw [e] at this
    simp [Nat.beq_refl] at this
   rw [ha,hy];exact h.2
  ·exact h
 ·exact h
 ·exact h
theorem swap{oj oi:Oper}{st:VS}(wf:WFs st)(hs:Z1 P cfg oj=true)(hap:oj.apart ops oi=true)(hc:Ln cfg ops oj oi st=true){h:Heap}{K:VS->Heap->Prop}
 (hv:Mc P cfg ops oj (Hs cfg oj) st h fun st1 h1=>Mc P cfg ops oi (Hs cfg oi) st1 h1 K):Mc P cfg ops oi (Hs cfg oi) st h fun st1 h1=>Frm oi st st1/\Mc P cfg ops oj (Hs cfg oj) st1 h1 K:=by
 obtain ⟨a1,a2,a3⟩:=Oper.apart_spec hap
 obtain ⟨u,h1,h2,h3,h4,h6,h5⟩:=B18 (ops:=ops) hs hv
 have b:Before cfg ops u oi st:=⟨fun x e=>a1 x (by rw [<- h1];exact e),fun x e=>a2 x (by rw [<- h1];exact e),h3,wf⟩
 have hcw:=hc
 unfold Ln at hcw
 simp only [Bool.and_eq_true] at hcw
 have hc:=hcw.2
 have hw:Fl oj st=true->A4p cfg oi=false:=fun e=>by
  have:=hcw.1
  rw [e] at this
  simpa using this
 refine A5s b (fun st' h' hK hl fr=>⟨fr,h5 st' h' K (fun hload=>hl (hw hload) fun t' a' b' hst=>?_) ?_ hK⟩) h2
 ·obtain ⟨t,x,hld⟩:∃ t x,oj.op= .load t x:=by
   unfold Fl at hload
   split at hload
   ·exact ⟨_,_,by assumption⟩
   ·cases hload
  rw [hst] at hc
  cases a' with
  | tmp y=>
   simp only [hld,Bool.and_eq_true] at hc
   show ∃ k off,st.env y= .own k off
   revert hc
   cases D0 st x<;>cases st.env y<;>simp
  | _=>simp at hc
 refine ⟨fun x hx=>fr.env x fun e=>a3 x e hx,fun t a k off hop e=>fr.own k (fun _=>Va wf e) (fun t' a' b' off' hst hst'=>?_),fun d ho hd hnn=>(fr.own d (fun e=>absurd e (a2 d hd)) (fun t' a' b' off' hst hst'=>?_)).trans hnn⟩
 ·rw [hst] at hc
  cases a' with
  | tmp y=>
   simp only [hop,Bool.and_eq_true] at hc
   have hy:st.env y= .own k off':=hst'
   rw [e,hy] at hc
   simp [Nat.beq_refl] at hc
  | _=>simp at hc
 ·have:=Va wf hst'
  rw [hnn] at this;cases this
theorem B5y{anc:List (List Nat)}{al:Nat->List Nat}{i:Nat}{oi:Oper}(hi:ops[i]? = some oi){L2:List Nat}{K:VS->Heap->Prop}: ∀ (L1:List Nat) (n:Nat) (st:VS) (h:Heap),n=L1.length+L2.length->WFs st->(∀ j∈L1,has (anc.getD i []) j=false)->i∉L1->
 Cb P cfg ops anc al (n+1) (L1++i::L2) st h K->Mc P cfg ops oi (Hs cfg oi) st h fun st' h'=>WFs st'/\Cb P cfg ops anc al n (L1++L2) st' h' K:=by
 intro L1
 induction L1 with
 | nil=>
  intro n st h _ wf _ _ hv
  simp only [List.nil_append,Cb,hi] at hv
  exact Ot wf (A2h hv.both.2) fun st' h' hK _ fr=>⟨fr.wf,hK⟩
 | cons j L1 ih=>
  intro n st h hn wf hanc hni hv
  obtain ⟨n,rfl⟩:∃ n',n=n'+1:=⟨L1.length+L2.length,by simp at hn;omega⟩
  have hn':n=L1.length+L2.length:=by simp at hn;omega
  have hni1:i∉L1:=fun hm=>hni (by simp [hm])
  simp only [List.cons_append,Cb] at hv
  split at hv
  ·exact hv.elim
  ·rename_i oj hj
   obtain ⟨hall,hv⟩:=hv.both
   have hall:=List.all_eq_true.1 hall
   have hij:=hall i (by simp)
   unfold Uc at hij
   rw [Bool.or_eq_true] at hij
   rcases hij with hij|hij
   ·unfold A5m at hij
    rw [hanc j (by simp),hi] at hij
    simp only [Bool.false_or,Bool.and_eq_true] at hij
    obtain ⟨⟨hs',hap⟩,hc⟩:=hij
    have hs:Z1 P cfg oj=true:=by
     unfold A9f at hs'
     rw [Bool.and_eq_true] at hs'
     exact hs'.1
    have h1:Mc P cfg ops oj (Hs cfg oj) st h fun st1 h1=>Mc P cfg ops oi (Hs cfg oi) st1 h1 fun st2 h2=>WFs st2/\Cb P cfg ops anc al n (L1++L2) st2 h2 K:=
     Ot wf (A2h hv) fun st1 h1 hK _ fr=>ih n st1 h1 hn' fr.wf (fun k hk=>hanc k (by simp [hk])) hni1 hK
    refine Ot wf (swap wf hs hap hc h1) fun st1 h1 ⟨fr,hK⟩ _ _=>⟨fr.wf,?_⟩
    simp only [List.cons_append,Cb,hj]
    have hchk:(L1++L2).all (Uc P cfg ops anc al st1 oj j)=true:=by
     refine List.all_eq_true.2 fun x hx=>?_
     have hx':=hall x (by
      simp only [List.mem_append,List.mem_cons] at hx ⊢
      rcases hx with hx|hx
      ·exact .inl hx
      ·exact .inr (.inr hx))
     unfold Uc at hx' ⊢
     rw [hs'] at hx' ⊢
     simp only [Bool.not_true,Bool.false_and,Bool.or_false] at hx' ⊢
     unfold A5m at hx' ⊢
     simp only [Bool.or_eq_true] at hx' ⊢
     rcases hx' with hx'|hx'
     ·exact .inl hx'
     ·refine .inr ?_
      split at hx'
      ·rename_i ox hox
       simp only [Bool.and_eq_true] at hx' ⊢
       exact ⟨hx'.1,B0a fr hap ⟨i,hi⟩ hx'.2⟩
      ·cases hx'
    rw [hchk]
    have ha:Yf P cfg anc al oj j (L1++L2)=[]:=by unfold Yf;rw [hs']
    rw [ha]
    exact Ot fr.wf hK fun st2 h2 ⟨_,hK⟩ _ _=>hK
   ·simp only [Bool.and_eq_true,Bool.not_eq_true'] at hij
    obtain ⟨u1,u2⟩:=A1m (L2:=L2) hni1
    have hm:i∈Yf P cfg anc al oj j (L1++i::L2):=by
     unfold Yf
     rw [hij.1]
     refine List.mem_filter.2 ⟨V8.1 hij.2,?_⟩
     rw [u1,V8.2 (show i∈L1++i::L2 by simp),hanc j (by simp)]
     simp only [Bool.true_and,Bool.not_false,Bool.and_true]
     exact List.all_eq_true.2 fun x hx=>by rw [hanc x (by simp [hx])];rfl
    have:=B3v hv hm
    simp only [hi] at this
    rw [u2] at this
    exact Ot wf this fun st' h' hK _ fr=>⟨fr.wf,by simp only [List.cons_append,Cb,hj] at hK ⊢;exact hK⟩
theorem A3d:∀ {L done:List Nat},A5p ops done L=true->L.Nodup/\(∀ i∈L,i∉done)/\∀ L1 i L2,L=L1++i::L2->∃ o,ops[i]? = some o/\∀ e∈o.after,Region.binds .any e=true->e.on∈done\/e.on∈L1:=by
 intro L
 induction L with
 | nil=>exact fun _=>⟨List.nodup_nil,(fun i hi=>by cases hi),(fun L1 i L2 e=>by simp at e)⟩
 | cons x L ih=>
  intro done h
  simp only [A5p,Bool.and_eq_true,Bool.not_eq_true'] at h
  obtain ⟨⟨h1,h2⟩,h3⟩:=h
  obtain ⟨hn,hd,hp⟩:=ih h3
  have hx:x∉done:=fun hm=>by rw [V8.2 hm] at h2;cases h2
  refine ⟨List.nodup_cons.2 ⟨fun hm=>hd x hm (by simp),hn⟩,fun i hi=>?_,fun L1 i L2 e=>?_⟩
  ·cases hi with
   | head=>exact hx
   | tail _ hi=>exact fun hm=>hd i hi (by simp [hm])
  ·cases L1 with
   | nil=>
    simp only [List.nil_append,List.cons.injEq] at e
    obtain ⟨rfl,rfl⟩:=e
    split at h1
    ·rename_i o ho
     refine ⟨o,ho,fun e he hb=>.inl ?_⟩
     have:=List.all_eq_true.1 h1 e (by simpa using he)
     rw [hb] at this
     exact V8.1 (by simpa using this)
    ·cases h1
   | cons y L1=>
    simp only [List.cons_append,List.cons.injEq] at e
    obtain ⟨rfl,rfl⟩:=e
    obtain ⟨o,ho,hpre⟩:=hp L1 i L2 rfl
    refine ⟨o,ho,fun e he hb=>?_⟩
    rcases hpre e he hb with h'|h'
    ·simp only [List.mem_cons] at h'
     rcases h' with h'|h'
     ·exact .inr (by simp [h'])
     ·exact .inl h'
    ·exact .inr (by simp [h'])
theorem Um{listed:Array Bool}{i:Nat}(d:Bool)(h:i<listed.size):(listed.setIfInBounds i true).getD i d=true:=by
 simp [h]
theorem A7f{al:Nat->List Nat}{F:Fence}{fu:Nat}[FOk F]{n:Nat}{h0:Heap}{W0:World}(hn:cfg.n=n)(hfn:Bodies P cfg.fns){anc:List (List Nat)}(hanc:B63 ops anc=true){Q:Exit->Act->World->Prop}{K:VS->Heap->Prop}{ord:List Nat}(hord:A5p ops [] ord=true)(_hall:∀ i,i<ops.size->i∈ord):
 ∀ (m:Nat) (L:List Nat) (listed:Array Bool) (st:VS) (h:Heap) (a:Act) (W:World),L.length=m->L.Sublist ord->listed.size=ops.size->(∀ i,i<ops.size->(listed.getD i true=false↔i∈L))->(∀ i j,listed.getD i false=true->has (anc.getD i []) j=true->listed.getD j false=true)->
  Good n h0 W0 st h a W->Cb P cfg ops anc al m L st h K->(∀ st' h' a' W',K st' h'->Good n h0 W0 st' h' a' W'->Agree cfg.lim st st'->Q .normal a' W')->wpAnyIn F fu P .any ops Q m listed a W:=by
 obtain ⟨hnd,_,hpre⟩:=A3d hord
 intro m
 induction m with
 | zero=>
  intro L listed st h a W hl hsub hsz hlist hcl g hv hQ
  have:L=[]:=List.eq_nil_of_length_eq_zero hl
  subst this
  simp only [Cb] at hv
  refine ⟨?_,hQ st h a W hv g (Agree.refl _ _)⟩
  apply List.eq_nil_iff_forall_not_mem.2
  intro i hi
  obtain ⟨h1,o,ho,_⟩:=mem_ready.1 hi
  have:=(hlist i (Array.getElem?_eq_some_iff.1 ho).1).1 h1
  cases this
 | succ m ih=>
  intro L listed st h a W hl hsub hsz hlist hcl g hv hQ
  have wf:WFs st:=by obtain ⟨θ,r,_,_⟩:=g;exact r.wf
  have inl:∀ i,i∈L->i<ops.size:=by
   intro i hi
   obtain ⟨L1,L2,e⟩:=List.append_of_mem (hsub.subset hi)
   obtain ⟨o,ho,_⟩:=hpre L1 i L2 e
   exact (Array.getElem?_eq_some_iff.1 ho).1
  constructor
  ·
   intro hempty
   exfalso
   cases L with
   | nil=>simp at hl
   | cons i L=>
    have hi:=inl i (by simp)
    obtain ⟨L1,L2,e⟩:=List.append_of_mem (hsub.subset (show i∈i::L by simp))
    obtain ⟨o,ho,hp⟩:=hpre L1 i L2 e
    have:i∈Region.ready .any ops listed:=by
     refine mem_ready.2 ⟨(hlist i hi).2 (by simp),o,ho,fun ed he hb=>?_⟩
     rcases hp ed he hb with h'|h'
     ·cases h'
     ·have hed:ed.on<ops.size:=by
       obtain ⟨M1,M2,e'⟩:=List.append_of_mem h'
       obtain ⟨o',ho',_⟩:=hpre M1 ed.on (M2++i::L2) (by rw [e,e'];simp)
       exact (Array.getElem?_eq_some_iff.1 ho').1
      have hnot:ed.on∉i::L:=by
       intro hm
       have hs2:(i::L).Sublist (L1++i::L2):=by rw [<- e];exact hsub
       have hnd2:(L1++i::L2).Nodup:=by rw [<- e];exact hnd
       have hiL1:i∉L1:=fun hh=>(List.nodup_append.1 hnd2).2.2 i hh i (by simp) rfl
       have hs3:(i::L).Sublist (i::L2):=by
        clear hempty hlist hcl hQ hv g ih hp he hb
        revert hs2 hiL1
        clear hnd2 e h'
        induction L1 with
        | nil=>exact fun h _=>h
        | cons y L1 ihL=>
         intro hs2 hiL1
         refine ihL ?_ (fun hh=>hiL1 (by simp [hh]))
         cases hs2 with
         | cons _ h=>exact h
         | cons_cons _ h=>exact absurd (by simp) hiL1
       have:=hs3.subset hm
       exact (List.nodup_append.1 hnd2).2.2 ed.on h' ed.on this rfl
      cases hg:listed.getD ed.on false with
      | true=>rfl
      | false=>
       have:listed.getD ed.on true=false:=by
        have hlt:ed.on<listed.size:=by rw [hsz];exact hed
        simp [Array.getD,hlt] at hg ⊢;exact hg
       exact absurd ((hlist _ hed).1 this) hnot
    rw [hempty] at this;cases this
  ·intro i hi
   obtain ⟨h1,oi,hoi,hpr⟩:=mem_ready.1 hi
   have hisz:=(Array.getElem?_eq_some_iff.1 hoi).1
   have hiL:=(hlist i hisz).1 h1
   obtain ⟨L1,L2,e⟩:=List.append_of_mem hiL
   have hndL:L.Nodup:=hsub.nodup hnd
   have hno:∀ j∈L1,has (anc.getD i []) j=false:=by
    intro j hj
    cases hh:has (anc.getD i []) j with
    | false=>rfl
    | true=>
     exfalso
     have hjL:j∈L:=by rw [e];simp [hj]
     have hjl:=(hlist j (inl j hjL)).2 hjL
     have hA:=List.all_eq_true.1 (List.all_eq_true.1 hanc i (List.mem_range.2 hisz)) j (V8.1 hh)
     simp only [hoi] at hA
     obtain ⟨ed,he,hb⟩:=List.any_eq_true.1 hA
     simp only [Bool.and_eq_true,Bool.or_eq_true] at hb
     have hon:=hpr ed (by simpa using he) hb.1
     have hjt:listed.getD j false=true:=by
      rcases hb.2 with h'|h'
      ·rw [<- Nat.eq_of_beq_eq_true h'];exact hon
      ·exact hcl _ j hon h'
     have hlt:j<listed.size:=by rw [hsz];exact inl j hjL
     simp [Array.getD,hlt] at hjl hjt
     rw [hjl] at hjt;cases hjt
   have hi1':i∉L1:=by
    rw [e] at hndL
    exact fun hh=>(List.nodup_append.1 hndL).2.2 i hh i (by simp) rfl
   have hv2:=B5y hoi (L2:=L2) L1 m st h (by have:=hl;rw [e,List.length_append,List.length_cons] at this;omega) wf hno hi1' (by rw [<- e];exact hv)
   refine wpOpIn_mono (fun a' W' ⟨st',h',⟨_,hK⟩,g',ag⟩=>?_) (g.op hn hfn hoi hv2)
   have hset:∀ j d,(listed.setIfInBounds i true).getD j d=if j=i then true else listed.getD j d:=by
    intro j d
    by_cases hji:j=i
    ·subst hji;rw [if_pos rfl];exact Um d (by rw [hsz];exact hisz)
    ·rw [if_neg hji];exact getD_set_ne d (Ne.symm hji)
   rw [e] at hndL
   have hi1:i∉L1:=fun hh=>(List.nodup_append.1 hndL).2.2 i hh i (by simp) rfl
   have hi2:i∉L2:=(List.nodup_cons.1 (List.nodup_append.1 hndL).2.1).1
   refine ih (L1++L2) _ st' h' a' W' (by rw [e] at hl;simp at hl ⊢;omega) ?_ (by simpa using hsz) (fun j hj=>?_) (fun j k hj hk=>?_) g' hK fun st2 h2 a2 W2 k g2 ag2=>hQ st2 h2 a2 W2 k g2 (ag.trans ag2)
   ·refine List.Sublist.trans ?_ hsub
    rw [e]
    exact List.Sublist.append (List.Sublist.refl _) (List.sublist_cons_self _ _)
   ·rw [hset]
    by_cases hji:j=i
    ·subst hji;simp [hi1,hi2]
    ·rw [if_neg hji,hlist j hj,e];simp [hji]
   ·rw [hset] at hj ⊢
    by_cases hki:k=i
    ·rw [if_pos hki]
    ·rw [if_neg hki]
     by_cases hji:j=i
     ·subst hji
      have hA:=List.all_eq_true.1 (List.all_eq_true.1 hanc j (List.mem_range.2 hisz)) k (V8.1 hk)
      simp only [hoi] at hA
      obtain ⟨ed,he,hb⟩:=List.any_eq_true.1 hA
      simp only [Bool.and_eq_true,Bool.or_eq_true] at hb
      have hon:=hpr ed (by simpa using he) hb.1
      rcases hb.2 with h'|h'
      ·rw [<- Nat.eq_of_beq_eq_true h'];exact hon
      ·exact hcl _ k hon h'
     ·rw [if_neg hji] at hj;exact hcl j k hj hk
theorem A3l{al:Nat->List Nat}{F:Fence}{fu:Nat}[FOk F]{n:Nat}{h0:Heap}{W0:World}(hn:cfg.n=n)(hfn:Bodies P cfg.fns){id:Nat}{ord:List Nat}{anc:List (List Nat)}(hok:A71 P ops ord anc=true){Q:Exit->Act->World->Prop}{K:VS->Heap->Prop}{st:VS}{h:Heap}{a:Act}{W:World}
 (g:Good n h0 W0 st h a W) (hv:Cb P cfg ops anc al ord.length ord st h K) (hQ:∀ st' h' a' W',K st' h'->Good n h0 W0 st' h' a' W'->Agree cfg.lim st st'->Q .normal a' W'):(Code.region id ops true).wpIn F fu P Q a W:=by
 simp only [A71,Bool.and_eq_true] at hok
 obtain ⟨⟨⟨⟨h1,h2⟩,h3⟩,h4⟩,h5⟩:=hok
 refine wpIn_region_any h1 ?_
 have g':Good n h0 W0 st h a { W with drawn:=W.drawn+1 }:=by
  obtain ⟨θ,r,f,hB⟩:=g
  exact ⟨θ,⟨r.defers,r.size,r.slot,r.sim,r.own,r.inj,r.wf,r.out⟩,⟨f.sim,f.os,f.tape,f.output,f.size,f.keep,f.new⟩,hB⟩
 have hall:∀ i,i<ops.size->i∈ord:=fun i hi=>V8.1 (List.all_eq_true.1 h4 i (List.mem_range.2 hi))
 rw [Nat.eq_of_beq_eq_true h5] at hv
 refine A7f hn hfn h2 h3 hall ops.size ord _ st h a _ (Nat.eq_of_beq_eq_true h5) (List.Sublist.refl _) (by simp) (fun i hi=>?_) (fun i j hi _=>?_) g' hv hQ
 ·simp [Array.getD,hi,hall i hi]
 ·by_cases hlt:i<ops.size<;>simp [Array.getD,hlt] at hi
end
end Go.Proofs.YtajkakhfcokljaaGreatDoor
