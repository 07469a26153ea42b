/- A part. -/
import Derived.Test.YtkfhdoblhajcbaaGreatDoorG02
set_option linter.all false
open Bool renaming and_eq_true->aD,or_eq_true->aM
open List renaming mem_append_left->aJ,append_of_mem->aK,cons_append->aL
open Nat renaming eq_of_beq_eq_true->aI,beq->aO
open _root_.Go.Op renaming operands->aC
open _root_.Go renaming Oper->aE,Value->aH,Program->aP,Operand->aQ,TypeId->aR
open _root_.Go.Proofs.YtkfhdoblhajcbaaGreatDoor renaming Heap->aF,put_self->aG,AVal->aN
namespace Go.Proofs.YtkfhdoblhajcbaaGreatDoor
open Go
def U6(cfg:Cfg)(o:aE):Bool:=
 match o.op with
 |.alloc _ |.box _ _=>Od cfg o.dst
 |_=>false
def Ce(P:aP)(cfg:Cfg)(o:aE):Bool:=Tt P o||U6 cfg o
def B22(ops:Array aE)(rem:List Nat)(y:Nat):Bool:=rem.all fun i=>match ops[i]? with
 |some o=>(match o.dst with
  |some d=>!aO d y
  |none=>true)
 |none=>true
def A9v(cfg:Cfg)(o:aE):Bool:=
 match o.op with
 |.call c=>
  match c.callee with
  |.value (.func g)=>has cfg.wr g
  |.value (.tmp _)=>true
  |.builtin .copy=>true
  |.builtin .append=>has cfg.wr 1000000000
  |_=>false
 |_=>false
def Hm(o:aE)(st:VS):Bool:=
 match o.op with
 |.load _ a=>(match D7 st a with
  |.own _ _=>false
  |_=>true)
 |_=>false
def Ql(cfg:Cfg)(ops:Array aE)(rem:List Nat)(oj oi:aE)(st:VS):Bool:=
 !(A9v cfg oi&&Hm oj st) &&
 match oi.op with
 |.store _ (.tmp y) _=>
  match oj.op with
  |.load _ a=>B22 ops rem y&&(match D7 st a,st.env y with
   |.own k _,.own k' _=>!aO k k'
   |.val _,.own _ _=>true
   |.own _ _,.val _=>true
   |_,_=>false)
  |_=>true
 |.store _ _ _=>false
 |_=>true
def B44(P:aP)(cfg:Cfg)(al:Nat->List Nat)(oj:aE)(j:Nat):Bool:=Ce P cfg oj&&(al j).isEmpty
def B15(P:aP)(cfg:Cfg)(ops:Array aE)(anc:List (List Nat))(al:Nat->List Nat)(rem:List Nat)(st:VS)(oj:aE)(j i:Nat):Bool:=
 has (anc.getD i []) j ||
 match ops[i]? with
 |some oi=>B44 P cfg al oj j&&oj.apart ops oi&&Ql cfg ops rem oj oi st
 |none=>false
def Lo(cfg:Cfg)(o:aE):Bool:=
 match o.op with
 |.store _ _ _=>false
 |_=>!A9v cfg o
def Zm(P:aP)(cfg:Cfg)(ops:Array aE)(anc:List (List Nat))(al:Nat->List Nat)(rem:List Nat)(st:VS)(oj:aE)(j i:Nat):Bool:=B15 P cfg ops anc al rem st oj j i||(!B44 P cfg al oj j&&has (al j) i)
def C08(i:Nat):List Nat->List Nat
 | []=>[]
 |x::L=>bif aO x i then []else x::C08 i L
def del(i:Nat):List Nat->List Nat
 | []=>[]
 |x::L=>bif aO x i then L else x::del i L
def A3l(P:aP)(cfg:Cfg)(anc:List (List Nat))(al:Nat->List Nat)(oj:aE)(j:Nat)(L:List Nat):List Nat:=
 match B44 P cfg al oj j with
 |true=>[]
 |false=>(al j).filter fun i=>has L i&&(C08 i L).all (fun x=>!has (anc.getD i []) x) && !has (anc.getD i []) j
def C57(f:Nat->Prop):Nat->List Nat->Prop
 |i,[]=>f i
 |i,k::r=>f i/\C57 f k r
def C58(A:Prop)(f:Nat->Prop):List Nat->Prop
 | []=>A
 |i::r=>A/\C57 f i r
def Hg(P:aP)(cfg:Cfg)(ops:Array aE)(anc:List (List Nat))(al:Nat->List Nat):Nat->List Nat->VS->aF->(VS->aF->Prop)->Prop
 |_,[],st,h,K=>K st h
 |0,_::_,_,_,_=>False
 |n+1,j::L,st,h,K=>
  match ops[j]? with
  |none=>False
  |some o=>When (L.all (Zm P cfg ops anc al L st o j))
   (C58 (Qx P cfg ops o (Lo cfg o) st h fun st' h'=>Hg P cfg ops anc al n L st' h' K)
    (fun i=>
     match ops[i]? with
     |none=>False
     |some oi=>Qx P cfg ops oi (Lo cfg oi) st h fun st' h'=>Hg P cfg ops anc al n (j::del i L) st' h' K)
    (A3l P cfg anc al o j L))
def B2z{f:Nat->Prop}{i:Nat}:∀{k:Nat} {r:List Nat},C57 f k r->i∈k::r->f i
 |k,[],x,h=>by rw[List.mem_singleton.1 h];exact x
 |k,m::r,x,h=>by
  rcases List.mem_cons.1 h with rfl|h;·exact x.1
  ·exact B2z x.2 h
def A7u{A:Prop}{f:Nat->Prop}:∀{r:List Nat},C58 A f r->A
 | [],x=>x
 |_::_,x=>x.1
def B9o{A:Prop}{f:Nat->Prop}{i:Nat}:∀{r:List Nat},C58 A f r->i∈r->f i
 | [],_,h=>by cases h
 |_::_,x,h=>B2z x.2 h
def A68{i:Nat}{L2:List Nat}:∀{L1:List Nat},i∉L1->C08 i (L1++i::L2)=L1/\del i (L1++i::L2)=L1++L2
 | [],_=>by simp[C08,del]
 |x::L1,h=>by
  have hx:aO x i=false:=by
   cases e:aO x i with
   |false=>rfl
   |true=>
    simp_all
  obtain⟨c,f⟩:=A68 (L2:=L2) (L1:=L1) (i:=i) (fun d=>h (List.mem_cons_of_mem _ d));simp only[aL,C08,del,hx,c,f,cond_false,and_self]
def C34(ops:Array aE)(anc:List (List Nat)):Bool:=
 (List.range ops.size).all fun i=>(anc.getD i []).all fun j=>
  match ops[i]? with
  |some o=>o.after.toList.any fun e=>Region.binds .any e&&(aO e.on j||has (anc.getD e.on []) j)
  |none=>false
def B18(ops:Array aE):List Nat->List Nat->Bool
 |_,[]=>true
 |done,i::L=>
  (match ops[i]? with
   |some o=>o.after.toList.all fun e=>!Region.binds .any e||has done e.on
   |none=>false) && !has done i&&B18 ops (i::done) L
def B2g(P:aP)(ops:Array aE)(ord:List Nat)(anc:List (List Nat)):Bool:=P.follows .mixedOrders&&C34 ops anc&&B18 ops [] ord&&(List.range ops.size).all (has ord)&&aO ord.length ops.size
section
variable {P:aP} {cfg:Cfg} {ops:Array aE}
structure AgreeOn (cfg:Cfg) (ops:Array aE) (o:aE) (st st':VS):Prop where
 env:∀ x∈o.looksAt ops,st'.env x=st.env x
 load:∀ t a k off,o.op= .load t a->D7 st a= .own k off->st'.own k=st.own k
 alloc:∀ d,U6 cfg o=true->o.dst=some d->st.own d=none->st'.own d=none
def AgreeOn.eval{o:aE}{st st':VS}(ag:AgreeOn cfg ops o st st'){x:aQ}(hx:x∈o.op.operands):D7 st' x=D7 st x:=by
 cases x with
 |tmp t=>
  refine ag.env t ?_;exact aJ _ (List.mem_filterMap.2 ⟨.tmp t,gz0,rfl⟩)
 |_=>rfl
def AgreeOn.rho{o:aE}{st st':VS}(ag:AgreeOn cfg ops o st st'){x:aQ}(hx:x∈o.op.operands):rho st' x=rho st x:=by unfold Go.Proofs.YtkfhdoblhajcbaaGreatDoor.rho;rw[ag.eval hx]
def A7i{z:aH}{K K':aH->Prop}(x:exV z K)(hk:∀v,K v->K' v):exV z K':=by cases z<;>(unfold exV at x ⊢)<;>first |grind |grind
def B58{zs:List aH}:∀{K K':List aH->Prop},exL zs K->(∀v,K v->K' v)->exL zs K':=by
 induction zs with
 |nil=>exact fun x c=>c _ x
 |cons z zs ih=>exact fun x c=>A7i x fun v y=>ih y fun d=>c _
def B27{z:aH}{K:aH->Prop}(x:exV z K):∃v,K v/\∀K':aH->Prop,K' v->exV z K':=by cases z<;>(unfold exV at x)<;>first | (obtain⟨n,d⟩:=x;exact⟨_,d,fun K' y=>⟨_,y⟩⟩) | (obtain⟨p,n,c,d⟩:=x;exact⟨_,d,fun K' y=>⟨_,_,_,y⟩⟩)
def B99{zs:List aH}:∀{K:List aH->Prop},exL zs K->∃vs,K vs/\∀K':List aH->Prop,K' vs->exL zs K':=by
 induction zs with
 |nil=>exact fun x=>⟨[],x,fun _ y=>y⟩
 |cons z zs ih=>
  intro K x;obtain⟨v,e,d⟩:=B27 x;obtain⟨vs,c,f⟩:=ih e;exact⟨v::vs,c,fun K' y=>d _ (f _ y)⟩
def A5t{h:aF}{a:Addr}:∀{vs:List aH} {j:Nat} {X:Prop},cellsAt h a j vs X->X/\∀h' (Y:Prop),h.le h'->Y->cellsAt h' a j vs Y:=by
 intro vs
 induction vs with
 |nil=>exact fun x=>⟨x,fun _ _ _ y=>y⟩
 |cons v vs ih=>
  intro j X ⟨h1,h2⟩;obtain⟨d,e⟩:=ih h2;exact⟨d,fun h' Y c y=>⟨C0 c h1,e h' Y c y⟩⟩
def A2p{h:aF}{t:aR}{a:Addr}{C:aN->Prop}(x:Ai P t a h C):∃u,C (.val u)/\∀h' (C':aN->Prop),h.le h'->C' (.val u)->Ai P t a h' C':=by
 cases hag:Oe P t with
 |none=>simp only[Ai,hag]at x
 |some b=>
  cases b with
  |true=>
   simp only[Ai,hag]at x;split at x
   ·rename_i zs k;obtain⟨j,x⟩:=x.both;obtain⟨l,c,e⟩:=B99 x;obtain⟨f,m⟩:=A5t c;refine⟨_,f,fun h' C' d y=>?_⟩;simp only[Ai,hag,k,j];grind
   grind
  |false=>
   simp only[Ai,hag]at x;obtain⟨v,⟨i,g⟩,e⟩:=B27 x;refine⟨_,g,fun h' C' d y=>?_⟩;simp only[Ai,hag];exact e _ ⟨C0 d i,y⟩
def A54{t:aR}{cs:List aH}{off:Nat}{C:aN->Prop}(x:Ah P t cs off C):∃u,C (.val u)/\∀C':aN->Prop,C' (.val u)->Ah P t cs off C':=by
 cases hag:Oe P t with
 |none=>simp only[Ah,hag]at x
 |some b=>
  cases b with
  |true=>
   simp only[Ah,hag]at x;obtain⟨d,x⟩:=x.both;exact⟨_,x,fun C' y=>by simp only[Ah,hag,d];exact y⟩
  |false=>
   simp only[Ah,hag]at x;split at x
   ·rename_i v c;exact⟨_,x,fun C' y=>by simp only[Ah,hag,c];exact y⟩
   grind
def Au{v:Option aN}{dflt y:Nat}{C:Nat->Prop}(x:slBound v dflt y C):∃m,C m/\∀C':Nat->Prop,C' m->slBound v dflt y C':=by rcases x.out with⟨rfl,c⟩|⟨k,i,rfl,e,d,c⟩;{exact⟨_,c,fun _ z=>z⟩};·exact⟨_,c,fun _ z=>⟨⟨e,d⟩,z⟩⟩
def A45{t:aR}{x:aN}{lo hi:Option aN}{C:aN->Prop}(hv:Gc P t x lo hi C):∃u,C (.val u)/\∀C':aN->Prop,C' (.val u)->Gc P t x lo hi C':=by unfold Gc at hv;split at hv;{rename_i s f;obtain⟨m,d,j⟩:=Au hv;obtain⟨l,g,k⟩:=Au d;exact⟨_,g,fun C' y=>by simp only[Gc,f];grind⟩};{rename_i e A n c f;obtain⟨i,hv⟩:=hv.both;obtain⟨m,d,j⟩:=Au hv;obtain⟨l,g,k⟩:=Au d;exact⟨_,g,fun C' y=>by simp only[Gc,f,i];grind⟩};{rename_i n e a f;obtain⟨i,hv⟩:=hv.both;obtain⟨m,d,j⟩:=Au hv;obtain⟨l,g,k⟩:=Au d;exact⟨_,g,fun C' y=>by simp only[Gc,f,i];grind⟩};grind
def Yr{b:Bool}{X Y:Prop}(x:Br b X Y):(b=true/\X)\/(b=false/\Y):=by cases b;{exact .inr ⟨rfl,x⟩};·exact .inl ⟨rfl,x⟩
def Ss{t:aR}{x i:aN}{C:aN->Prop}(hv:Q0 P t x i C):∃v,C v/\(∀k off,v= .own k off->∃off',x= .own k off')/\∀C':aN->Prop,C' v->Q0 P t x i C':=by unfold Q0 at hv;split at hv;{rename_i len e k off _ n d;obtain⟨f,hv⟩:=hv.both;rcases Yr hv with⟨e,hv⟩|⟨_,hv⟩;{exact⟨_,hv,(fun j off' g=>gz0),fun C' y=>by simp only[Q0,d,f,e];exact y⟩};grind};{rename_i len e a _ n d;obtain⟨f,l,hv⟩:=hv.both;exact⟨_,hv,(fun j off' g=>by cases g),fun C' y=>by simp only[Q0,d,f];grind⟩};{rename_i e A n c _ i d;obtain⟨f,a,l,m,p,hv⟩:=hv.both;exact⟨_,hv,(fun j off' g=>by cases g),fun C' y=>by simp only[Q0,d,f];simp_all⟩};grind
def Bq{st st':VS}{xs:List aQ}(h:∀x∈xs,D7 st' x=D7 st x):S7 st' xs=S7 st xs:=by unfold S7;grind
def Pi{o:aE}{st:VS}(hsel:∀cs b,o.op ≠ .select cs b){C:aN->Prop}(hv:Mi P o st C):∃u,C (.val u)/\∀st' (C':aN->Prop),AgreeOn cfg ops o st st'->C' (.val u)->Mi P o st' C':=by unfold Mi at hv;split at hv;{rename_i e;split at hv;{refine⟨_,hv,fun st' C' c y=>?_⟩;unfold Mi;have f:S7 st' o.op.operands.toList=true:=by{rw[Bq (fun x d=>c.eval gz0)];exact e};have g:execOp (rho st') o=execOp (rho st) o:=execOp_congr o hsel fun x d=>c.rho d;grind};grind};grind
def A1b{t:aR}{xs ys:Array aH}{C:Bool->Prop}(hv:A1c P t xs ys C):∃b,C b/\∀C':Bool->Prop,C' b->A1c P t xs ys C':=by unfold A1c at hv;split at hv;{rename_i f c;obtain⟨d,hv⟩:=hv.both;split at hv;{rename_i b e;exact⟨b,hv,fun C' y=>by simp only[A1c,c,d,e];exact y⟩};grind};grind
def A9x{o:aE}{st:VS}{op:BinOp}{t t':aR}{x z:aQ}(hop:o.op= .binOp op t x z t'){C:aN->Prop}(hv:Jw P o st op t (D7 st x) (D7 st z) C):∃u,C (.val u)/\∀st' (C':aN->Prop),AgreeOn cfg ops o st st'->C' (.val u)->Jw P o st' op t (D7 st' x) (D7 st' z) C':=by have j:∀cs b,o.op ≠ .select cs b:=gz0;have g:∀st',AgreeOn cfg ops o st st'->D7 st' x=D7 st x/\D7 st' z=D7 st z:=fun st' c=>⟨c.eval (by rw[hop];simp[aC]),c.eval (by rw[hop];simp[aC])⟩;unfold Jw at hv;split at hv;{rename_i f d;obtain⟨b,k,l⟩:=A1b hv;exact⟨_,k,fun st' C' c y=>by simp only[Jw,f,d];grind⟩};{rename_i f d;obtain⟨b,k,l⟩:=A1b hv;exact⟨_,k,fun st' C' c y=>by simp only[Jw,f,d];grind⟩};{rename_i f d;obtain⟨i,hv⟩:=hv.both;exact⟨_,hv,fun st' C' c y=>by rw[(g st' c).1,(g st' c).2];simp only[Jw,f,d,i];exact y⟩};{rename_i f d;obtain⟨i,hv⟩:=hv.both;exact⟨_,hv,fun st' C' c y=>by rw[(g st' c).1,(g st' c).2];simp only[Jw,f,d,i];exact y⟩};{rename_i f d;obtain⟨i,hv⟩:=hv.both;rcases Yr hv with⟨e,hv⟩|⟨e,hv⟩;{exact hv.elim};·exact⟨_,hv,fun st' C' c y=>by rw[(g st' c).1,(g st' c).2];simp only[Jw,f,d,i,e];exact y⟩};{rename_i f d;obtain⟨i,hv⟩:=hv.both;rcases Yr hv with⟨e,hv⟩|⟨e,hv⟩;{exact hv.elim};·exact⟨_,hv,fun st' C' c y=>by rw[(g st' c).1,(g st' c).2];simp only[Jw,f,d,i,e];exact y⟩};{rename_i f d;rcases Yr hv with⟨e,hv⟩|⟨e,hv⟩;{exact hv.elim};·exact⟨_,hv,fun st' C' c y=>by rw[(g st' c).1,(g st' c).2];simp only[Jw,f,d,e];exact y⟩};{rename_i f d;rcases Yr hv with⟨e,hv⟩|⟨e,hv⟩;{exact hv.elim};·exact⟨_,hv,fun st' C' c y=>by rw[(g st' c).1,(g st' c).2];simp only[Jw,f,d,e];exact y⟩};{rename_i f d;exact⟨_,hv.2,fun st' C' c y=>by simp only[Jw,f,d];grind⟩};·obtain⟨u,m,l⟩:=Pi (cfg:=cfg) (ops:=ops) j hv;refine⟨u,m,fun st' C' c y=>?_⟩;unfold Jw;grind
def B7f{o:aE}{st:VS}{h:aF}(hsel:∀cs b,o.op ≠ .select cs b){C:aN->Prop}(hv:vcQ P o st h C):
 ∃v,C v/\(∀k off,v= .own k off->∃x off',x∈o.op.operands/\D7 st x= .own k off')/\∀st' h' C',(Hm o st=true->h.le h')->AgreeOn cfg ops o st st'->C' v->vcQ P o st' h' C':=by
 unfold vcQ at hv;split at hv
 ·rename_i x d;refine⟨_,hv,(fun k off e=>⟨x,off,(by rw[d];simp[aC]),e⟩),fun st' h' C' j g y=>?_⟩;unfold vcQ;simp only[d,g.eval (x:=x) (by rw[d];simp[aC])];exact y
 ·rename_i x d;refine⟨_,hv,(fun k off e=>⟨x,off,(by rw[d];simp[aC]),e⟩),fun st' h' C' j g y=>?_⟩;unfold vcQ;simp only[d,g.eval (x:=x) (by rw[d];simp[aC])];exact y
 ·rename_i c x z d;split at hv
  ·rename_i b D
   have Q:∀st',AgreeOn cfg ops o st st'->D7 st' c= .val (.bool b)/\D7 st' x=D7 st x/\D7 st' z=D7 st z:=fun st' g=>
    ⟨by rw[g.eval (x:=c) (by rw[d];simp[aC])];exact D,g.eval (by rw[d];simp[aC]),g.eval (by rw[d];simp[aC])⟩;rcases Yr hv with⟨e,hv⟩|⟨e,hv⟩
   ·refine⟨_,hv,(fun k off e=>⟨x,off,(by rw[d];simp[aC]),e⟩),fun st' h' C' j g y=>?_⟩;obtain⟨H,G,L⟩:=Q st' g;unfold vcQ;simp only[d,H,G,L,e];exact y
   ·refine⟨_,hv,(fun k off e=>⟨z,off,(by rw[d];simp[aC]),e⟩),fun st' h' C' j g y=>?_⟩;obtain⟨H,G,L⟩:=Q st' g;unfold vcQ;simp only[d,H,G,L,e];exact y
  grind
 ·rename_i t x d;have q:∀st',AgreeOn cfg ops o st st'->D7 st' x=D7 st x:=fun st' g=>g.eval (by rw[d];simp[aC]);split at hv
  ·rename_i k off p;split at hv
   ·rename_i cs O;obtain⟨u,n,r⟩:=A54 hv;refine⟨_,n,(fun k off e=>by cases e),fun st' h' C' j g y=>?_⟩;unfold vcQ;simp only[d,q st' g,p,g.load t x k off d p,O];grind
   grind
  ·rename_i S p;obtain⟨u,n,r⟩:=A2p hv;refine⟨_,n,(fun k off e=>by cases e),fun st' h' C' j g y=>?_⟩;unfold vcQ;simp only[d,q st' g,p];exact r h' C' (j (by simp only[Hm,d,p])) y
  grind
 ·rename_i s x f d;have q:∀st',AgreeOn cfg ops o st st'->D7 st' x=D7 st x:=fun st' g=>g.eval (by rw[d];simp[aC]);split at hv
  ·rename_i k off p;split at hv
   ·split at hv
    ·obtain⟨D,hv⟩:=hv.both;refine⟨_,hv,(fun N off' e=>by cases e;exact⟨x,off,(by rw[d];simp[aC]),p⟩),fun st' h' C' j g y=>?_⟩;unfold vcQ;grind
    grind
   grind
  ·split at hv
   ·split at hv
    ·obtain⟨D,hv⟩:=hv.both;refine⟨_,hv,(fun N off' e=>by cases e),fun st' h' C' j g y=>?_⟩;unfold vcQ;grind
    grind
   grind
  grind
 ·rename_i x d;have q:∀st',AgreeOn cfg ops o st st'->D7 st' x=D7 st x:=fun st' g=>g.eval (by rw[d];simp[aC]);split at hv
  ·rename_i k off p;refine⟨_,hv,(fun N off' e=>by cases e;exact⟨x,off,(by rw[d];simp[aC]),p⟩),fun st' h' C' j g y=>?_⟩;unfold vcQ;grind
  ·obtain⟨S,hp,hv⟩:=hv;refine⟨_,hv,(fun N off' e=>by cases e),fun st' h' C' j g y=>?_⟩;unfold vcQ;grind
  grind
 ·rename_i t x i d;obtain⟨v,n,T,r⟩:=Ss hv;refine⟨_,n,(fun k off e=>let ⟨off',e'⟩:=T k off e;⟨x,off',(by rw[d];simp[aC]),e'⟩),fun st' h' C' j g y=>?_⟩
  unfold vcQ;simp only[d,g.eval (x:=x) (by rw[d];simp[aC]),g.eval (x:=i) (by rw[d];simp[aC])];grind
 ·rename_i t x i d;have q:∀st',AgreeOn cfg ops o st st'->D7 st' x=D7 st x/\D7 st' i=D7 st i:=fun st' g=>⟨g.eval (by rw[d];simp[aC]),g.eval (by rw[d];simp[aC])⟩;split at hv
  ·obtain⟨c,X,hv⟩:=hv;refine⟨_,hv,(fun k off e=>by cases e),fun st' h' C' j g y=>?_⟩;unfold vcQ;grind
  ·obtain⟨u,n,r⟩:=Pi (cfg:=cfg) (ops:=ops) hsel hv;refine⟨_,n,(fun k off e=>by cases e),fun st' h' C' j g y=>?_⟩;unfold vcQ;grind
 ·rename_i t x B w d;obtain⟨u,n,r⟩:=A45 hv;refine⟨_,n,(fun k off e=>by cases e),fun st' h' C' j g y=>?_⟩;have q:D7 st' x=D7 st x:=g.eval (by rw[d];simp[aC])
  have F:B.map (D7 st')=B.map (D7 st):=by
   cases B with
   |none=>rfl
   |some z=>simp only[Option.map_some];rw[g.eval (x:=z) (by rw[d];simp[aC])]
  have E:w.map (D7 st')=w.map (D7 st):=by
   cases w with
   |none=>rfl
   |some z=>simp only[Option.map_some];rw[g.eval (x:=z) (by rw[d];simp[aC])]
  unfold vcQ;grind
 ·rename_i t x B w mx d;have ev:∀st',AgreeOn cfg ops o st st'->D7 st' x=D7 st x/\D7 st' B=D7 st B/\D7 st' w=D7 st w/\D7 st' mx=D7 st mx:=fun st' g=>⟨g.eval (by rw[d];simp[aC]),g.eval (by rw[d];simp[aC]),g.eval (by rw[d];simp[aC]),g.eval (by rw[d];simp[aC])⟩;unfold Mh at hv;split at hv
  ·rename_i e A m c V l k2 h' k3 b R q F E M;obtain⟨D,H,G,L,hv⟩:=hv.both;refine⟨_,hv,(fun k off e=>by cases e),fun st' h' C' j g y=>?_⟩;unfold vcQ;simp only[d,(ev st' g).1,(ev st' g).2.1,(ev st' g).2.2.1,(ev st' g).2.2.2,q,F,E,M,Mh,R,D];grind
  grind
 ·rename_i op t x z W d;obtain⟨u,n,r⟩:=A9x (cfg:=cfg) (ops:=ops) d hv;refine⟨_,n,(fun k off e=>by cases e),fun st' h' C' j g y=>?_⟩;unfold vcQ;grind
 ·exact hv.elim
 ·obtain⟨u,n,r⟩:=Pi (cfg:=cfg) (ops:=ops) hsel hv;refine⟨_,n,(fun k off e=>by cases e),fun st' h' C' j g y=>?_⟩;unfold vcQ;grind
inductive Upd where
 | put (d:Option Nat) (v:aN)
 | own (d:Nat) (cs:List aH)
def Upd.app:Upd->VS->VS
 |.put d v,s=>s.putO d v
 |.own d cs,s=>(s.put d (.own d 0)).setOwn d cs
def Upd.dst:Upd->Option Nat
 |.put d _=>d
 |.own d _=>some d
def Ln{o:aE}{j:Nat}{want:Bool}{g:Nat}(hg:o.guard=some (j,want))(hd:(ops[j]?).bind (·.dst)=some g):g∈o.looksAt ops:=by unfold Oper.looksAt;grind
def A0k{o:aE}{st:VS}{h:aF}{gr:Bool}{K:VS->aF->Prop}(hs:Ce P cfg o=true)(hv:Ae P cfg o gr st h K):∃u:Upd,u.dst=o.dst/\K (u.app st) h/\(∀d cs,u= .own d cs->st.own d=none)/\(∀d v k off,u= .put d v->v= .own k off->∃x off',x∈o.op.operands/\D7 st x= .own k off')/\(∀d cs,u= .own d cs->U6 cfg o=true)/\∀st' h' (K':VS->aF->Prop),(Hm o st=true->h.le h')->AgreeOn cfg ops o st st'->K' (u.app st') h'->Ae P cfg o gr st' h' K':=by obtain⟨C,hv⟩:=hv.both;split at hv;{rename_i m;have n:∀cs b,o.op ≠ .select cs b:=fun cs b e=>by{simp[Tt,e]at m};obtain⟨v,D,O,s⟩:=B7f (cfg:=cfg) (ops:=ops) n hv;refine⟨.put o.dst v,rfl,D,(fun d cs e=>by cases e),(fun d L k off e M=>gz0),(fun d cs e=>by cases e),fun st' h' K' p j y=>?_⟩;unfold Ae;rw[C];simp only[When,m];exact s st' h' _ p j y};·rename_i m;have c:U6 cfg o=true:=by{simpa[Ce,m]using hs};have l:∀cells:List aH,If cfg o.dst cells st h K->∃u:Upd,u.dst=o.dst/\K (u.app st) h/\(∀d cs,u= .own d cs->st.own d=none)/\(∀d v k off,u= .put d v->v= .own k off->∃x off',x∈o.op.operands/\D7 st x= .own k off')/\(∀d cs,u= .own d cs->U6 cfg o=true)/\∀st' h' (K':VS->aF->Prop),(Hm o st=true->h.le h')->AgreeOn cfg ops o st st'->K' (u.app st') h'->If cfg o.dst cells st' h' K':=by{intro cells hv;unfold If at hv;split at hv;{rename_i d i;obtain⟨g,hv⟩:=hv.both;simp only[aD,Option.isNone_iff_eq_none]at g;refine⟨.own d cells,i.symm,hv,(fun F cs e=>gz0),(fun F v k off e _=>by cases e),(fun _ _ _=>c),fun st' h' K' p j y=>?_⟩;have H:st'.own d=none:=j.alloc d c i g.2;rw[i];simp only[If,g.1.1,g.1.2,H,Option.isNone_none,Bool.and_self,When];exact y};grind};unfold U6 at c;split at hv;{rename_i t f;rw[f]at c;simp only[c]at hv;obtain⟨N,hv⟩:=hv.both;obtain⟨u,z,r,A,w,B,E⟩:=l _ hv;refine⟨u,z,r,A,w,B,fun st' h' K' p j y=>?_⟩;unfold Ae;grind};{rename_i t x f;rw[f]at c;obtain⟨G,hv⟩:=hv.both;simp only[c]at hv;obtain⟨u,z,r,A,w,B,E⟩:=l _ hv;refine⟨u,z,r,A,w,B,fun st' h' K' p j y=>?_⟩;have q:=j.eval (x:=x) (by rw[f];simp[aC]);unfold Ae;simp only[When,m,f,c,q,G,j.rho (x:=x) (by rw[f];simp[aC])];grind};all_goals grind
def B6m{o:aE}{st:VS}{h:aF}{gr:Bool}{K:VS->aF->Prop}(hs:Ce P cfg o=true)(hv:Qx P cfg ops o gr st h K):∃u:Upd,u.dst=o.dst/\K (u.app st) h/\(∀d cs,u= .own d cs->st.own d=none)/\(∀d v k off,u= .put d v->v= .own k off->∃x off',x∈o.op.operands/\D7 st x= .own k off')/\(∀d cs,u= .own d cs->U6 cfg o=true)/\∀st' h' (K':VS->aF->Prop),(Hm o st=true->h.le h')->AgreeOn cfg ops o st st'->K' (u.app st') h'->Qx P cfg ops o gr st' h' K':=by unfold Qx at hv;split at hv;{obtain⟨u,w,r,B,t,C,E⟩:=A0k (ops:=ops) hs hv;exact⟨u,w,r,B,t,C,fun st' h' K' A m y=>by unfold Qx;grind⟩};·rename_i j s p;split at hv;{exact hv.elim};·rename_i i g;split at hv;{rename_i b n;have f:=Ln p g;have skip:∀D:Bool,b=D->When (T8 cfg o.dst) (K ((st.put i (.val (.bool D))).putO o.dst (.val undef)) h)->T8 cfg o.dst=true/\K (st.putO o.dst (.val undef)) h:=by{intro D e x;subst e;rw[aG st n]at x;exact x.both};cases b<;>cases s;{have l:Ae P cfg o gr (st.put i (.val (.bool false))) h K:=hv;rw[aG st n]at l;obtain⟨u,w,r,B,t,C,E⟩:=A0k (ops:=ops) hs l;refine⟨u,w,r,B,t,C,fun st' h' K' A m y=>?_⟩;have c:st'.env i= .val (.bool false):=by{rw[m.env i f];exact n};unfold Qx;simp only[p,g,c,Br];rw[aG st' c];grind};{obtain⟨q,z⟩:=skip false rfl hv;refine⟨.put o.dst (.val undef),rfl,z,(fun d cs e=>by cases e),(fun d v k off e F=>gz0),(fun d cs e=>by cases e),fun st' h' K' A m y=>?_⟩;have c:st'.env i= .val (.bool false):=by{rw[m.env i f];exact n};unfold Qx;simp only[p,g,c,Br];rw[aG st' c,q];exact y};{obtain⟨q,z⟩:=skip true rfl hv;refine⟨.put o.dst (.val undef),rfl,z,(fun d cs e=>by cases e),(fun d v k off e F=>gz0),(fun d cs e=>by cases e),fun st' h' K' A m y=>?_⟩;have c:st'.env i= .val (.bool true):=by{rw[m.env i f];exact n};unfold Qx;simp only[p,g,c,Br];rw[aG st' c,q];exact y};·have l:Ae P cfg o gr (st.put i (.val (.bool true))) h K:=hv;rw[aG st n]at l;obtain⟨u,w,r,B,t,C,E⟩:=A0k (ops:=ops) hs l;refine⟨u,w,r,B,t,C,fun st' h' K' A m y=>?_⟩;have c:st'.env i= .val (.bool true):=by{rw[m.env i f];exact n};unfold Qx;simp only[p,g,c,Br];rw[aG st' c];grind};{rename_i G n;have f:=Ln p g;obtain⟨q,z⟩:=hv.both;refine⟨.put o.dst (.val undef),rfl,z,(fun d cs e=>by cases e),(fun d v k off e F=>gz0),(fun d cs e=>by cases e),fun st' h' K' A m y=>?_⟩;have c:st'.env i= .val (.tuple G):=by{rw[m.env i f];exact n};unfold Qx;simp only[p,g,c];rw[q];exact y};grind
def Sn{z:aH}{K K':aH->Prop}(x:exT z K)(hk:∀v,K v->K' v):exT z K':=by unfold exT at x ⊢;split at x;{exact B58 x fun c=>hk _};·exact A7i x hk
def B28{zs:List aH}:∀{K K':List aH->Prop},exTs zs K->(∀v,K v->K' v)->exTs zs K':=by
 induction zs with
 |nil=>exact fun x c=>c _ x
 |cons z zs ih=>exact fun x c=>Sn x fun v y=>ih y fun d=>c _
def Uy{t:aR}{K K':aH->Prop}(x:exRt P t K)(hk:∀v,K v->K' v):exRt P t K':=by unfold exRt at x ⊢;split at x;{exact B28 x fun c=>hk _};·exact Sn x hk
def WFs(st:VS):Prop:=∀i k off,st.env i= .own k off->(st.own k).isSome=true
structure Frm (o:aE) (st st':VS):Prop where
 env:∀ x,o.dst≠some x->st'.env x=st.env x
 own:∀ k,(o.dst=some k->(st.own k).isSome=true)->(∀ t a b off,o.op= .store t a b->D7 st a ≠ .own k off)->st'.own k=st.own k
 wf:WFs st'
def A0b{st:VS}(wf:WFs st){x:aQ}{k off:Nat}(e:D7 st x= .own k off):(st.own k).isSome=true:=by
 cases x with
 |tmp t=>exact wf t k off e
 |_=>cases e
def Po(st:VS)(d:Option Nat)(v:aN)(x:Nat):(st.putO d v).env x=if d=some x then v else st.env x:=by
 cases d with
 |none=>rfl
 |some d=>
  by_cases h:x=d;·subst h;simp[VS.putO,VS.put]
  ·have:¬d=x:=fun e=>h e.symm;simp[VS.putO,VS.put,Fs h,this]
def V1{o:aE}{st:VS}(wf:WFs st)(u:aH):Frm o st (st.putO o.dst (.val u)):=by refine⟨fun x c=>by rw[Po,iN c],fun k _ _=>by rw[Q4],fun i k off e=>?_⟩;rw[Po]at e;rw[Q4];split at e;{cases e};·exact wf i k off e
def Fy{u:Upd}{st:VS}{x:Nat}(h:u.dst≠some x):(u.app st).env x=st.env x:=by
 cases u with
 |put d v=>simp only[Upd.app,Po];rw[iN (show d≠some x from h)]
 |own d cs=>
  have:x≠d:=fun e=>h (by rw[e];rfl);simp[Upd.app,VS.setOwn,VS.put,Fs this]
def Cp{u:Upd}{st:VS}{k:Nat}(h:∀d cs,u= .own d cs->k≠d):(u.app st).own k=st.own k:=by
 cases u with
 |put d v=>simp only[Upd.app,Q4]
 |own d cs=>exact G9 _ _ (h d cs rfl)
def Rd(st:VS){d e:Nat}(v u:aN)(h:d≠e):(st.put d v).put e u=(st.put e u).put d v:=by unfold VS.put;congr 1;funext i;by_cases c:i=d;{subst c;simp[Fs h]};·by_cases f:i=e;{simp[Fs c]};·simp[Fs c,Fs f]
def J4{u:Upd}{st:VS}{d:Option Nat}{v:aN}(h:∀x,u.dst=some x->d≠some x):(u.app st).putO d v=u.app (st.putO d v):=by
 cases d with
 |none=>rfl
 |some d=>
  cases u with
  |put e w=>
   cases e with
   |none=>rfl
   |some e=>exact Rd st w v (fun x=>h e rfl (congrArg some x.symm))
  |own e cs=>
   have:=Rd st (.own e 0) v (fun x=>h e rfl (congrArg some x.symm));show((st.put e (.own e 0)).setOwn e cs).put d v=((st.put d v).put e (.own e 0)).setOwn e cs;rw[<- this];rfl
def Jg{u:Upd}{st:VS}{k:Nat}{cs:List aH}(h:∀d c,u= .own d c->k≠d):(u.app st).setOwn k cs=u.app (st.setOwn k cs):=by
 cases u with
 |put d v=>cases d<;>rfl
 |own d c=>
  have f:=h d c rfl;show((st.put d (.own d 0)).setOwn d c).setOwn k cs=((st.setOwn k cs).put d (.own d 0)).setOwn d c;unfold VS.setOwn VS.put;congr 1;funext i;by_cases e:i=d;·subst e;simp[Fs (Ne.symm f)]
  ·by_cases g:i=k;·simp[Fs e]
   ·simp[Fs e,Fs g]
def B5v{u v:Upd}{st:VS}(h:∀x,u.dst=some x->v.dst≠some x):v.app (u.app st)=u.app (v.app st):=by
 cases v with
 |put d w=>exact J4 h
 |own d cs=>
  have f:(u.app st).put d (.own d 0)=u.app (st.put d (.own d 0)):=J4 (d:=some d) h;show((u.app st).put d (.own d 0)).setOwn d cs=_;rw[f,Jg (fun e c eq=>by subst eq;exact fun x=>h e rfl (by rw[<- x];rfl))];rfl
def Frm.upd{o:aE}{u:Upd}{st:VS}(hd:u.dst=o.dst)(wf:WFs st)(hv:∀d v k off,u= .put d v->v= .own k off->∃x off',D7 st x= .own k off')(hn:∀d cs,u= .own d cs->st.own d=none):Frm o st (u.app st):=by
 refine⟨fun x f=>Fy gz0,fun k g _=>Cp (fun d cs e=>?_),fun i k off e=>?_⟩
 ·rintro rfl;have:=g (by rw[<- hd,e];rfl);grind
 cases u with
 |put d v=>
  simp only[Upd.app,Q4]at e ⊢;rw[Po]at e;split at e
  ·obtain⟨x,off',f⟩:=hv d v k off rfl e;exact A0b wf f
  ·exact wf i k off e
 |own d cs=>
  by_cases c:i=d
  ·subst c;have:((st.put i (.own i 0)).setOwn i cs).env i= .own i 0:=by simp[VS.setOwn,VS.put]
   simp only[Upd.app]at e ⊢;rw[this]at e;injection e with e1 e2;subst e1;rw[Aw];rfl
  ·rw[Fy (u:=.own d cs) (fun x=>c (by cases x;rfl))]at e;have:=wf i k off e;rw[Cp (u:=.own d cs) (fun l j m=>gz0)];exact this
structure Before (cfg:Cfg) (ops:Array aE) (u:Upd) (o:aE) (st:VS):Prop where
 look:∀ x,u.dst=some x->x∉o.looksAt ops
 dst:∀ x,u.dst=some x->o.dst≠some x
 free:∀ d cs,u= .own d cs->st.own d=none
 wf:WFs st
def Before.eval{u:Upd}{o:aE}{st:VS}(b:Before cfg ops u o st){x:aQ}(hx:x∈o.op.operands):D7 (u.app st) x=D7 st x:=by
 cases x with
 |tmp t=>
  refine Fy fun e=>b.look t e ?_;exact aJ _ (List.mem_filterMap.2 ⟨.tmp t,gz0,rfl⟩)
 |_=>rfl
def Before.rho{u:Upd}{o:aE}{st:VS}(b:Before cfg ops u o st){x:aQ}(hx:x∈o.op.operands):rho (u.app st) x=rho st x:=by unfold Go.Proofs.YtkfhdoblhajcbaaGreatDoor.rho;rw[b.eval hx]
def Before.key{u:Upd}{o:aE}{st:VS}(b:Before cfg ops u o st){x:aQ}{k off:Nat}(e:D7 st x= .own k off):∀d cs,u= .own d cs->k≠d:=by rintro d cs c rfl;have:=A0b b.wf e;rw[b.free k cs c]at this;cases this
def Grw(cfg:Cfg)(o:aE)(st:VS)(h h':aF):Prop:=A9v cfg o=false->(∀t a b,o.op= .store t a b->∃k off,D7 st a= .own k off)->h.le h'
def Grw.of{cfg:Cfg}{o:aE}{st:VS}{h h':aF}(x:h.le h'):Grw cfg o st h h':=fun _ _=>x
def Grow.map{gr:Bool}{h h':aF}{X Y:Prop}(x:Grow gr h h' X)(f:X->(gr=true->h.le h')->Y):Grow gr h h' Y:=by cases gr;{exact f x (fun e=>by cases e)};·exact⟨x.1,f x.2 (fun _=>x.1)⟩
def Uz{u:Upd}{o:aE}{st:VS}(b:Before cfg ops u o st){s:Sem aH}{h:aF}{K:VS->aF->Prop}{K':VS->aF->Prop}(hk:∀st' h',K (u.app st') h'->Grw cfg o st h h'->Frm o st st'->K' st' h')(x:effV P s o true (u.app st) h K): effV P s o true st h K':=by refine Ji s x fun v h' y=>Sn y fun w ⟨d,c,e⟩=>⟨d,c,hk _ _ ?_ (Grw.of c) (V1 b.wf w)⟩;rwa [J4 (fun z f=>b.dst z f)]at e
def Yd{u:Upd}{o:aE}{st:VS}{gr:Bool}(b:Before cfg ops u o st)(hgw:A9v cfg o=false->gr=true){s:Sem aH}{h:aF}{K:VS->aF->Prop}{K':VS->aF->Prop}(hk:∀st' h',K (u.app st') h'->Grw cfg o st h h'->Frm o st st'->K' st' h')(x:effV P s o gr (u.app st) h K): effV P s o gr st h K':=by refine Ji s x fun v h' y=>Sn y fun w ⟨f,c⟩=>⟨f,c.map fun g d=>hk _ _ ?_ (fun e _=>d (hgw e)) (V1 b.wf w)⟩;rwa [J4 (fun z i=>b.dst z i)]at g
def A35{u:Upd}{o:aE}{st:VS}(b:Before cfg ops u o st){s:Sem aH}{h:aF}{K:VS->aF->Prop}{K':VS->aF->Prop}(hk:∀st' h',K (u.app st') h'->Grw cfg o st h h'->Frm o st st'->K' st' h')(x:effP P s o true (u.app st) h K): effP P s o true st h K':=by refine Ji s x fun v h' ⟨w,d,c,e⟩=>⟨w,d,c,hk _ _ ?_ (Grw.of c) (V1 b.wf _)⟩;rwa [J4 (fun z f=>b.dst z f)]at e
def B2b{u:Upd}{o:aE}{st:VS}(b:Before cfg ops u o st){s:Sem Unit}{h:aF}{K:VS->aF->Prop}{K':VS->aF->Prop}(hno:¬(∀t a b,o.op= .store t a b->∃k off,D7 st a= .own k off))(hk:∀st' h',K (u.app st') h'->Grw cfg o st h h'->Frm o st st'->K' st' h')(x:effU P s o false (u.app st) h K): effU P s o false st h K':=by refine Ji s x fun v h' c=>?_;rw[J4 (fun z e=>b.dst z e)]at c;exact hk _ _ c (fun _ d=>absurd d hno) (V1 b.wf _)
def Vg{u:Upd}{o:aE}{st:VS}(b:Before cfg ops u o st)(hs:Ce P cfg o=false){h:aF}{K:VS->aF->Prop}{K':VS->aF->Prop}(hk:∀st' h',K (u.app st') h'->Grw cfg o st h h'->Frm o st st'->K' st' h')(hv:Ae P cfg o (Lo cfg o) (u.app st) h K):Ae P cfg o (Lo cfg o) st h K':=by
 unfold Ae at hv ⊢;obtain⟨hd,hv⟩:=hv.both;rw[hd];simp only[Ce,Bool.or_eq_false_iff]at hs;simp only[hs.1]at hv ⊢
 show(match o.op with
  |.alloc t=>_
  |.box t x=>_
  |.store t a x=>_
  |.makeSlice t l c=>_
  |.buildSlice t n ps=>_
  |.convert s d x=>_
  |.call c=>_
  |_=>_)
 split at hv
 ·rename_i t g;have m:Lo cfg o=true:=by simp[Lo,A9v,g]
  rw[m]at hv ⊢;have:Od cfg o.dst=false:=by simpa[U6,g]using hs.2
  simp only[g,this]at hv ⊢;exact A35 b hk hv
 ·rename_i t x g;have m:Lo cfg o=true:=by simp[Lo,A9v,g]
  rw[m]at hv ⊢;have:Od cfg o.dst=false:=by simpa[U6,g]using hs.2
  have D:x∈o.op.operands:=by rw[g];simp[aC]
  simp only[g,this,b.eval D,b.rho D]at hv ⊢;obtain⟨j,hv⟩:=hv.both;rw[j];exact A35 b hk hv
 ·rename_i t a x g;have m:Lo cfg o=false:=by simp[Lo,g]
  rw[m]at hv ⊢;have A:a∈o.op.operands:=by rw[g];simp[aC]
  have D:x∈o.op.operands:=by rw[g];simp[aC]
  simp only[g];unfold A44 at hv ⊢;rw[b.eval A]at hv;split at hv
  ·rename_i k off S;have F:=b.key S;rw[Cp F]at hv;try simp only[S]
   split at hv
   ·try simp only[hcs]
    rw[b.eval D,b.rho D]at hv;obtain⟨j,hv⟩:=hv.both;rw[j];rw[Jg F,J4 (fun z G=>b.dst z G)]at hv;refine hk _ _ hv (Grw.of (B7 h)) (⟨fun y q=>by rw[Po,iN q];rfl,fun V _ L=>?_,fun i V M e=>?_⟩)
    ·rw[Q4,G9];grind
    ·rw[Po]at e;rw[Q4];split at e;·cases e
     ·have:=b.wf i V M e;by_cases N:V=k;·subst N;rw[Aw];rfl
      ·rw[G9 _ _ N];exact this
   omega
  ·try simp only[T]
   rw[b.eval D,b.rho D]at hv;obtain⟨j,hv⟩:=hv.both;rw[j];exact B2b b (fun D=>gz0) hk hv
  omega
 ·rename_i t l c g;have m:Lo cfg o=true:=by simp[Lo,A9v,g]
  rw[m]at hv ⊢;have W:l∈o.op.operands:=by rw[g];simp[aC]
  have X:c∈o.op.operands:=by rw[g];simp[aC]
  have A:S7 (u.app st) [l,c]=S7 st [l,c]:=Bq fun y q=>by
   simp only[List.mem_cons,List.not_mem_nil,or_false]at q;rcases q with rfl|rfl;·exact b.eval W
   ·exact b.eval X
  simp only[g];rw[A,b.rho W,b.rho X]at hv;obtain⟨j,hv⟩:=hv.both;rw[j];exact Uz b hk hv
 ·rename_i t n ps g;have m:Lo cfg o=true:=by simp[Lo,A9v,g]
  rw[m]at hv ⊢
  have T:∀p∈ps,p.2∈o.op.operands:=fun p T=>by
   simp only[aC,List.mem_toArray,List.mem_map,Array.mem_toList_iff];grind
  have A:S7 (u.app st) (ps.toList.map (·.2))=S7 st (ps.toList.map (·.2)):=Bq fun y q=>by
   obtain⟨p,O,rfl⟩:=List.mem_map.1 q;exact b.eval (T p gz0)
  have H:(ps.map fun(i,x)=>(i,rho (u.app st) x))=ps.map fun(i,x)=>(i,rho st x):=by
   apply Array.map_congr_left;intro p O;simp only[b.rho (T p O)]
  simp only[g];rw[A,H]at hv;obtain⟨j,hv⟩:=hv.both;rw[j];exact Uz b hk hv
 ·rename_i s d x g;have m:Lo cfg o=true:=by simp[Lo,A9v,g]
  rw[m]at hv ⊢;have D:x∈o.op.operands:=by rw[g];simp[aC]
  have A:S7 (u.app st) [x]=S7 st [x]:=Bq fun y q=>by
   simp only[List.mem_cons,List.not_mem_nil,or_false]at q;rw[q];exact b.eval D
  simp only[g];rw[A,b.rho D]at hv;obtain⟨j,hv⟩:=hv.both;rw[j];exact Uz b hk hv
 ·rename_i c g;generalize m:Lo cfg o=gr at hv ⊢;have B:A9v cfg o=false->gr=true:=fun e=>by rw[<- m];simp[Lo,g,e]
  have C:∀y∈c.args,y∈o.op.operands:=fun y q=>by
   simp only[aC,Call.operands];grind
  have A:S7 (u.app st) c.args.toList=S7 st c.args.toList:=Bq fun y q=>b.eval (C y gz0);have H:c.args.map (rho (u.app st))=c.args.map (rho st):=Array.map_congr_left fun y q=>b.rho (C y q);simp only[g];split at hv
  ·rename_i f E;try simp only[E]
   unfold A66 at hv ⊢;have hf:f∈o.op.operands:=by rw[g];simp[aC,Call.operands,E]
   rw[b.eval hf]at hv;split at hv
   ·try simp only[hfe]
    split at hv
    ·rw[A,H]at hv;obtain⟨j,hv⟩:=hv.both;try simp only[hhas]
     rw[j];refine FCall.mono hv fun r h' y=>Uy y fun w ⟨j,L⟩=>⟨j,L.map fun R Q=>hk _ _ ?_ (fun e _=>Q (B e)) (V1 b.wf w)⟩;rwa [J4 (fun z G=>b.dst z G)]at R
    ·rw[A,H]at hv;obtain⟨j,hv⟩:=hv.both;try simp only[hhas]
     rw[j];refine ECall.mono hv fun r h' y=>Uy y fun w ⟨j,L⟩=>⟨j,L.map fun R Q=>hk _ _ ?_ (fun e _=>Q (B e)) (V1 b.wf w)⟩;rwa [J4 (fun z G=>b.dst z G)]at R
   ·try simp only[hfe]
    rw[A,H]at hv;obtain⟨j,hv⟩:=hv.both;rw[j];refine YCall.mono hv fun r h' y=>Uy y fun w ⟨j,L⟩=>⟨j,L.map fun R Q=>hk _ _ ?_ (fun e _=>Q (B e)) (V1 b.wf w)⟩;rwa [J4 (fun z G=>b.dst z G)]at R
   omega
  ·try simp only[E]
   rw[A,H]at hv;obtain⟨j,hv⟩:=hv.both;rw[j];exact Yd b B hk hv
  ·try simp only[E]
   rw[A,H]at hv;obtain⟨j,hv⟩:=hv.both;rw[j];exact Yd b B hk hv
  omega
 grind
def B1a{u:Upd}{o:aE}{st:VS}(b:Before cfg ops u o st){h:aF}{K:VS->aF->Prop}{K':VS->aF->Prop}(hk:∀st' h',K (u.app st') h'->Grw cfg o st h h'->Frm o st st'->K' st' h')(hv:Qx P cfg ops o (Lo cfg o) (u.app st) h K):Qx P cfg ops o (Lo cfg o) st h K':=by
 cases hs:Ce P cfg o with
 |true=>
  obtain⟨v,l,i,O,H,R,L⟩:=B6m (ops:=ops) hs hv
  have Q:AgreeOn cfg ops o (u.app st) st:=by
   refine⟨fun x r=>(Fy fun e=>b.look x e r).symm,fun t a k off s e=>?_,fun d _ F D=>(Cp fun N cs e=>?_).symm.trans D⟩
   ·rw[b.eval (by rw[s];simp[aC])]at e;exact(Cp (b.key e)).symm
   ·rintro rfl;exact b.dst d (by rw[e];rfl) F
  refine L st h _ (fun _=>B7 h) Q (hk _ _ ?_ (Grw.of (B7 h)) (Frm.upd l b.wf (fun d w k off e y=>?_) (fun d cs e=>?_)));·rw[<- B5v (fun x r=>by rw[l];exact b.dst x r)];exact i
  ·obtain⟨x,n,r,C⟩:=H d w k off e y;exact⟨x,n,by rw[<- b.eval r];exact C⟩
  ·have:=O d cs e
   rwa [Cp (fun N M y=>by
    rintro rfl;exact b.dst d (by rw[y];rfl) (by rw[<- l,e];rfl))]at this
 |false=>
  unfold Qx at hv ⊢;split at hv;·exact Vg b hs hk hv
  ·rename_i j q G;split at hv;·exact hv.elim
   ·rename_i g B;have p:=Ln (o:=o) G B;have C:(u.app st).env g=st.env g:=Fy fun e=>b.look g e p;rw[C]at hv;split at hv
    ·rename_i E m;have f:(u.app st).env g= .val (.bool E):=gz0
     have skip:T8 cfg o.dst=true/\K ((u.app st).putO o.dst (.val undef)) h->When (T8 cfg o.dst) (K' (st.putO o.dst (.val undef)) h):=by
      rintro⟨l,i⟩;rw[l];rw[J4 (fun z A=>b.dst z A)]at i;exact hk _ _ i (Grw.of (B7 h)) (V1 b.wf _)
     try simp only[m]
     cases E<;>cases q
     ·have c:Ae P cfg o (Lo cfg o) ((u.app st).put g (.val (.bool false))) h K:=hv;rw[aG _ f]at c;rw[aG st m];exact Vg b hs hk c
     ·have c:When (T8 cfg o.dst) (K (((u.app st).put g (.val (.bool false))).putO o.dst (.val undef)) h):=hv;rw[aG _ f]at c;rw[aG st m];exact skip c.both
     ·have c:When (T8 cfg o.dst) (K (((u.app st).put g (.val (.bool true))).putO o.dst (.val undef)) h):=hv;rw[aG _ f]at c;rw[aG st m];exact skip c.both
     ·have c:Ae P cfg o (Lo cfg o) ((u.app st).put g (.val (.bool true))) h K:=hv;rw[aG _ f]at c;rw[aG st m];exact Vg b hs hk c
    ·try simp only[m]
     obtain⟨l,i⟩:=hv.both;rw[l];rw[J4 (fun z A=>b.dst z A)]at i;exact hk _ _ i (Grw.of (B7 h)) (V1 b.wf _)
    omega
def Ua{o:aE}{st:VS}(wf:WFs st){h:aF}{K K':VS->aF->Prop}(hv:Qx P cfg ops o (Lo cfg o) st h K)(hk:∀st' h',K st' h'->Grw cfg o st h h'->Frm o st st'->K' st' h'):Qx P cfg ops o (Lo cfg o) st h K':=B1a (u:=.put none (.val undef)) ⟨(fun x e=>by cases e),(fun x e=>by cases e),(fun d cs e=>by cases e),wf⟩ hk hv
def B5k{oj oi x:aE}{st st':VS}{rem rem':List Nat}(hsub:∀i∈rem',i∈rem)(hfr:Frm oi st st')(hap:oj.apart ops oi=true)(hmem:∃i:Nat,i∈rem/\ops[i]? = some oi)(h:Ql cfg ops rem oj x st=true):Ql cfg ops rem' oj x st'=true:=by
 obtain⟨_,_,j⟩:=Oper.apart_spec hap;unfold Ql at h ⊢;simp only[aD]at h ⊢;obtain⟨n,h⟩:=h
 have d:Hm oj st'=Hm oj st:=by
  unfold Hm;split
  ·rename_i k a c
   have g:D7 st' a=D7 st a:=by
    cases a with
    |tmp z=>
     refine hfr.env z fun e=>j z e ?_;exact aJ _ (List.mem_filterMap.2 ⟨.tmp z,by rw[c];simp[aC],rfl⟩)
    |_=>rfl
   rw[g]
  ·rfl
 refine⟨gz0,?_⟩;split at h
 ·rename_i t y b p;split at h
  ·rename_i k a c;simp only[aD]at h ⊢;refine⟨List.all_eq_true.2 fun i f=>List.all_eq_true.1 h.1 i (hsub i f),?_⟩
   have g:D7 st' a=D7 st a:=by
    cases a with
    |tmp z=>
     refine hfr.env z fun e=>j z e ?_;exact aJ _ (List.mem_filterMap.2 ⟨.tmp z,by rw[c];simp[aC],rfl⟩)
    |_=>rfl
   have m:st'.env y=st.env y:=by
    refine hfr.env y fun e=>?_;obtain⟨i,f,l⟩:=hmem;have:=List.all_eq_true.1 h.1 i f;simp_all
   grind
  ·exact h
 ·exact h
 ·exact h
def swap{oj oi:aE}{st:VS}{rem:List Nat}(wf:WFs st)(hs:Ce P cfg oj=true)(hap:oj.apart ops oi=true)(hc:Ql cfg ops rem oj oi st=true){h:aF}{K:VS->aF->Prop}
 (hv:Qx P cfg ops oj (Lo cfg oj) st h fun st1 h1=>Qx P cfg ops oi (Lo cfg oi) st1 h1 K):Qx P cfg ops oi (Lo cfg oi) st h fun st1 h1=>Frm oi st st1/\Qx P cfg ops oj (Lo cfg oj) st1 h1 K:=by
 obtain⟨N,s,F⟩:=Oper.apart_spec hap;obtain⟨u,h1,A,L,O,S,E⟩:=B6m (ops:=ops) hs hv;have b:Before cfg ops u oi st:=⟨fun x e=>N x gz0,fun x e=>s x gz0,L,wf⟩;have m:=hc;unfold Ql at m
 have G:Hm oj st=true->A9v cfg oi=false:=fun e=>by
  grind
 refine B1a b (fun n C D H l=>⟨l,E n C K (fun c=>H (G c) fun q j r i=>?_) ?_ D⟩) A
 ·obtain⟨t,x,hld⟩:∃t x,oj.op= .load t x:=by
   unfold Hm at c;grind
  cases j with
  |tmp y=>
   show ∃k off,st.env y= .own k off
   have z:∀k off,D7 st x ≠ .own k off:=by
    intro k off e;unfold Hm at c;grind
   grind
  |_=>grind
 refine⟨fun x M=>l.env x fun e=>F x e M,fun t a k off B e=>l.own k (fun _=>A0b wf e) (fun q j r g i f=>?_),fun d Q w p=>(l.own d (fun e=>absurd e (s d w)) (fun q j r g i f=>?_)).trans p⟩
 ·cases j with
  |tmp y=>
   have R:st.env y= .own k g:=f;simp_all
  |_=>grind
 ·have:=A0b wf f;grind
def C30{anc:List (List Nat)}{al:Nat->List Nat}{i:Nat}{oi:aE}(hi:ops[i]? = some oi){L2:List Nat}{K:VS->aF->Prop}:∀(L1:List Nat) (n:Nat) (st:VS) (h:aF),n=L1.length+L2.length->WFs st->(∀j∈L1,has (anc.getD i []) j=false)->i∉L1->
 Hg P cfg ops anc al (n+1) (L1++i::L2) st h K->Qx P cfg ops oi (Lo cfg oi) st h fun st' h'=>WFs st'/\Hg P cfg ops anc al n (L1++L2) st' h' K:=by
 intro L1
 induction L1 with
 |nil=>
  intro n st h _ wf _ _ m;simp only[List.nil_append,Hg,hi]at m;exact Ua wf (A7u m.both.2) fun st' h' l _ p=>⟨p.wf,l⟩
 |cons j L1 ih=>
  intro n st h R wf g B m;obtain⟨n,rfl⟩:∃n',n=n'+1:=⟨L1.length+L2.length,gz0⟩;have A:n=L1.length+L2.length:=gz0;have q:i∉L1:=fun C=>B (by simp[C]);simp only[aL,Hg]at m;split at m;·exact m.elim
  ·rename_i u E;obtain⟨e,m⟩:=m.both;have e:=List.all_eq_true.1 e;have d:=e i (by simp);unfold Zm at d;rw[aM]at d;rcases d with d|d
   ·unfold B15 at d;rw[g j (by simp),hi]at d;simp only[Bool.false_or,aD]at d;obtain⟨⟨r,w⟩,N⟩:=d
    have L:Ce P cfg u=true:=by
     unfold B44 at r;grind
    have t:Qx P cfg ops u (Lo cfg u) st h fun f t=>Qx P cfg ops oi (Lo cfg oi) f t fun s D=>WFs s/\Hg P cfg ops anc al n (L1++L2) s D K:=
     Ua wf (A7u m) fun f t l _ p=>ih n f t A p.wf (fun k F=>g k (by simp[F])) q l;refine Ua wf (swap wf L w N t) fun f t ⟨p,l⟩ _ _=>⟨p.wf,?_⟩;simp only[aL,Hg,E]
    have z:(L1++L2).all (Zm P cfg ops anc al (L1++L2) f u j)=true:=by
     refine List.all_eq_true.2 fun x Q=>?_
     have c:=e x (by
      grind);unfold Zm at c ⊢;rw[r]at c ⊢;simp only[Bool.not_true,Bool.false_and,Bool.or_false]at c ⊢;unfold B15 at c ⊢;simp only[aM]at c ⊢;rcases c with c|c;·grind
     ·refine .inr ?_;split at c
      ·simp only[aD]at c ⊢
       exact⟨c.1,B5k (rem:=L1++i::L2) (fun y O=>by
        grind) p w ⟨i,by simp,hi⟩ c.2⟩
      omega
    rw[z];have M:A3l P cfg anc al u j (L1++L2)=[]:=by unfold A3l;rw[r]
    rw[M];exact Ua p.wf l fun s D ⟨_,l⟩ _ _=>l
   ·simp only[aD,Bool.not_eq_true']at d;obtain⟨H,G⟩:=A68 (L2:=L2) q
    have C:i∈A3l P cfg anc al u j (L1++i::L2):=by
     unfold A3l;rw[d.1];refine List.mem_filter.2 ⟨Be.1 d.2,?_⟩;rw[H,Be.2 (show i∈L1++i::L2 by simp),g j (by simp)];grind
    have:=B9o m C;simp only[hi]at this;rw[G]at this;exact Ua wf this fun st' h' l _ p=>⟨p.wf,by simp only[aL,Hg,E]at l ⊢;exact l⟩
def A8m:∀{L done:List Nat},B18 ops done L=true->L.Nodup/\(∀i∈L,i∉done)/\∀L1 i L2,L=L1++i::L2->∃o,ops[i]? = some o/\∀e∈o.after,Region.binds .any e=true->e.on∈done\/e.on∈L1:=by
 intro L
 induction L with
 |nil=>simp_all
 |cons x L ih=>
  intro done h;simp only[B18,aD,Bool.not_eq_true']at h;obtain⟨⟨d,f⟩,k⟩:=h;obtain⟨m,g,n⟩:=ih k;have r:x∉done:=fun c=>by rw[Be.2 c]at f;cases f
  refine⟨List.nodup_cons.2 ⟨fun c=>g x c (by simp),m⟩,fun i q=>?_,fun L1 i L2 e=>?_⟩;·grind
  ·cases L1 with
   |nil=>
    obtain⟨rfl,rfl⟩:=e;split at d
    ·rename_i o j;refine⟨o,j,fun e p l=>.inl ?_⟩;have:=List.all_eq_true.1 d e gz0;rw[l]at this;exact Be.1 (by assumption)
    ·cases d
   |cons y L1=>
    grind
def A07{listed:Array Bool}{i:Nat}(d:Bool)(h:i<listed.size):(listed.setIfInBounds i true).getD i d=true:=by simp[h]
def B2y{al:Nat->List Nat}{F:Fence}{fu:Nat}[FOk F]{n:Nat}{h0:aF}{W0:World}(hn:cfg.n=n)(hfn:Bodies P cfg.fns){anc:List (List Nat)}(hanc:C34 ops anc=true){Q:Exit->Act->World->Prop}{K:VS->aF->Prop}{ord:List Nat}(hord:B18 ops [] ord=true)(_hall:∀i,i<ops.size->i∈ord):
 ∀(m:Nat) (L:List Nat) (listed:Array Bool) (st:VS) (h:aF) (a:Act) (W:World),L.length=m->L.Sublist ord->listed.size=ops.size->(∀i,i<ops.size->(listed.getD i true=false↔i∈L))->(∀i j,listed.getD i false=true->has (anc.getD i []) j=true->listed.getD j false=true)->
  Good n h0 W0 st h a W->Hg P cfg ops anc al m L st h K->(∀st' h' a' W',K st' h'->Good n h0 W0 st' h' a' W'->Agree cfg.lim st st'->Q .normal a' W')->wpAnyIn F fu P .any ops Q m listed a W:=by
 obtain⟨ak,_,q⟩:=A8m hord;intro m
 induction m with
 |zero=>
  intro L listed st h a W hl f af c N g S R;have:L=[]:=List.eq_nil_of_length_eq_zero hl;subst this;refine⟨?_,R st h a W S g (Agree.refl _ _)⟩;apply List.eq_nil_iff_forall_not_mem.2;intro i E;obtain⟨h1,o,ho,_⟩:=mem_ready.1 E;grind
 |succ m ih=>
  intro L listed st h a W hl f af c N g S R;have wf:WFs st:=by obtain⟨θ,r,_,_⟩:=g;exact r.wf
  have inl:∀i,i∈L->i<ops.size:=by
   intro i E;obtain⟨L1,L2,e⟩:=aK (f.subset E);obtain⟨o,ho,_⟩:=q L1 i L2 e;grind
  constructor
  ·
   intro w;exfalso
   cases L with
   |nil=>grind
   |cons i L=>
    have E:=inl i (by simp);obtain⟨L1,L2,e⟩:=aK (f.subset (show i∈i::L by simp));obtain⟨o,ho,hp⟩:=q L1 i L2 e
    have:i∈Region.ready .any ops listed:=by
     refine mem_ready.2 ⟨(c i E).2 (by simp),o,ho,fun B T u=>?_⟩;rcases hp B T u with h'|h';·cases h'
     ·have an:B.on<ops.size:=by
       obtain⟨M1,M2,e'⟩:=aK h';obtain⟨o',am,_⟩:=q M1 B.on (M2++i::L2) gz0;grind
      have ah:B.on∉i::L:=by
       intro hm;have D:(i::L).Sublist (L1++i::L2):=gz0;have z:(L1++i::L2).Nodup:=gz0;have t:i∉L1:=fun H=>(List.nodup_append.1 z).2.2 i H i (by simp) rfl
       have ai:(i::L).Sublist (i::L2):=by
        clear w c N R S g ih hp T u;revert D t;clear z e h'
        induction L1 with
        |nil=>grind
        |cons y L1 ihL=>
         intro D t;refine ihL ?_ (fun H=>t (by simp[H]))
         cases D with
         |cons _ h=>exact h
         |cons_cons _ h=>grind
       grind
      grind
    grind
  ·intro i E;obtain⟨h1,oi,s,M⟩:=mem_ready.1 E;have p:=(Array.getElem?_eq_some_iff.1 s).1;have ae:=(c i p).1 h1;obtain⟨L1,L2,e⟩:=aK ae
   have V:∀j∈L1,has (anc.getD i []) j=false:=by
    intro j hj
    cases H:has (anc.getD i []) j with
    |false=>rfl
    |true=>
     exfalso;have G:=List.all_eq_true.1 (List.all_eq_true.1 hanc i (List.mem_range.2 p)) j (Be.1 H);simp only[s]at G;obtain⟨B,T,u⟩:=List.any_eq_true.1 G;simp only[aD,aM]at u;have C:=M B gz0 u.1
     have aj:listed.getD j false=true:=by
      rcases u.2 with h'|h';·rw[<- aI h'];exact C
      grind
     grind
   have O:i∉L1:=by
    grind
   have ad:=C30 s (L2:=L2) L1 m st h gz0 wf V O (by rw[<- e];exact S);refine wpOpIn_mono (fun a' W' ⟨st',h',⟨_,hK⟩,g',ag⟩=>?_) (g.op hn hfn s ad)
   have A:∀j d,(listed.setIfInBounds i true).getD j d=if j=i then true else listed.getD j d:=by
    intro j d;by_cases l:j=i;·subst l;rw[iP rfl];exact A07 d oo
    ·rw[iN l];exact getD_set_ne d (Ne.symm l)
   refine ih (L1++L2) _ st' h' a' W' gz0 ?_ gz0 (fun j hj=>?_) (fun j k hj hk=>?_) g' hK fun ac h2 a2 W2 k g2 aa=>R ac h2 a2 W2 k g2 (ag.trans aa)
   ·refine List.Sublist.trans ?_ f;grind
   ·rw[A];by_cases l:j=i;·grind
    ·grind
   ·rw[A]at hj ⊢;by_cases X:k=i;·grind
    ·rw[iN X];by_cases l:j=i
     ·subst l;have G:=List.all_eq_true.1 (List.all_eq_true.1 hanc j (List.mem_range.2 p)) k (Be.1 hk);simp only[s]at G;obtain⟨B,T,u⟩:=List.any_eq_true.1 G;simp only[aD,aM]at u;have C:=M B gz0 u.1;rcases u.2 with h'|h';·rw[<- aI h'];exact C
      grind
     grind
def A98{al:Nat->List Nat}{F:Fence}{fu:Nat}[FOk F]{n:Nat}{h0:aF}{W0:World}(hn:cfg.n=n)(hfn:Bodies P cfg.fns){id:Nat}{ord:List Nat}{anc:List (List Nat)}(hok:B2g P ops ord anc=true){Q:Exit->Act->World->Prop}{K:VS->aF->Prop}{st:VS}{h:aF}{a:Act}{W:World} (g:Good n h0 W0 st h a W) (hv:Hg P cfg ops anc al ord.length ord st h K) (hQ:∀st' h' a' W',K st' h'->Good n h0 W0 st' h' a' W'->Agree cfg.lim st st'->Q .normal a' W'):(Code.region id ops true).wpIn F fu P Q a W:=by simp only[B2g,aD]at hok;obtain⟨⟨⟨⟨p,l⟩,s⟩,m⟩,k⟩:=hok;refine wpIn_region_any p ?_;have t:Good n h0 W0 st h a {W with drawn:=W.drawn+1 }:=by{obtain⟨θ,r,f,q⟩:=g;exact⟨θ,⟨r.defers,r.size,r.slot,r.sim,r.own,r.inj,r.wf,r.out⟩,⟨f.sim,f.os,f.tape,f.output,f.size,f.keep,f.new⟩,q⟩};have c:∀i,i<ops.size->i∈ord:=fun i d=>Be.1 (List.all_eq_true.1 m i (List.mem_range.2 d));rw[aI k]at hv;refine B2y hn hfn l s c ops.size ord _ st h a _ (aI k) (List.Sublist.refl _) (by simp) (fun i d=>?_) (fun i j d _=>?_) t hv hQ;{simp_all};·by_cases e:i<ops.size<;>simp[Array.getD,e]at d
end
