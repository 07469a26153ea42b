/- A part. -/
import Derived.Test.YtbgkfnjmcjfokaaGreatDoorG19
import Derived.Test.YtbgkfnjmcjfokaaGreatDoorG22
open Go.Proofs.Tryz
set_option linter.all false
open _root_.Go.Addr renaming add->aE
open Int renaming toNat_natCast->aC
open List renaming getElem?_cons_zero->aH
open _root_.Go renaming Value->aF
open _root_.Go.Proofs.YtbgkfnjmcjfokaaGreatDoor renaming Heap->aI
namespace Go.Proofs.YtbgkfnjmcjfokaaGreatDoor
set_option maxRecDepth 20000
open Go
abbrev K9:=List UInt8 × List Int
abbrev tm(ts:List K9)(j:Nat):K9:=ts.getD j ([],[])
structure TermOk (vars:Int) (t:K9):Prop where
 num:∃ q,t.1=C0 q/\q≠0
 len:(t.2.length:Int)=vars
 exps:∀ x∈t.2,0<=x/\x<=1048576
def B9b(vars:Int)(ts:List K9)(j:Nat):Prop:=TermOk vars (tm ts j)/\(0<j->0<B3g (tm ts (j-1)).2 (tm ts j).2)
structure WfOk (vars:Int) (ts:List K9):Prop where
 lo:0<=vars
 hi:vars<=6
 all:∀ j,j<ts.length->B9b vars ts j
def Bc(vars:Int)(ts:List K9):Prop:=WfOk vars ts/\(0<ts.length->Rm (tm ts 0).2=true)
def TermOk.exb{vars:Int}{t:K9}(o:TermOk vars t)(hv:vars<=6):ExB t.2:=⟨by have:=o.len;omega,o.exps⟩
def PolyAt(h:aI)(A:Option Addr)(ts:List K9):Prop:=∀ i,i<ts.length->∃ a B c,A=some a/\h.cell? (aE (aE a (i*2)) 0)=some (.string (bs (tm ts i).1))/\h.cell? (aE (aE a (i*2)) 1)=some (.slice B (tm ts i).2.length c)/\SlI .i64 h B (tm ts i).2
def PolyAt.mono{h h':aI}{A:Option Addr}{ts:List K9}(p:PolyAt h A ts)(hl:h.le h'):PolyAt h' A ts:=fun i j=>by
 obtain ⟨a,B,c,e,b,g,d⟩:=p i j
 exact ⟨a,B,c,e,B7 hl b,B7 hl g,d.mono hl⟩
def Vy{xs:List Int}(h:∀ j,j<xs.length->0<=xs.getD j 0/\xs.getD j 0<=1048576):∀ x∈xs,0<=x/\x<=1048576:=fun x b=>by
 obtain ⟨j,a,rfl⟩:=List.getElem_of_mem b
 have:=h j a
 simpa [List.getD,a] using this
def Is{xs:List Int}{j:Nat}(hj:j<xs.length):xs.getD j 0∈xs:=by simp [List.getD,hj]
abbrev Wk(n:Nat):={l:List aF // l.length=n/\∀ v∈l,Jz v=true}
instance cellsEnc (n:Nat):Enc (Wk n):=⟨⟨fun x=>x.1,n,fun x=>x.2.1,fun x=>x.2.2⟩⟩
def Tq{P:Program}{t:TypeId}{z:aF}{size bytes:Nat}(hi:(P.info? t).map (fun i=>(i.zero,i.size,i.bytes))=some (some z,size,bytes)){K:VP}{h:aI}(x:∀ b,h b=none->K (.pointer (some ⟨b,0,none⟩)) (h.put b (.cells z.cells t))):wpH P (Instr.alloc t true (.tuple #[])) K h:=by
 obtain ⟨i,hi,a⟩:=Option.map_eq_some_iff.1 hi
 have c:i.zero=some z:=by simpa using congrArg (fun x=>x.1) a
 unfold Instr.alloc
 simp only [C1,P7 hi c,newVar,Y8,I4]
 exact x
def Dq{P:Program}{t:TypeId}{n:Nat}(one:P.cellsOf t=n/\(P.info? t).isSome=true){v:aF}{vs:List aF}(hv:v.cells=vs.toArray)(hn:vs.length=n)(h1:∀ v∈vs,Jz v=true){g:aI}{b off:Nat}{e:TypeId}{arr:List aF}(ho:off+n<=arr.length){K:Unit->aI->Prop}
 (x:K () (g.put b (.cells (F2 arr off vs).toArray e))):wpH P (Instr.storeAt t (.pointer (some (aE ⟨b,0,none⟩ off))) v) K (g.put b (.cells arr.toArray e)):=by
 obtain ⟨d,a⟩:=Option.isSome_iff_exists.1 one.2
 have c:d.size=n:=by simpa [Program.cellsOf,a] using one.1
 unfold Instr.storeAt
 simp only [C1,Instr.sureAddr,I4,storeVar,L4 a,c,hv,List.size_toArray,hn,ne_eq,not_true_eq_false,if_false]
 rw [D4,Nat.zero_add]
 exact I3 vs off 0 _ o h1 (by rw [Nat.add_zero];exact x)
def O1{h g:aI}{b:Nat}{arr:List aF}{e:TypeId}(eq:h=g.put b (.cells arr.toArray e)){i:Nat}{v:aF}(hv:arr[i]? = some v):h.cell? (aE ⟨b,0,none⟩ i)=some v:=by
 subst eq;rw [D4,C4];simpa using hv
def C1w:∀ l:List Int,l.length=6->∃ a b c d e f,l=[a,b,c,d,e,f]
 | [a,b,c,d,e,f],_=>⟨a,b,c,d,e,f,rfl⟩
abbrev C52:aF:=.agg #[I (0:Int),I (0:Int),I (0:Int),I (0:Int),I (0:Int),I (0:Int),.bool false,.slice none 0 0,.bool false,.slice none 0 0]
def B8f(a b c d e f:Int)(w:QV):List aF:=[I a,I b,I c,I d,I e,I f,.bool w.s,.slice w.A w.n w.c,.bool w.s2,.slice w.A2 w.n2 w.c2]
section
variable {h:aI} {K:VP} {vars:Int}
def Xj{l:List UInt8}{xs:List Int}{A:Option Addr}{c:Nat}(gl:Gtz h)(hl:l.length<=140737488351232)(se:SlI .i64 h A xs)(hv:vars<=6)(hK1:TermOk vars (l,xs)->∀ a b c d e f (w:QV),K (.tuple #[.agg (B8f a b c d e f w).toArray,.bool true]) h)(hK0:¬ TermOk vars (l,xs)->K (.tuple #[C52,.bool false]) h):FCall prog 282 #[I vars,.agg #[.string (bs l),.slice A xs.length c]] h K:=by
 refine FCall.pure ((fnk func282 [(5,[34],[(4,10)],[I 0,I 0,I 0,I 0,I 0,I 0,I 0,.bool false,.slice none 0 0,.bool false,.slice none 0 0])] (own:=[3,4,6])) ?_)
 have y:∀ L,h.le L->¬ TermOk vars (l,xs)->h.le L/\K (.tuple #[C52,.bool false]) h:=fun L l0 n=>⟨l0,hK0 n⟩
 refine Q9 gl hl (fun q e w F p i=>⟨_,_,_,_,_,_,_,_,_,rfl,?_⟩) (fun n w F p _=>⟨_,_,_,_,_,_,_,_,_,rfl,y F p fun o=>?_⟩)
 ·refine V9 i ⟨_,rfl,B4 (fun H=>y _ p fun o=>?_) (fun H=>?_)⟩
  ·obtain ⟨Q,G,n'⟩:=o.num
   exact n' (by rw [<- E8 (e.symm.trans G)];exact H)
  refine D6 (fun z=>y _ p fun o=>z o.len) (fun C=>?_)
  refine ⟨fun l h'=>∃ (k:Nat) (R:List aF),l=I k::R/\k<=xs.length/\(∀ j,j<k->0<=xs.getD j 0/\xs.getD j 0<=1048576)/\h'=F,fun l _=>xs.length-(iAt l 0).toNat,⟨0,_,rfl,oo,fun j hj=>oo,rfl⟩,?_⟩
  rintro E ad ah aj af ak ae ai M ab N ag S aa ac u ⟨k,R,D,hk,r,rfl⟩
  obtain rfl:E=(k:Int):=by simpa using (List.cons.inj D).1
  refine B4 (fun h2=>?_) (fun h2=>?_)
  ·have m:k<xs.length:=oo
   refine (se.mono p).load rfl oo oo ?_
   rw [aC]
   refine B4 (fun h3=>y _ p fun o=>?_) (fun h3=>B4 (fun h4=>y _ p fun o=>?_) (fun h4=>?_))
   ·have:=(o.exps _ (Is m)).1;exact absurd this (by show ¬ 0<=xs.getD k 0;omega)
   ·have:=(o.exps _ (Is m)).2;exact absurd this (by show ¬ xs.getD k 0<=1048576;omega)
   ·rw [B5 oo oo]
    refine ⟨⟨k+1,_,rfl,oo,fun j hj=>?_,rfl⟩,by simp only [iAt,aH];omega⟩
    by_cases B:j=k
    ·subst B;omega
    ·exact r j oo
  ·have m:k=xs.length:=oo
   subst m
   have ok:TermOk vars (l,xs):=⟨⟨q,e,H⟩,C,Vy r⟩
   refine Tq X7.info fun b hb=>⟨_,rfl,?_⟩
   refine Dq (n:=4) A0h (vs:=[.bool w.s,.slice w.A w.n w.c,.bool w.s2,.slice w.A2 w.n2 w.c2]) rfl rfl (by simp [Jz]) (off:=6) (arr:=[I (0:Int),I (0:Int),I (0:Int),I (0:Int),I (0:Int),I (0:Int),.bool false,.slice none 0 0,.bool false,.slice none 0 0]) dc ?_
   have win:Win .i64 (u.put b (.cells (F2 [I (0:Int),I (0:Int),I (0:Int),I (0:Int),I (0:Int),I (0:Int),.bool false,.slice none 0 0,.bool false,.slice none 0 0] 6 [.bool w.s,.slice w.A w.n w.c,.bool w.s2,.slice w.A2 w.n2 w.c2]).toArray 126)) u b 126 (U3 (some (aE ⟨b,0,none⟩ 0)) 6 0 1) [] [0,0,0,0,0,0] [.bool w.s,.slice w.A w.n w.c,.bool w.s2,.slice w.A2 w.n2 w.c2]:=⟨hb,rfl,.inr rfl⟩
   have l2:u.le _:=win.le
   have x:xs.length<=6:=oo
   refine Cc Qh win rfl ((se.mono p).mono l2) rfl (by simpa using x) fun h5 w5=>⟨_,rfl,?_⟩
   obtain ⟨W,X,a2,O,V,T,e6⟩:=C1w (xs++[0,0,0,0,0,0].drop xs.length) (by simp;omega)
   have g:=w5.eq
   rw [e6] at g
   refine ⟨W,X,a2,O,V,T,_,_,_,_,_,_,_,_,O1 g rfl,O1 g rfl,O1 g rfl,O1 g rfl,O1 g rfl,O1 g rfl,O1 g rfl,O1 g rfl,O1 g rfl,O1 g rfl,A0 p w5.le,?_⟩
   exact hK1 ok W X a2 O V T w
 ·obtain ⟨Q,G,_⟩:=o.num
  exact n ⟨Q,G⟩
end
def PrivF.make{n:Nat}{e:TypeId}{g:aI}{b c:Nat}{z:Wk n}(hb:g b=none):PrivF (W9 e g b (List.replicate c z)) g e (some ⟨b,0,none⟩) c ([]:List (Wk n)):=
 ⟨by simp,by simp,.inr ⟨b,(List.replicate c z).flatMap enc,rfl,hb,rfl,by rw [I7,List.length_replicate],by simp⟩⟩
def B43(a b c d e f:Int)(w:QV):(B8f a b c d e f w).length=10/\∀ v∈B8f a b c d e f w,Jz v=true:=⟨rfl,by simp [B8f,Jz]⟩
def B44:([I (0:Int),I (0:Int),I (0:Int),I (0:Int),I (0:Int),I (0:Int),.bool false,.slice none 0 0,.bool false,.slice none 0 0]:List aF).length=10/\∀ v∈([I (0:Int),I (0:Int),I (0:Int),I (0:Int),I (0:Int),I (0:Int),.bool false,.slice none 0 0,.bool false,.slice none 0 0]:List aF),Jz v=true:=⟨rfl,by simp [Jz]⟩
section
variable {h:aI} {K:VP} {vars:Int} {ts:List K9} {A:Option Addr} {c:Nat}
def A35(gl:Gtz h)(pa:PolyAt h A ts)(hl:ts.length<=1000)(hc:∀ i,i<ts.length->(tm ts i).1.length<=140737488351232)(hK1:WfOk vars ts->∀ A' n' c',K (.tuple #[.slice A' n' c',.bool true]) h)(hK0:¬ WfOk vars ts->K (.tuple #[.slice none 0 0,.bool false]) h):FCall prog 216 #[.agg #[I vars,.slice A ts.length c]] h K:=by
 refine FCall.pure ((fnk func216 [(5,[4,24],[],[.slice none 0 0,I 0])] (own:=[1,6,7])) ?_)
 have H:∀ u,h.le u->¬ WfOk vars ts->h.le u/\K (.tuple #[.slice none 0 0,.bool false]) h:=fun u l0 n=>⟨l0,hK0 n⟩
 refine B4 (fun h1=>H _ (B0 _) fun o=>by have:=o.lo;omega) (fun h1=>?_)
 refine B4 (fun h2=>H _ (B0 _) fun o=>by have:=o.hi;omega) (fun h2=>?_)
 refine D8 (α:=Wk 10) X7 (zx:=⟨_,B44⟩) rfl oo oo oo oo fun b hb=>⟨_,_,_,rfl,?_⟩
 rw [aC]
 refine ⟨fun l h'=>∃ (k:Nat) (A':Option Addr) (c':Nat) (p:List (Wk 10)) (g:aI),l=[.slice A' p.length c',I k]/\k<=ts.length/\p.length=k/\(∀ j,j<k->B9b vars ts j)/\h.le g/\PrivF h' g 126 A' c' p,fun l _=>ts.length-(iAt l 1).toNat,⟨0,_,_,[],h,rfl,oo,rfl,fun j hj=>oo,B0 _,PrivF.make hb⟩,?_⟩
 rintro e r d T z ⟨k,A',c',p,g,R,hk,W,q,hg,pr⟩
 obtain ⟨⟨rfl,rfl,rfl⟩,rfl⟩:(e=A'/\r=p.length/\d=c')/\T=(k:Int):=by simpa using R
 have x:h.le z:=A0 hg pr.le
 refine B4 (fun h3=>?_) (fun h3=>?_)
 ·have m:k<ts.length:=oo
  obtain ⟨a,B,cc,e1,e2,e3,e4⟩:=(pa.mono x) k m
  refine ⟨a,e1,oo,h3,_,_,_,_,by rw [aC];exact e2,by rw [aC];exact e3,?_⟩
  refine Xj (gl.mono x) (hc k m) e4 oo (fun G L M N D F E w=>⟨L,M,N,D,F,E,w.s,w.A,w.n,w.c,w.s2,w.A2,w.n2,w.c2,true,rfl,?_⟩) (fun aa=>⟨_,_,_,_,_,_,_,_,_,_,_,_,_,_,false,rfl,H _ x fun o=>aa (o.all k m).1⟩)
  have next:∀ {u:aI},u=z->B9b vars ts k->wpH prog (Instr.buildSlice 121 1 #[(0,.agg #[I L,I M,I N,I D,I F,I E,.bool w.s,.slice w.A w.n w.c,.bool w.s2,.slice w.A2 w.n2 w.c2])]) (fun v1 V=>∃ (t57A:Option Addr) (t57n:Nat) (t57c:Nat),v1= .slice t57A t57n t57c/\wpH prog (Builtin.append_ #[121,121] 121 #[.slice e p.length d,.slice t57A t57n t57c]) (fun v2 Q=>∃ (t58A:Option Addr) (t58n:Nat) (t58c:Nat),v2= .slice t58A t58n t58c/\(∃ (k2:Nat) (A':Option Addr) (c':Nat) (p:List (Wk 10)) (g:aI),[Value.slice t58A t58n t58c,I (B9 ((k:Int)+1))]=[.slice A' p.length c',I k2]/\k2<=ts.length/\p.length=k2/\(∀ j,j<k2->B9b vars ts j)/\h.le g/\PrivF Q g 126 A' c' p)/\ts.length-(iAt [Value.slice t58A t58n t58c,I (B9 ((k:Int)+1))] 1).toNat<ts.length-(iAt [Value.slice e p.length d,I (k:Int)] 1).toNat) V) u:=by
   rintro _ rfl S
   refine Xl X7 pr (y:=⟨B8f L M N D F E w,B43 L M N D F E w⟩) rfl dc oo oo ?_
   intro A2 c2 h2 g2 lg p2
   rw [B5 oo oo]
   refine ⟨⟨k+1,A2,c2,_,g2,?_,oo,?_,fun j hj=>?_,A0 hg lg,p2⟩,by simp only [iAt,List.getElem?_cons_succ,aH];omega⟩
   ·rw [List.length_append];rfl
   ·rw [List.length_append,W];rfl
   ·by_cases O:j=k
    ·subst O;exact S
    ·exact q j oo
  refine B4 (fun h4=>?_) (fun h4=>next rfl ⟨G,fun h0=>oo⟩)
  have ek:(B9 ((k:Int)-1)).toNat=k-1:=by rw [B5 oo oo];omega
  obtain ⟨a',B',ae,ac,ad,ab,X⟩:=(pa.mono x) (k-1) oo
  have C:=(q (k-1) oo).1
  refine ⟨a',ac,by rw [B5 oo oo];omega,by rw [B5 oo oo];omega,_,_,_,by rw [ek];exact ab,?_⟩
  refine Kc (by have e5:=C.len;have e6:((tm ts k).2.length:Int)=vars:=G.len;omega) (C.exb oo) (G.exb oo) X e4 ⟨_,rfl,B0 _,?_⟩
  refine B4 (fun h5=>H _ x fun o=>?_) (fun h5=>next rfl ⟨G,fun _=>oo⟩)
  have:=(o.all k m).2 oo
  omega
 ·have m:k=ts.length:=oo
  subst m
  exact ⟨x,hK1 ⟨oo,oo,q⟩ _ _ _⟩
def Hb(gl:Gtz h)(pa:PolyAt h A ts)(hl:ts.length<=1000)(hc:∀ i,i<ts.length->(tm ts i).1.length<=140737488351232)(hK1:Bc vars ts->K (.bool true) h)(hK0:¬ Bc vars ts->K (.bool false) h):FCall prog 71 #[.agg #[I vars,.slice A ts.length c]] h K:=by
 refine (fnk func71 (own:=[1])) ?_
 refine (fnk func146 (own:=[1])) ?_
 refine B4 (fun q=>oo) (fun _=>?_)
 refine A35 gl pa hl hc (fun e A' m p=>⟨_,_,_,_,rfl,?_⟩) (fun d=>⟨_,_,_,_,rfl,_,_,_,_,rfl,hK0 fun o=>d o.1⟩)
 refine B4 (fun k=>?_) (fun k=>⟨_,_,_,_,rfl,hK1 ⟨e,fun r=>oo⟩⟩)
 obtain ⟨a,B,n,g,s,j,l⟩:=pa 0 oo
 refine ⟨a,g,oo,oo,_,_,_,j,?_⟩
 refine Cn l ⟨_,rfl,Br.not (Br.of (fun b=>⟨_,_,_,_,rfl,hK1 ⟨e,fun _=>b⟩⟩) (fun b=>⟨_,_,_,_,rfl,hK0 fun o=>?_⟩))⟩
 have:=o.2 oo
 rw [this] at b;cases b
end
