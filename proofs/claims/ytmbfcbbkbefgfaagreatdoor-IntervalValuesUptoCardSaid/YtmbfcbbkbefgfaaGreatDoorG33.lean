/- A part. -/
import Derived.Test.YtmbfcbbkbefgfaaGreatDoorG31
import Derived.Test.YtmbfcbbkbefgfaaGreatDoorG32
import Derived.Test.YtmbfcbbkbefgfaaGreatDoorG23
open Go.Proofs.Tryz
set_option linter.all false
open _root_.Go.Addr renaming add->aD
open Int renaming toNat_natCast->aC
open List renaming getElem?_cons_zero->aF
open _root_.Go renaming Value->aE
open _root_.Go.Proofs.YtmbfcbbkbefgfaaGreatDoor renaming Heap->aG
namespace Go.Proofs.YtmbfcbbkbefgfaaGreatDoor
set_option maxRecDepth 20000
open Go
abbrev J8:=List UInt8 × List Int
abbrev tm(ts:List J8)(j:Nat):J8:=ts.getD j ([],[])
structure TermOk (vars:Int) (t:J8):Prop where
 num:∃ q,t.1=C9 q/\q≠0
 len:(t.2.length:Int)=vars
 exps:∀ x∈t.2,0<=x/\x<=1048576
def B6h(vars:Int)(ts:List J8)(j:Nat):Prop:=TermOk vars (tm ts j)/\(0<j->0<B7m (tm ts (j-1)).2 (tm ts j).2)
structure WfOk (vars:Int) (ts:List J8):Prop where
 lo:0<=vars
 hi:vars<=6
 all:∀ j,j<ts.length->B6h vars ts j
def Gj(vars:Int)(ts:List J8):Prop:=WfOk vars ts/\(0<ts.length->A6c (tm ts 0).2=true)
def TermOk.exb{vars:Int}{t:J8}(o:TermOk vars t)(hv:vars<=6):ExB t.2:=⟨by have:=o.len;omega,o.exps⟩
def PolyAt(h:aG)(A:Option Addr)(ts:List J8):Prop:=∀ i,i<ts.length->∃ a B c,A=some a/\h.cell? (aD (aD a (i*2)) 0)=some (.string (bs (tm ts i).1))/\h.cell? (aD (aD a (i*2)) 1)=some (.slice B (tm ts i).2.length c)/\SlI .i64 h B (tm ts i).2
def PolyAt.mono{h h':aG}{A:Option Addr}{ts:List J8}(p:PolyAt h A ts)(hl:h.le h'):PolyAt h' A ts:=fun i d=>by
 obtain ⟨a,B,c,j,b,g,e⟩:=p i d
 exact ⟨a,B,c,j,C4 hl b,C4 hl g,e.mono hl⟩
def Uj{xs:List Int}(h:∀ j,j<xs.length->0<=xs.getD j 0/\xs.getD j 0<=1048576):∀ x∈xs,0<=x/\x<=1048576:=fun x b=>by
 obtain ⟨j,a,rfl⟩:=List.getElem_of_mem b
 have:=h j a
 simpa [List.getD,a] using this
def Hb{xs:List Int}{j:Nat}(hj:j<xs.length):xs.getD j 0∈xs:=by simp [List.getD,hj]
abbrev Vk(n:Nat):={l:List aE // l.length=n/\∀ v∈l,St v=true}
instance cellsEnc (n:Nat):Enc (Vk n):=⟨⟨fun x=>x.1,n,fun x=>x.2.1,fun x=>x.2.2⟩⟩
def Rq{P:Program}{t:TypeId}{z:aE}{size bytes:Nat}(hi:(P.info? t).map (fun i=>(i.zero,i.size,i.bytes))=some (some z,size,bytes)){K:VP}{h:aG}(x:∀ b,h b=none->K (.pointer (some ⟨b,0,none⟩)) (h.put b (.cells z.cells t))):wpH P (Instr.alloc t true (.tuple #[])) K h:=by
 obtain ⟨i,hi,a⟩:=Option.map_eq_some_iff.1 hi
 have c:i.zero=some z:=by simpa using congrArg (fun x=>x.1) a
 unfold Instr.alloc
 simp only [B9,K3 hi c,newVar,O2,E9]
 exact x
def Lm{P:Program}{t:TypeId}{n:Nat}(one:P.cellsOf t=n/\(P.info? t).isSome=true){v:aE}{vs:List aE}(hv:v.cells=vs.toArray)(hn:vs.length=n)(h1:∀ v∈vs,St v=true){g:aG}{b off:Nat}{e:TypeId}{arr:List aE}(ho:off+n<=arr.length){K:Unit->aG->Prop}
 (x:K () (g.put b (.cells (H8 arr off vs).toArray e))):wpH P (Instr.storeAt t (.pointer (some (aD ⟨b,0,none⟩ off))) v) K (g.put b (.cells arr.toArray e)):=by
 obtain ⟨c,a⟩:=Option.isSome_iff_exists.1 one.2
 have d:c.size=n:=by simpa [Program.cellsOf,a] using one.1
 unfold Instr.storeAt
 simp only [B9,Instr.sureAddr,E9,storeVar,J2 a,d,hv,List.size_toArray,hn,ne_eq,not_true_eq_false,if_false]
 rw [H7,Nat.zero_add]
 exact H1 vs off 0 _ (by omega) h1 (by rw [Nat.add_zero];exact x)
def H9{h g:aG}{b:Nat}{arr:List aE}{e:TypeId}(eq:h=g.put b (.cells arr.toArray e)){i:Nat}{v:aE}(hv:arr[i]? = some v):h.cell? (aD ⟨b,0,none⟩ i)=some v:=by
 subst eq;rw [H7,D7];simpa using hv
def B7t:∀ l:List Int,l.length=6->∃ a b c d e f,l=[a,b,c,d,e,f]
 | [a,b,c,d,e,f],_=>⟨a,b,c,d,e,f,rfl⟩
abbrev C1f:aE:=.agg #[I (0:Int),I (0:Int),I (0:Int),I (0:Int),I (0:Int),I (0:Int),.bool false,.slice none 0 0,.bool false,.slice none 0 0]
def B5j(a b c d e f:Int)(w:QV):List aE:=[I a,I b,I c,I d,I e,I f,.bool w.s,.slice w.A w.n w.c,.bool w.s2,.slice w.A2 w.n2 w.c2]
section
variable {h:aG} {K:VP} {vars:Int}
def Wb{l:List UInt8}{xs:List Int}{A:Option Addr}{c:Nat}(gl:Gtz h)(hl:l.length<=100000000)(se:SlI .i64 h A xs)(hv:vars<=6)(hK1:TermOk vars (l,xs)->∀ a b c d e f (w:QV),K (.tuple #[.agg (B5j a b c d e f w).toArray,.bool true]) h)(hK0:¬ TermOk vars (l,xs)->K (.tuple #[C1f,.bool false]) h):FCall prog Bm #[I vars,.agg #[.string (bs l),.slice A xs.length c]] h K:=by
 refine FCall.pure (Lf _ _ _ _ _ ?_)
 unfold Mz
 have y:∀ J,h.le J->¬ TermOk vars (l,xs)->h.le J/\K (.tuple #[C1f,.bool false]) h:=fun J l0 n=>⟨l0,hK0 n⟩
 refine Gx gl hl (fun q e w F p i=>⟨_,_,_,_,_,_,_,_,_,rfl,?_⟩) (fun n w F p _=>⟨_,_,_,_,_,_,_,_,_,rfl,y F p fun o=>?_⟩)
 ·refine Bh i ⟨_,rfl,B3 (fun C=>y _ p fun o=>?_) (fun C=>?_)⟩
  ·obtain ⟨L,E,n'⟩:=o.num
   exact n' (by rw [<- Bg (e.symm.trans E)];exact C)
  refine J9 (fun z=>y _ p fun o=>z o.len) (fun B=>?_)
  refine ⟨fun l h'=>∃ (k:Nat) (R:List aE),l=I k::R/\k<=xs.length/\(∀ j,j<k->0<=xs.getD j 0/\xs.getD j 0<=1048576)/\h'=F,fun l _=>xs.length-(iAt l 0).toNat,⟨0,_,rfl,by omega,fun j hj=>by omega,rfl⟩,?_⟩
  rintro H ac ah ad ai af ag aj N aa T ae M Q ab u ⟨k,R,G,hk,r,rfl⟩
  obtain rfl:H=(k:Int):=by simpa using (List.cons.inj G).1
  refine B3 (fun h2=>?_) (fun h2=>?_)
  ·have m:k<xs.length:=by omega
   refine (se.mono p).load rfl (by omega) (by omega) ?_
   rw [aC]
   refine B3 (fun h3=>y _ p fun o=>?_) (fun h3=>B3 (fun h4=>y _ p fun o=>?_) (fun h4=>?_))
   ·have:=(o.exps _ (Hb m)).1;exact absurd this (by show ¬ 0<=xs.getD k 0;omega)
   ·have:=(o.exps _ (Hb m)).2;exact absurd this (by show ¬ xs.getD k 0<=1048576;omega)
   ·rw [B5 (by omega) (by omega)]
    refine ⟨⟨k+1,_,rfl,by omega,fun j hj=>?_,rfl⟩,by simp only [iAt,aF];omega⟩
    by_cases D:j=k
    ·subst D;omega
    ·exact r j (by omega)
  ·have m:k=xs.length:=by omega
   subst m
   have ok:TermOk vars (l,xs):=⟨⟨q,e,C⟩,B,Uj r⟩
   refine Rq Dm.info fun b hb=>⟨_,rfl,?_⟩
   refine Lm (n:=4) Zg (vs:=[.bool w.s,.slice w.A w.n w.c,.bool w.s2,.slice w.A2 w.n2 w.c2]) rfl rfl (by simp [St]) (off:=6) (arr:=[I (0:Int),I (0:Int),I (0:Int),I (0:Int),I (0:Int),I (0:Int),.bool false,.slice none 0 0,.bool false,.slice none 0 0]) (by decide) ?_
   have win:Win .i64 (u.put b (.cells (H8 [I (0:Int),I (0:Int),I (0:Int),I (0:Int),I (0:Int),I (0:Int),.bool false,.slice none 0 0,.bool false,.slice none 0 0] 6 [.bool w.s,.slice w.A w.n w.c,.bool w.s2,.slice w.A2 w.n2 w.c2]).toArray C8)) u b C8 (J6 (some (aD ⟨b,0,none⟩ 0)) 6 0 1) [] [0,0,0,0,0,0] [.bool w.s,.slice w.A w.n w.c,.bool w.s2,.slice w.A2 w.n2 w.c2]:=⟨hb,rfl,.inr rfl⟩
   have l2:u.le _:=win.le
   have x:xs.length<=6:=by omega
   refine Ay B7b win rfl ((se.mono p).mono l2) rfl (by simpa using x) fun h5 W=>⟨_,rfl,?_⟩
   obtain ⟨a0,X,V,O,Z,S,e6⟩:=B7t (xs++[0,0,0,0,0,0].drop xs.length) (by simp;omega)
   have g:=W.eq
   rw [e6] at g
   refine ⟨a0,X,V,O,Z,S,_,_,_,_,_,_,_,_,H9 g rfl,H9 g rfl,H9 g rfl,H9 g rfl,H9 g rfl,H9 g rfl,H9 g rfl,H9 g rfl,H9 g rfl,H9 g rfl,Heap.le_trans p W.le,?_⟩
   exact hK1 ok a0 X V O Z S w
 ·obtain ⟨L,E,_⟩:=o.num
  exact n ⟨L,E⟩
end
def PrivF.make{n:Nat}{e:TypeId}{g:aG}{b c:Nat}{z:Vk n}(hb:g b=none):PrivF (B29 e g b (List.replicate c z)) g e (some ⟨b,0,none⟩) c ([]:List (Vk n)):=
 ⟨by simp,by simp,.inr ⟨b,(List.replicate c z).flatMap enc,rfl,hb,rfl,by rw [O6,List.length_replicate],by simp⟩⟩
def B22(a b c d e f:Int)(w:QV):(B5j a b c d e f w).length=10/\∀ v∈B5j a b c d e f w,St v=true:=⟨rfl,by simp [B5j,St]⟩
def B23:([I (0:Int),I (0:Int),I (0:Int),I (0:Int),I (0:Int),I (0:Int),.bool false,.slice none 0 0,.bool false,.slice none 0 0]:List aE).length=10/\∀ v∈([I (0:Int),I (0:Int),I (0:Int),I (0:Int),I (0:Int),I (0:Int),.bool false,.slice none 0 0,.bool false,.slice none 0 0]:List aE),St v=true:=⟨rfl,by simp [St]⟩
section
variable {h:aG} {K:VP} {vars:Int} {ts:List J8} {A:Option Addr} {c:Nat}
def A1t(gl:Gtz h)(pa:PolyAt h A ts)(hl:ts.length<=1000)(hc:∀ i,i<ts.length->(tm ts i).1.length<=100000000)(hK1:WfOk vars ts->∀ A' n' c',K (.tuple #[.slice A' n' c',.bool true]) h)(hK0:¬ WfOk vars ts->K (.tuple #[.slice none 0 0,.bool false]) h):FCall prog L8 #[.agg #[I vars,.slice A ts.length c]] h K:=by
 refine FCall.pure (Bc _ _ _ _ ?_)
 unfold Z2
 have E:∀ x,h.le x->¬ WfOk vars ts->h.le x/\K (.tuple #[.slice none 0 0,.bool false]) h:=fun x l0 n=>⟨l0,hK0 n⟩
 refine B3 (fun h1=>E _ (B0 _) fun o=>by have:=o.lo;omega) (fun h1=>?_)
 refine B3 (fun h2=>E _ (B0 _) fun o=>by have:=o.hi;omega) (fun h2=>?_)
 refine Bj (α:=Vk 10) Dm (zx:=⟨_,B23⟩) rfl (by omega) (by omega) (by omega) (by omega) fun b hb=>⟨_,_,_,rfl,?_⟩
 rw [aC]
 refine ⟨fun l h'=>∃ (k:Nat) (A':Option Addr) (c':Nat) (p:List (Vk 10)) (g:aG),l=[.slice A' p.length c',I k]/\k<=ts.length/\p.length=k/\(∀ j,j<k->B6h vars ts j)/\h.le g/\PrivF h' g C8 A' c' p,fun l _=>ts.length-(iAt l 1).toNat,⟨0,_,_,[],h,rfl,by omega,rfl,fun j hj=>by omega,B0 _,PrivF.make hb⟩,?_⟩
 rintro e r d O z ⟨k,A',c',p,g,V,hk,W,q,hg,pr⟩
 obtain ⟨⟨rfl,rfl,rfl⟩,rfl⟩:(e=A'/\r=p.length/\d=c')/\O=(k:Int):=by simpa using V
 have u:h.le z:=Heap.le_trans hg pr.le
 refine B3 (fun h3=>?_) (fun h3=>?_)
 ·have m:k<ts.length:=by omega
  obtain ⟨a,B,cc,e1,e2,e3,e4⟩:=(pa.mono u) k m
  refine ⟨a,e1,by omega,h3,_,_,_,_,by rw [aC];exact e2,by rw [aC];exact e3,?_⟩
  refine Wb (gl.mono u) (hc k m) e4 (by omega) (fun F M J H D L G w=>⟨M,J,H,D,L,G,w.s,w.A,w.n,w.c,w.s2,w.A2,w.n2,w.c2,true,rfl,?_⟩) (fun aa=>⟨_,_,_,_,_,_,_,_,_,_,_,_,_,_,false,rfl,E _ u fun o=>aa (o.all k m).1⟩)
  have next:∀ {x:aG},x=z->B6h vars ts k->wpH prog (Instr.buildSlice I8 1 #[(0,.agg #[I M,I J,I H,I D,I L,I G,.bool w.s,.slice w.A w.n w.c,.bool w.s2,.slice w.A2 w.n2 w.c2])]) (fun v1 Z=>∃ (t57A:Option Addr) (t57n:Nat) (t57c:Nat),v1= .slice t57A t57n t57c/\wpH prog (Builtin.append_ #[I8,I8] I8 #[.slice e p.length d,.slice t57A t57n t57c]) (fun v2 X=>∃ (t58A:Option Addr) (t58n:Nat) (t58c:Nat),v2= .slice t58A t58n t58c/\(∃ (k2:Nat) (A':Option Addr) (c':Nat) (p:List (Vk 10)) (g:aG),[Value.slice t58A t58n t58c,I (B4 ((k:Int)+1))]=[.slice A' p.length c',I k2]/\k2<=ts.length/\p.length=k2/\(∀ j,j<k2->B6h vars ts j)/\h.le g/\PrivF X g C8 A' c' p)/\ts.length-(iAt [Value.slice t58A t58n t58c,I (B4 ((k:Int)+1))] 1).toNat<ts.length-(iAt [Value.slice e p.length d,I (k:Int)] 1).toNat) Z) x:=by
   rintro _ rfl T
   refine Wd Dm pr (y:=⟨B5j M J H D L G w,B22 M J H D L G w⟩) rfl (by decide) (by omega) (by omega) ?_
   intro A2 c2 h2 g2 lg p2
   rw [B5 (by omega) (by omega)]
   refine ⟨⟨k+1,A2,c2,_,g2,?_,by omega,?_,fun j hj=>?_,Heap.le_trans hg lg,p2⟩,by simp only [iAt,List.getElem?_cons_succ,aF];omega⟩
   ·rw [List.length_append];rfl
   ·rw [List.length_append,W];rfl
   ·by_cases R:j=k
    ·subst R;exact T
    ·exact q j (by omega)
  refine B3 (fun h4=>?_) (fun h4=>next rfl ⟨F,fun h0=>by omega⟩)
  have ek:(B4 ((k:Int)-1)).toNat=k-1:=by rw [B5 (by omega) (by omega)];omega
  obtain ⟨a',B',ac,Q,ab,N,S⟩:=(pa.mono u) (k-1) (by omega)
  have C:=(q (k-1) (by omega)).1
  refine ⟨a',Q,by rw [B5 (by omega) (by omega)];omega,by rw [B5 (by omega) (by omega)];omega,_,_,_,by rw [ek];exact N,?_⟩
  refine Qe (by have e5:=C.len;have e6:((tm ts k).2.length:Int)=vars:=F.len;omega) (C.exb (by omega)) (F.exb (by omega)) S e4 ⟨_,rfl,B0 _,?_⟩
  refine B3 (fun h5=>E _ u fun o=>?_) (fun h5=>next rfl ⟨F,fun _=>by omega⟩)
  have:=(o.all k m).2 (by omega)
  omega
 ·have m:k=ts.length:=by omega
  subst m
  exact ⟨u,hK1 ⟨by omega,by omega,q⟩ _ _ _⟩
def Zi(gl:Gtz h)(pa:PolyAt h A ts)(hl:ts.length<=1000)(hc:∀ i,i<ts.length->(tm ts i).1.length<=100000000)(hK1:Gj vars ts->K (.bool true) h)(hK0:¬ Gj vars ts->K (.bool false) h):FCall prog Qx #[.agg #[I vars,.slice A ts.length c]] h K:=by
 refine A5r _ _ _ _ ?_
 unfold A9u
 refine A0w _ _ _ _ ?_
 unfold A9v
 refine B3 (fun s=>by omega) (fun _=>?_)
 refine A1t gl pa hl hc (fun e A' r m=>⟨_,_,_,_,rfl,?_⟩) (fun d=>⟨_,_,_,_,rfl,_,_,_,_,rfl,hK0 fun o=>d o.1⟩)
 refine B3 (fun g=>?_) (fun g=>⟨_,_,_,_,rfl,hK1 ⟨e,fun n=>by omega⟩⟩)
 obtain ⟨a,B,q,j,p,k,l⟩:=pa 0 (by omega)
 refine ⟨a,j,by omega,by omega,_,_,_,k,?_⟩
 refine No l ⟨_,rfl,T6 (Br.of (fun b=>⟨_,_,_,_,rfl,hK1 ⟨e,fun _=>b⟩⟩) (fun b=>⟨_,_,_,_,rfl,hK0 fun o=>?_⟩))⟩
 have:=o.2 (by omega)
 rw [this] at b;cases b
end
