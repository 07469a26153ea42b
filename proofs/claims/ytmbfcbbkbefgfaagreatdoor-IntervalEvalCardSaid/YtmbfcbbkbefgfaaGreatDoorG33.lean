/- A part. -/
import Derived.Test.YtmbfcbbkbefgfaaGreatDoorG31
import Derived.Test.YtmbfcbbkbefgfaaGreatDoorG32
import Derived.Test.YtmbfcbbkbefgfaaGreatDoorG23
open Go.Proofs.Tryz
set_option linter.all false
open _root_.Go.Addr renaming add->aD
open Int renaming toNat_natCast->aC
open List renaming getElem?_cons_zero->aF
open _root_.Go renaming Value->aE
open _root_.Go.Proofs.YtmbfcbbkbefgfaaGreatDoor renaming Heap->aG
namespace Go.Proofs.YtmbfcbbkbefgfaaGreatDoor
set_option maxRecDepth 20000
open Go
abbrev U6:=List UInt8 × List Int
abbrev tm(ts:List U6)(j:Nat):U6:=ts.getD j ([],[])
structure TermOk (vars:Int) (t:U6):Prop where
 num:∃ q,t.1=E4 q/\q≠0
 len:(t.2.length:Int)=vars
 exps:∀ x∈t.2,0<=x/\x<=1048576
def B8r(vars:Int)(ts:List U6)(j:Nat):Prop:=TermOk vars (tm ts j)/\(0<j->0<B2g (tm ts (j-1)).2 (tm ts j).2)
structure WfOk (vars:Int) (ts:List U6):Prop where
 lo:0<=vars
 hi:vars<=6
 all:∀ j,j<ts.length->B8r vars ts j
def Io(vars:Int)(ts:List U6):Prop:=WfOk vars ts/\(0<ts.length->Uu (tm ts 0).2=true)
def TermOk.exb{vars:Int}{t:U6}(o:TermOk vars t)(hv:vars<=6):ExB t.2:=⟨by have:=o.len;omega,o.exps⟩
def PolyAt(h:aG)(A:Option Addr)(ts:List U6):Prop:=∀ i,i<ts.length->∃ a B c,A=some a/\h.cell? (aD (aD a (i*2)) 0)=some (.string (bs (tm ts i).1))/\h.cell? (aD (aD a (i*2)) 1)=some (.slice B (tm ts i).2.length c)/\SlI .i64 h B (tm ts i).2
def PolyAt.mono{h h':aG}{A:Option Addr}{ts:List U6}(p:PolyAt h A ts)(hl:h.le h'):PolyAt h' A ts:=fun i j=>by
 obtain ⟨a,B,c,g,b,e,d⟩:=p i j
 exact ⟨a,B,c,g,D4 hl b,D4 hl e,d.mono hl⟩
def Vo{xs:List Int}(h:∀ j,j<xs.length->0<=xs.getD j 0/\xs.getD j 0<=1048576):∀ x∈xs,0<=x/\x<=1048576:=fun x b=>by
 obtain ⟨j,a,rfl⟩:=List.getElem_of_mem b
 have:=h j a
 simpa [List.getD,a] using this
def Kn{xs:List Int}{j:Nat}(hj:j<xs.length):xs.getD j 0∈xs:=by simp [List.getD,hj]
abbrev Wv(n:Nat):={l:List aE // l.length=n/\∀ v∈l,Vj v=true}
instance cellsEnc (n:Nat):Enc (Wv n):=⟨⟨fun x=>x.1,n,fun x=>x.2.1,fun x=>x.2.2⟩⟩
def B0k{P:Program}{t:TypeId}{z:aE}{size bytes:Nat}(hi:(P.info? t).map (fun i=>(i.zero,i.size,i.bytes))=some (some z,size,bytes)){K:VP}{h:aG}(x:∀ b,h b=none->K (.pointer (some ⟨b,0,none⟩)) (h.put b (.cells z.cells t))):wpH P (Instr.alloc t true (.tuple #[])) K h:=by
 obtain ⟨i,hi,c⟩:=Option.map_eq_some_iff.1 hi
 have a:i.zero=some z:=by simpa using congrArg (fun x=>x.1) c
 unfold Instr.alloc
 simp only [C3,K6 hi a,newVar,N9,F4]
 exact x
def A6a{P:Program}{t:TypeId}{n:Nat}(one:P.cellsOf t=n/\(P.info? t).isSome=true){v:aE}{vs:List aE}(hv:v.cells=vs.toArray)(hn:vs.length=n)(h1:∀ v∈vs,Vj v=true){g:aG}{b off:Nat}{e:TypeId}{arr:List aE}(ho:off+n<=arr.length){K:Unit->aG->Prop}
 (x:K () (g.put b (.cells (J8 arr off vs).toArray e))):wpH P (Instr.storeAt t (.pointer (some (aD ⟨b,0,none⟩ off))) v) K (g.put b (.cells arr.toArray e)):=by
 obtain ⟨d,a⟩:=Option.isSome_iff_exists.1 one.2
 have c:d.size=n:=by simpa [Program.cellsOf,a] using one.1
 unfold Instr.storeAt
 simp only [C3,Instr.sureAddr,F4,storeVar,J5 a,c,hv,List.size_toArray,hn,ne_eq,not_true_eq_false,if_false]
 rw [I0,Nat.zero_add]
 exact H5 vs off 0 _ (by omega) h1 (by rw [Nat.add_zero];exact x)
def Ck{h g:aG}{b:Nat}{arr:List aE}{e:TypeId}(eq:h=g.put b (.cells arr.toArray e)){i:Nat}{v:aE}(hv:arr[i]? = some v):h.cell? (aD ⟨b,0,none⟩ i)=some v:=by
 subst eq;rw [I0,G3];simpa using hv
def C1v:∀ l:List Int,l.length=6->∃ a b c d e f,l=[a,b,c,d,e,f]
 | [a,b,c,d,e,f],_=>⟨a,b,c,d,e,f,rfl⟩
abbrev C2y:aE:=.agg #[I (0:Int),I (0:Int),I (0:Int),I (0:Int),I (0:Int),I (0:Int),.bool false,.slice none 0 0,.bool false,.slice none 0 0]
def B9q(a b c d e f:Int)(w:QV):List aE:=[I a,I b,I c,I d,I e,I f,.bool w.s,.slice w.A w.n w.c,.bool w.s2,.slice w.A2 w.n2 w.c2]
section
variable {h:aG} {K:VP} {vars:Int}
def Xm{l:List UInt8}{xs:List Int}{A:Option Addr}{c:Nat}(gl:Gtz h)(hl:l.length<=100000000)(se:SlI .i64 h A xs)(hv:vars<=6)(hK1:TermOk vars (l,xs)->∀ a b c d e f (w:QV),K (.tuple #[.agg (B9q a b c d e f w).toArray,.bool true]) h)(hK0:¬ TermOk vars (l,xs)->K (.tuple #[C2y,.bool false]) h):FCall prog Gf #[I vars,.agg #[.string (bs l),.slice A xs.length c]] h K:=by
 refine FCall.pure (Zm _ _ _ _ _ ?_)
 unfold Wk
 have y:∀ G,h.le G->¬ TermOk vars (l,xs)->h.le G/\K (.tuple #[C2y,.bool false]) h:=fun G l0 n=>⟨l0,hK0 n⟩
 refine Vd gl hl (fun q e w D p i=>⟨_,_,_,_,_,_,_,_,_,rfl,?_⟩) (fun n w D p _=>⟨_,_,_,_,_,_,_,_,_,rfl,y D p fun o=>?_⟩)
 ·refine Fs i ⟨_,rfl,B4 (fun B=>y _ p fun o=>?_) (fun B=>?_)⟩
  ·obtain ⟨q',E,n'⟩:=o.num
   exact n' (by rw [<- Z7 (e.symm.trans E)];exact B)
  refine N8 (fun J=>y _ p fun o=>J o.len) (fun F=>?_)
  refine ⟨fun l h'=>∃ (k:Nat) (R:List aE),l=I k::R/\k<=xs.length/\(∀ j,j<k->0<=xs.getD j 0/\xs.getD j 0<=1048576)/\h'=D,fun l _=>xs.length-(iAt l 0).toNat,⟨0,_,rfl,by omega,fun j hj=>by omega,rfl⟩,?_⟩
  rintro z ag ac ah aa af ae ab M O Q ad S L W u ⟨k,R,H,hk,r,rfl⟩
  obtain rfl:z=(k:Int):=by simpa using (List.cons.inj H).1
  refine B4 (fun h2=>?_) (fun h2=>?_)
  ·have m:k<xs.length:=by omega
   refine (se.mono p).load rfl (by omega) (by omega) ?_
   rw [aC]
   refine B4 (fun h3=>y _ p fun o=>?_) (fun h3=>B4 (fun h4=>y _ p fun o=>?_) (fun h4=>?_))
   ·have:=(o.exps _ (Kn m)).1;exact absurd this (by show ¬ 0<=xs.getD k 0;omega)
   ·have:=(o.exps _ (Kn m)).2;exact absurd this (by show ¬ xs.getD k 0<=1048576;omega)
   ·rw [B6 (by omega) (by omega)]
    refine ⟨⟨k+1,_,rfl,by omega,fun j hj=>?_,rfl⟩,by simp only [iAt,aF];omega⟩
    by_cases C:j=k
    ·subst C;omega
    ·exact r j (by omega)
  ·have m:k=xs.length:=by omega
   subst m
   have ok:TermOk vars (l,xs):=⟨⟨q,e,B⟩,F,Vo r⟩
   refine B0k Xh.info fun b hb=>⟨_,rfl,?_⟩
   refine A6a (n:=4) A8u (vs:=[.bool w.s,.slice w.A w.n w.c,.bool w.s2,.slice w.A2 w.n2 w.c2]) rfl rfl (by simp [Vj]) (off:=6) (arr:=[I (0:Int),I (0:Int),I (0:Int),I (0:Int),I (0:Int),I (0:Int),.bool false,.slice none 0 0,.bool false,.slice none 0 0]) (by decide) ?_
   have win:Win .i64 (u.put b (.cells (J8 [I (0:Int),I (0:Int),I (0:Int),I (0:Int),I (0:Int),I (0:Int),.bool false,.slice none 0 0,.bool false,.slice none 0 0] 6 [.bool w.s,.slice w.A w.n w.c,.bool w.s2,.slice w.A2 w.n2 w.c2]).toArray R4)) u b R4 (J4 (some (aD ⟨b,0,none⟩ 0)) 6 0 1) [] [0,0,0,0,0,0] [.bool w.s,.slice w.A w.n w.c,.bool w.s2,.slice w.A2 w.n2 w.c2]:=⟨hb,rfl,.inr rfl⟩
   have l2:u.le _:=win.le
   have x:xs.length<=6:=by omega
   refine Eo C1l win rfl ((se.mono p).mono l2) rfl (by simpa using x) fun h5 X=>⟨_,rfl,?_⟩
   obtain ⟨a0,N,Z,T,V,a5,e6⟩:=C1v (xs++[0,0,0,0,0,0].drop xs.length) (by simp;omega)
   have g:=X.eq
   rw [e6] at g
   refine ⟨a0,N,Z,T,V,a5,_,_,_,_,_,_,_,_,Ck g rfl,Ck g rfl,Ck g rfl,Ck g rfl,Ck g rfl,Ck g rfl,Ck g rfl,Ck g rfl,Ck g rfl,Ck g rfl,A0 p X.le,?_⟩
   exact hK1 ok a0 N Z T V a5 w
 ·obtain ⟨q',E,_⟩:=o.num
  exact n ⟨q',E⟩
end
def PrivF.make{n:Nat}{e:TypeId}{g:aG}{b c:Nat}{z:Wv n}(hb:g b=none):PrivF (B5j e g b (List.replicate c z)) g e (some ⟨b,0,none⟩) c ([]:List (Wv n)):=
 ⟨by simp,by simp,.inr ⟨b,(List.replicate c z).flatMap enc,rfl,hb,rfl,by rw [P8,List.length_replicate],by simp⟩⟩
def B3t(a b c d e f:Int)(w:QV):(B9q a b c d e f w).length=10/\∀ v∈B9q a b c d e f w,Vj v=true:=⟨rfl,by simp [B9q,Vj]⟩
def B3u:([I (0:Int),I (0:Int),I (0:Int),I (0:Int),I (0:Int),I (0:Int),.bool false,.slice none 0 0,.bool false,.slice none 0 0]:List aE).length=10/\∀ v∈([I (0:Int),I (0:Int),I (0:Int),I (0:Int),I (0:Int),I (0:Int),.bool false,.slice none 0 0,.bool false,.slice none 0 0]:List aE),Vj v=true:=⟨rfl,by simp [Vj]⟩
section
variable {h:aG} {K:VP} {vars:Int} {ts:List U6} {A:Option Addr} {c:Nat}
def A3c(gl:Gtz h)(pa:PolyAt h A ts)(hl:ts.length<=1000)(hc:∀ i,i<ts.length->(tm ts i).1.length<=100000000)(hK1:WfOk vars ts->∀ A' n' c',K (.tuple #[.slice A' n' c',.bool true]) h)(hK0:¬ WfOk vars ts->K (.tuple #[.slice none 0 0,.bool false]) h):FCall prog S1 #[.agg #[I vars,.slice A ts.length c]] h K:=by
 refine FCall.pure (Jl _ _ _ _ ?_)
 unfold Fb
 have H:∀ u,h.le u->¬ WfOk vars ts->h.le u/\K (.tuple #[.slice none 0 0,.bool false]) h:=fun u l0 n=>⟨l0,hK0 n⟩
 refine B4 (fun h1=>H _ (B3 _) fun o=>by have:=o.lo;omega) (fun h1=>?_)
 refine B4 (fun h2=>H _ (B3 _) fun o=>by have:=o.hi;omega) (fun h2=>?_)
 refine Xt (α:=Wv 10) Xh (zx:=⟨_,B3u⟩) rfl (by omega) (by omega) (by omega) (by omega) fun b hb=>⟨_,_,_,rfl,?_⟩
 rw [aC]
 refine ⟨fun l h'=>∃ (k:Nat) (A':Option Addr) (c':Nat) (p:List (Wv 10)) (g:aG),l=[.slice A' p.length c',I k]/\k<=ts.length/\p.length=k/\(∀ j,j<k->B8r vars ts j)/\h.le g/\PrivF h' g R4 A' c' p,fun l _=>ts.length-(iAt l 1).toNat,⟨0,_,_,[],h,rfl,by omega,rfl,fun j hj=>by omega,B3 _,PrivF.make hb⟩,?_⟩
 rintro d r e W C ⟨k,A',c',p,g,X,hk,N,q,hg,pr⟩
 obtain ⟨⟨rfl,rfl,rfl⟩,rfl⟩:(d=A'/\r=p.length/\e=c')/\W=(k:Int):=by simpa using X
 have x:h.le C:=A0 hg pr.le
 refine B4 (fun h3=>?_) (fun h3=>?_)
 ·have m:k<ts.length:=by omega
  obtain ⟨a,B,cc,e1,e2,e3,e4⟩:=(pa.mono x) k m
  refine ⟨a,e1,by omega,h3,_,_,_,_,by rw [aC];exact e2,by rw [aC];exact e3,?_⟩
  refine Xm (gl.mono x) (hc k m) e4 (by omega) (fun E M D J F G L w=>⟨M,D,J,F,G,L,w.s,w.A,w.n,w.c,w.s2,w.A2,w.n2,w.c2,true,rfl,?_⟩) (fun S=>⟨_,_,_,_,_,_,_,_,_,_,_,_,_,_,false,rfl,H _ x fun o=>S (o.all k m).1⟩)
  have next:∀ {u:aG},u=C->B8r vars ts k->wpH prog (Instr.buildSlice Aw 1 #[(0,.agg #[I M,I D,I J,I F,I G,I L,.bool w.s,.slice w.A w.n w.c,.bool w.s2,.slice w.A2 w.n2 w.c2])]) (fun v1 Z=>∃ (t57A:Option Addr) (t57n:Nat) (t57c:Nat),v1= .slice t57A t57n t57c/\wpH prog (Builtin.append_ #[Aw,Aw] Aw #[.slice d p.length e,.slice t57A t57n t57c]) (fun v2 Q=>∃ (t58A:Option Addr) (t58n:Nat) (t58c:Nat),v2= .slice t58A t58n t58c/\(∃ (k2:Nat) (A':Option Addr) (c':Nat) (p:List (Wv 10)) (g:aG),[Value.slice t58A t58n t58c,I (B5 ((k:Int)+1))]=[.slice A' p.length c',I k2]/\k2<=ts.length/\p.length=k2/\(∀ j,j<k2->B8r vars ts j)/\h.le g/\PrivF Q g R4 A' c' p)/\ts.length-(iAt [Value.slice t58A t58n t58c,I (B5 ((k:Int)+1))] 1).toNat<ts.length-(iAt [Value.slice d p.length e,I (k:Int)] 1).toNat) Z) u:=by
   rintro _ rfl O
   refine B38 Xh pr (y:=⟨B9q M D J F G L w,B3t M D J F G L w⟩) rfl (by decide) (by omega) (by omega) ?_
   intro A2 c2 h2 g2 lg p2
   rw [B6 (by omega) (by omega)]
   refine ⟨⟨k+1,A2,c2,_,g2,?_,by omega,?_,fun j hj=>?_,A0 hg lg,p2⟩,by simp only [iAt,List.getElem?_cons_succ,aF];omega⟩
   ·rw [List.length_append];rfl
   ·rw [List.length_append,N];rfl
   ·by_cases T:j=k
    ·subst T;exact O
    ·exact q j (by omega)
  refine B4 (fun h4=>?_) (fun h4=>next rfl ⟨E,fun h0=>by omega⟩)
  have ek:(B5 ((k:Int)-1)).toNat=k-1:=by rw [B6 (by omega) (by omega)];omega
  obtain ⟨a',B',ac,aa,ab,R,V⟩:=(pa.mono x) (k-1) (by omega)
  have z:=(q (k-1) (by omega)).1
  refine ⟨a',aa,by rw [B6 (by omega) (by omega)];omega,by rw [B6 (by omega) (by omega)];omega,_,_,_,by rw [ek];exact R,?_⟩
  refine A3j (by have e5:=z.len;have e6:((tm ts k).2.length:Int)=vars:=E.len;omega) (z.exb (by omega)) (E.exb (by omega)) V e4 ⟨_,rfl,B3 _,?_⟩
  refine B4 (fun h5=>H _ x fun o=>?_) (fun h5=>next rfl ⟨E,fun _=>by omega⟩)
  have:=(o.all k m).2 (by omega)
  omega
 ·have m:k=ts.length:=by omega
  subst m
  exact ⟨x,hK1 ⟨by omega,by omega,q⟩ _ _ _⟩
def A0v(gl:Gtz h)(pa:PolyAt h A ts)(hl:ts.length<=1000)(hc:∀ i,i<ts.length->(tm ts i).1.length<=100000000)(hK1:Io vars ts->K (.bool true) h)(hK0:¬ Io vars ts->K (.bool false) h):FCall prog Rx #[.agg #[I vars,.slice A ts.length c]] h K:=by
 refine A7h _ _ _ _ ?_
 unfold B1h
 refine B1i _ _ _ _ ?_
 unfold B62
 refine B4 (fun s=>by omega) (fun _=>?_)
 refine A3c gl pa hl hc (fun e A' r p=>⟨_,_,_,_,rfl,?_⟩) (fun d=>⟨_,_,_,_,rfl,_,_,_,_,rfl,hK0 fun o=>d o.1⟩)
 refine B4 (fun l=>?_) (fun l=>⟨_,_,_,_,rfl,hK1 ⟨e,fun n=>by omega⟩⟩)
 obtain ⟨a,B,q,j,m,k,g⟩:=pa 0 (by omega)
 refine ⟨a,j,by omega,by omega,_,_,_,k,?_⟩
 refine A11 g ⟨_,rfl,S7 (Br.of (fun b=>⟨_,_,_,_,rfl,hK1 ⟨e,fun _=>b⟩⟩) (fun b=>⟨_,_,_,_,rfl,hK0 fun o=>?_⟩))⟩
 have:=o.2 (by omega)
 rw [this] at b;cases b
end
