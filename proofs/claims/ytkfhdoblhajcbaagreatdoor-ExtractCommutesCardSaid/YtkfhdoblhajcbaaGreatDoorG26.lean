/- A part. -/
import Derived.Test.YtkfhdoblhajcbaaGreatDoorG25
open Go.Proofs.Tryz
set_option linter.all false
open _root_.Go.Addr renaming add->aE
open _root_.Go.Builtin renaming append_->bI
open Classical renaming byContradiction->bW
open _root_.Go.Instr renaming buildSlice->bH,storeAt->bX
open Int renaming toNat_natCast->aC,toNat_add->aW,tdiv_eq_ediv_of_nonneg->bF
open List renaming getElem?_cons_zero->aO,length_append->aP,getElem?_cons_succ->aT,replicate->aU,getD->aX,range->bM,all_eq_true->bN,length_singleton->cC,length_replicate->cD,length_set->cI,mem_range->cK,getElem?_append_right->cL,getElem?_append_left->cN,drop_eq_nil_of_le->cR
open List.Perm renaming refl->cM
open List.cons renaming injEq->aG
open Nat renaming le_refl->aD,mul_le_mul_right->aF,mul_le_mul->aJ,mul_le_mul_left->aR,pow_le_pow_right->aS,le_trans->aV,zero_mul->bC,one_mul->bK,div_lt_of_lt_mul->bO,add_mul->bU,add_sub_cancel_left->bY,mul_one->cF,mul_comm->cG,mod_lt->cJ,add_zero->cQ
open Rat renaming mul_one->aY,zero_mul->aZ,one_mul->bJ,mul_zero->bL,pow_zero->bZ,mul_assoc->cO,pow_succ->cP
open _root_.Go.Value renaming cells->cH
open _root_.Go.Value.bool renaming injEq->bG
open _root_.Go.Value.int renaming injEq->aI
open _root_.Go.Value.slice renaming injEq->aH
open _root_.Go renaming Addr->aL,Value->aQ,TypeId->bD,Program->bV
open _root_.Go.Proofs.YtkfhdoblhajcbaaGreatDoor renaming Heap->aK,RowV->aM,FCall->aN
namespace Go.Proofs.YtkfhdoblhajcbaaGreatDoor
set_option maxRecDepth 20000
open Go
structure FOut where
 r:Int
 n:Nat
 f:Nat->List UInt8
 dn:Nat
 g:Nat->List UInt8
 ok:Bool
 e:Int
def noF(e:Int):FOut:=⟨0,0,fun _=>[],0,fun _=>[],false,e⟩
def FacO(r c:Int)(n:Nat)(ls:Nat->List UInt8)(o:FOut):Prop:=
 (∃ e,SqE r c n ls e/\o=noF e)\/∃ q,SqOk r c n ls q/\(((∀ k,k<q->Rc (mtx (rvs ls) q) q k)/\o=⟨(q:Int),q*q,fun t=>E8 (A7e (mtx (rvs ls) q) q q t),q,fun t=>E8 (A7u (mtx (rvs ls) q) q t),true,0⟩)\/((¬ ∀ k,k<q->Rc (mtx (rvs ls) q) q k)/\o=noF 0))
section
variable {r c:Int} {n:Nat} {ls:Nat->List UInt8}
def SqE.eq{e e':Int}(x:SqE r c n ls e)(y:SqE r c n ls e'):e=e':=by
 rcases x with ⟨x1,rfl⟩|⟨x1,x2,rfl⟩<;>rcases y with ⟨y1,rfl⟩|⟨y1,y2,rfl⟩
 ·rfl
 ·exact absurd y1 x1
 ·exact absurd x1 y1
 ·rfl
def SqOk.eq{q q':Nat}(x:SqOk r c n ls q)(y:SqOk r c n ls q'):q=q':=by have:=x.1.er;have:=y.1.er;omega
def FacO.eq{o p:FOut}(x:FacO r c n ls o)(y:FacO r c n ls p):o=p:=by
 rcases x with ⟨e,x1,rfl⟩|⟨q,x1,x2⟩<;>rcases y with ⟨e',y1,rfl⟩|⟨q',y1,y2⟩
 ·rw [x1.eq y1]
 ·exact (x1.not y1).elim
 ·exact (y1.not x1).elim
 ·obtain rfl:=x1.eq y1
  rcases x2 with ⟨a,rfl⟩|⟨a,rfl⟩<;>rcases y2 with ⟨b,rfl⟩|⟨b,rfl⟩
  ·rfl
  ·exact absurd a b
  ·exact absurd b a
  ·rfl
end
section
variable {h:aK} {K:VP} {A A2 B B2:Option aL} {n cap cap2 cap3 cap4 m Q:Nat} {r c:Int} {ls:Nat->List UInt8}
def A7v(gl:Gl h)(rv':aM SSr h A n ls)(hn:n<=1000000)(hl:LL n ls)(hs:∀ i,i<n->Sz m (rv (ls i)))(hb:∀ q,MOk r c n ls q q->3^q*bnd q m+bnd q m<=Q)(hQ:Q<=20000000)
 (hK:∀ o,FacO r c n ls o->∀ A' B' c1 c2 h',h.le h'->aM SSr h' A' o.n o.f->aM SSr h' B' o.dn o.g->K (.tuple #[.agg #[I o.r,I o.r,.slice A' o.n c1,.slice B' o.dn c2],.bool o.ok,I o.e]) h'):aN prog 145 #[Dx r c A n cap] h K:=by
 refine A24 gl rv' hn hl hs hb hQ (fun q sq ok k p h' a b=>?_) (fun q sq ok h' a=>hK (noF 0) (.inr ⟨q,sq,.inr ⟨ok,rfl⟩⟩) none none 0 0 h' a RowV.nil RowV.nil) (fun e j h' a=>hK (noF e) (.inl ⟨e,j,rfl⟩) none none 0 0 h' a RowV.nil RowV.nil)
 obtain ⟨rfl,rfl,_⟩:=id sq.1
 exact hK ⟨_,_,_,_,_,_,_⟩ (.inr ⟨q,sq,.inl ⟨ok,rfl⟩⟩) _ _ _ _ h' a b.l b.d
end
def fl(M:Nat->Nat->Rat)(w:Nat):Nat->Rat:=fun k=>M (k/w) (k%w)
def S5(M:Nat->Nat->Rat)(w:Nat):rvs (K8 M w)=fl M w:=funext fun _=>G1 _
def Er(M:Nat->Nat->Rat){w i j:Nat}(hj:j<w):mtx (fl M w) w i j=M i j:=by
 obtain ⟨b,a⟩:=dm1 (i:=i) hj
 show M ((i*w+j)/w) ((i*w+j)%w)=_
 rw [b,a]
structure FM (h:aK) (A:Option aL) (p w m:Nat) (M:Nat->Nat->Rat):Prop where
 r1:1<=p
 r2:p<=64
 c1:1<=w
 c2:w<=64
 row:aM SSr h A (p*w) (K8 M w)
 sz:∀ i j,i<p->j<w->Sz m (M i j)
section
variable {h h':aK} {K:VP} {A B:Option aL} {c c2 p q w m n:Nat} {M X:Nat->Nat->Rat}
def FM.mono(l:h.le h')(x:FM h A p w m M):FM h' A p w m M:=⟨x.r1,x.r2,x.c1,x.c2,x.row.mono E9 l,x.sz⟩
def FM.ok(x:FM h A p w m M):MOk p w (p*w) (K8 M w) p w:=⟨rfl,rfl,x.r1,x.r2,x.c1,x.c2,rfl,fun _ _=>⟨_,rfl⟩⟩
def FM.mx(x:FM h A p w m M):Mx p w (p*w) (K8 M w):=⟨_,_,x.ok⟩
def FM.nn(x:FM h A p w m M):p*w<=1000000:=aV (aJ x.r2 x.c2) dc
def FM.at(x:FM h A p w m M){i:Nat}(hi:i<p*w):Sz m (fl M w i):=x.sz _ _ (bO (by rw [cG];exact hi)) (cJ _ x.c1)
def FM.szs(x:FM h A p w m M):∀ i,i<p*w->Sz m (rv (K8 M w i)):=fun i a=>by
 show Sz m (rv (E8 _))
 rw [G1];exact x.at a
def FM.len(x:FM h A p w m M)(hm:m<=40000000):∀ i,i<p*w->(K8 M w i).length<=100000000:=fun i a=>by
 have:=Xa (x.at a)
 show (E8 (fl M w i)).length<=_
 omega
def Hm{p w r k n:Nat}{ls:Nat->List UInt8}(x:MOk (p:Int) (w:Int) n ls r k):r=p/\k=w:=by
 have:=x.er;have:=x.ec;omega
def C0m(M:Nat->Nat->Rat)(p w:Nat):(elE (fl M w) p w w).cs=(ecE M p w).cs:=(Qu (n:=p) (w:=w) (fun _ _ _ a=>Er M a) w (aD _)).1
def Si(gl:Gl h)(x:FM h A p w m M)(hm:2*(3^w*bnd w m)+1<=100000000)(hm0:m<=40000000)(hK:K (.tuple #[I ((ecE M p w).cs.length:Int),I 0]) h):aN prog 109 #[Dx p w A (p*w) c] h K:=by
 refine FCall.pure (A75 gl x.row x.nn (x.len hm0) x.szs (fun r k mk=>?_) (fun r k mk b a=>?_) fun no=>absurd x.mx no)
 ·obtain ⟨rfl,rfl⟩:=Hm mk;exact hm
 ·obtain ⟨rfl,rfl⟩:=Hm mk
  rw [S5,C0m]
  exact ⟨a,hK⟩
def Ya(gl:Gl h)(x:FM h A p w m M)(hm:2*(3^w*bnd w m)+1<=40000000)(hm0:m<=40000000)(hK:∀ b A' c' h',h.le h'->SlF h' A' (zs (ecE M p w).cs)->K (.tuple #[Dx p w b (p*w) (p*w),.slice A' (ecE M p w).cs.length c',I 0]) h'):aN prog 146 #[Dx p w A (p*w) c] h K:=by
 refine A1c gl x.row x.nn (x.len hm0) x.szs (fun r k mk=>?_) (fun r k mk b a A' c' o=>?_) fun no=>absurd x.mx no
 ·obtain ⟨rfl,rfl⟩:=Hm mk;exact hm
 ·obtain ⟨rfl,rfl⟩:=Hm mk
  rw [S5,C0m] at *
  exact hK _ _ _ _ o.le o.ints.1
def Us(gl:Gl h)(x:FM h A p p m M)(hi:No (fl M p) p)(hm1:1<=m)(hm:2*(3^p*bnd (p+p) m)+1<=40000000)(hm0:m<=40000000)(hK:∀ A' c' h',h.le h'->aM SSr h' A' (p*p) (K8 (Sr (fl M p) p) p)->K (.tuple #[Dx p p A' (p*p) c',I 0]) h'):aN prog 148 #[Dx p p A (p*p) c] h K:=by
 refine Yg gl x.row x.nn (x.len hm0) x.szs hm1 (fun q mk=>?_) fun o d A' c' e b a=>?_
 ·obtain ⟨rfl,_⟩:=Hm mk;exact hm
 ·obtain rfl:=d.eq (.inr (.inr ⟨p,x.ok,.inl ⟨by rw [S5];exact hi,rfl⟩⟩))
  rw [S5] at a
  exact hK _ _ _ b a
def C0b(n:Nat)(M X:Nat->Nat->Rat):Nat->Nat->Rat:=fun i j=>sm n fun t=>M i t*X t j
def Wb(gl:Gl h)(x:FM h A p n m M)(y:FM h B n w m X)(hm1:1<=m)(hm:2*(1+n*(2*m+1)+2*m)+14<=40000000)(hK:∀ A' c' h',h.le h'->aM SSr h' A' (p*w) (K8 (C0b n M X) w)->K (.tuple #[Dx p w A' (p*w) c',I 0]) h'):aN prog 176 #[Dx p n A (p*n) c,Dx n w B (n*w) c2] h K:=by
 have a:m<=40000000:=oo
 refine A7c (d:=n) gl x.row y.row x.nn y.nn (x.len a) (y.len a) x.szs y.szs hm1 (fun r k mk=>by have:=(Hm mk).2;omega) hm fun o mo A' c' i f g=>?_
 rcases mo with ⟨no,_⟩|⟨_,_,no,_⟩|⟨r,k,l,mk,b,rfl⟩
 ·exact absurd ⟨x.mx,y.mx⟩ no
 ·exact absurd rfl no
 ·obtain ⟨rfl,rfl⟩:=Hm mk
  obtain ⟨_,rfl⟩:=Hm b
  refine hK _ _ _ f (g.congr fun t q=>congrArg E8 (C5 fun j e=>?_))
  rw [S5,S5,Er M e,Er X (cJ _ y.c1)]
def Hl{b:Nat->Rat}(gl:Gl h)(x:FM h A p w m M)(rb:aM SSr h B p (fun i=>E8 (b i)))(sb:∀ i,i<p->Sz m (b i))(ok:Cq (fl M w) b p w)(hm1:1<=m)(hm:2*(3^w*bnd (w+1) m)+1<=40000000/\2*(3^p*bnd (p+1) m)+1<=40000000/\7^w*m<=40000000/\7^p*m<=40000000)
 (hK:∀ A' c' B2 n2 c2 h',h.le h'->aM SSr h' A' w (fun i=>E8 (Qf (fl M w) b p w i))->K (.tuple #[.slice A' w c',.slice B2 n2 c2,I 0]) h'):aN prog 111 #[Dx p w A (p*w) c,.slice B p c2] h K:=by
 have a:m<=40000000:=aV (Nat.le_mul_of_pos_left _ (Nat.pow_pos dc)) hm.2.2.1
 have f:rvs (fun i=>E8 (b i))=b:=funext fun _=>G1 _
 refine A42 gl x.row rb x.nn (by have:=x.r2;omega) (x.len a) (fun i d=>by have:=Xa (sb i d);omega) x.szs (fun i d=>by rw [G1];exact sb i d) hm1 (fun r k mk=>?_) fun o j n q _ A' c' A2 c2 s g e l=>?_
 ·obtain ⟨rfl,rfl⟩:=Hm mk;exact hm
 ·obtain rfl:=j.eq (.inr (.inr ⟨p,w,x.ok,fun _ _=>⟨_,rfl⟩,rfl,.inl ⟨by rw [S5,f];exact ok,rfl⟩⟩))
  rw [S5,f] at e
  exact hK _ _ _ _ _ _ g e
end
abbrev Qq:=List UInt8 × List Int
abbrev tm(ts:List Qq)(j:Nat):Qq:=ts.getD j ([],[])
structure TermOk (vars:Int) (t:Qq):Prop where
 num:∃ q,t.1=E8 q/\q≠0
 len:(t.2.length:Int)=vars
 exps:∀ x∈t.2,0<=x/\x<=1048576
def C1d(vars:Int)(ts:List Qq)(j:Nat):Prop:=TermOk vars (tm ts j)/\(0<j->0<A72 (tm ts (j-1)).2 (tm ts j).2)
structure WfOk (vars:Int) (ts:List Qq):Prop where
 lo:0<=vars
 hi:vars<=6
 all:∀ j,j<ts.length->C1d vars ts j
def B1v(vars:Int)(ts:List Qq):Prop:=WfOk vars ts/\(0<ts.length->J6 (tm ts 0).2=true)
def TermOk.exb{vars:Int}{t:Qq}(o:TermOk vars t)(hv:vars<=6):ExB t.2:=⟨by have:=o.len;omega,o.exps⟩
def PolyAt(h:aK)(A:Option aL)(ts:List Qq):Prop:=∀ i,i<ts.length->∃ a B c,A=some a/\h.cell? (aE (aE a (i*2)) 0)=some (.string (bs (tm ts i).1))/\h.cell? (aE (aE a (i*2)) 1)=some (.slice B (tm ts i).2.length c)/\SlI .i64 h B (tm ts i).2
def PolyAt.mono{h h':aK}{A:Option aL}{ts:List Qq}(p:PolyAt h A ts)(hl:h.le h'):PolyAt h' A ts:=fun i g=>by
 obtain ⟨a,B,c,e,b,f,d⟩:=p i g
 exact ⟨a,B,c,e,C2 hl b,C2 hl f,d.mono hl⟩
def A7k{xs:List Int}(h:∀ j,j<xs.length->0<=xs.getD j 0/\xs.getD j 0<=1048576):∀ x∈xs,0<=x/\x<=1048576:=fun x b=>by
 obtain ⟨j,a,rfl⟩:=List.getElem_of_mem b
 have:=h j a
 simpa [aX,a] using this
def Bn{xs:List Int}{j:Nat}(hj:j<xs.length):xs.getD j 0∈xs:=by simp [aX,hj]
abbrev Ww(n:Nat):={l:List aQ // l.length=n/\∀ v∈l,Nr v=true}
instance cellsEnc (n:Nat):Enc (Ww n):=⟨⟨fun x=>x.1,n,fun x=>x.2.1,fun x=>x.2.2⟩⟩
def Hw{P:bV}{t:bD}{z:aQ}{size bytes:Nat}(hi:(P.info? t).map (fun i=>(i.zero,i.size,i.bytes))=some (some z,size,bytes)){K:VP}{h:aK}(x:∀ b,h b=none->K (.pointer (some ⟨b,0,none⟩)) (h.put b (.cells z.cells t))):wpH P (Instr.alloc t true (.tuple #[])) K h:=by
 obtain ⟨i,hi,a⟩:=Option.map_eq_some_iff.1 hi
 have c:i.zero=some z:=by simpa using congrArg (fun x=>x.1) a
 unfold Instr.alloc
 simp only [C9,N7 hi c,newVar,Y9,H2]
 exact x
def Vj{P:bV}{t:bD}{n:Nat}(one:P.cellsOf t=n/\(P.info? t).isSome=true){v:aQ}{vs:List aQ}(hv:v.cells=vs.toArray)(hn:vs.length=n)(h1:∀ v∈vs,Nr v=true){g:aK}{b off:Nat}{e:bD}{arr:List aQ}(ho:off+n<=arr.length){K:Unit->aK->Prop}
 (x:K () (g.put b (.cells (H9 arr off vs).toArray e))):wpH P (bX t (.pointer (some (aE ⟨b,0,none⟩ off))) v) K (g.put b (.cells arr.toArray e)):=by
 obtain ⟨d,a⟩:=Option.isSome_iff_exists.1 one.2
 have c:d.size=n:=by simpa [Program.cellsOf,a] using one.1
 unfold bX
 simp only [C9,Instr.sureAddr,H2,storeVar,J3 a,c,hv,List.size_toArray,hn,ne_eq,not_true_eq_false,if_false]
 rw [D4,Nat.zero_add]
 exact G8 vs off 0 _ o h1 (by rw [cQ];exact x)
def Dt{h g:aK}{b:Nat}{arr:List aQ}{e:bD}(eq:h=g.put b (.cells arr.toArray e)){i:Nat}{v:aQ}(hv:arr[i]? = some v):h.cell? (aE ⟨b,0,none⟩ i)=some v:=by
 subst eq;rw [D4,D7];simpa using hv
def C2p:∀ l:List Int,l.length=6->∃ a b c d e f,l=[a,b,c,d,e,f]
 | [a,b,c,d,e,f],_=>⟨a,b,c,d,e,f,rfl⟩
abbrev C3i:aQ:=.agg #[I (0:Int),I (0:Int),I (0:Int),I (0:Int),I (0:Int),I (0:Int),.bool false,.slice none 0 0,.bool false,.slice none 0 0]
def C0q(a b c d e f:Int)(w:QV):List aQ:=[I a,I b,I c,I d,I e,I f,.bool w.s,.slice w.A w.n w.c,.bool w.s2,.slice w.A2 w.n2 w.c2]
section
variable {h:aK} {K:VP} {vars:Int}
def Xr{l:List UInt8}{xs:List Int}{A:Option aL}{c:Nat}(gl:Gtz h)(hl:l.length<=100000000)(se:SlI .i64 h A xs)(hv:vars<=6)(hK1:TermOk vars (l,xs)->∀ a b c d e f (w:QV),K (.tuple #[.agg (C0q a b c d e f w).toArray,.bool true]) h)(hK0:¬ TermOk vars (l,xs)->K (.tuple #[C3i,.bool false]) h):aN prog 285 #[I vars,.agg #[.string (bs l),.slice A xs.length c]] h K:=by
 refine FCall.pure ((fnk func285 [(5,[34],[(4,10)],[I 0,I 0,I 0,I 0,I 0,I 0,I 0,.bool false,.slice none 0 0,.bool false,.slice none 0 0])] (own:=[3,4,6])) ?_)
 have no:∀ G,h.le G->¬ TermOk vars (l,xs)->h.le G/\K (.tuple #[C3i,.bool false]) h:=fun G l0 n=>⟨l0,hK0 n⟩
 refine Od gl hl (fun q e w D m i=>⟨_,_,_,_,_,_,_,_,_,rfl,?_⟩) (fun n w D m _=>⟨_,_,_,_,_,_,_,_,_,rfl,no D m fun o=>?_⟩)
 ·refine Ct i ⟨_,rfl,C0 (fun F=>no _ m fun o=>?_) (fun F=>?_)⟩
  ·obtain ⟨N,E,n'⟩:=o.num
   exact n' (by rw [<- A4x (e.symm.trans E)];exact F)
  refine D9 (fun u=>no _ m fun o=>u o.len) (fun z=>?_)
  refine ⟨fun l h'=>∃ (k:Nat) (R:List aQ),l=I k::R/\k<=xs.length/\(∀ j,j<k->0<=xs.getD j 0/\xs.getD j 0<=1048576)/\h'=D,fun l _=>xs.length-(iAt l 0).toNat,⟨0,_,rfl,oo,fun j hj=>oo,rfl⟩,?_⟩
  rintro C ad ah aj af ak ae ai H aa L ag O X ac r ⟨k,R,B,hk,p,rfl⟩
  obtain rfl:C=(k:Int):=by simpa using (List.cons.inj B).1
  refine C0 (fun h2=>?_) (fun h2=>?_)
  ·have hkl:k<xs.length:=oo
   refine (se.mono m).load rfl oo oo ?_
   rw [aC]
   refine C0 (fun h3=>no _ m fun o=>?_) (fun h3=>C0 (fun h4=>no _ m fun o=>?_) (fun h4=>?_))
   ·have:=(o.exps _ (Bn hkl)).1;exact absurd this (by show ¬ 0<=xs.getD k 0;omega)
   ·have:=(o.exps _ (Bn hkl)).2;exact absurd this (by show ¬ xs.getD k 0<=1048576;omega)
   ·rw [C1 oo oo]
    refine ⟨⟨k+1,_,rfl,oo,fun j hj=>?_,rfl⟩,by simp only [iAt,aO];omega⟩
    by_cases y:j=k
    ·subst y;omega
    ·exact p j oo
  ·have hkl:k=xs.length:=oo
   subst hkl
   have ok:TermOk vars (l,xs):=⟨⟨q,e,F⟩,z,A7k p⟩
   refine Hw Xi.info fun b hb=>⟨_,rfl,?_⟩
   refine Vj (n:=4) A9c (vs:=[.bool w.s,.slice w.A w.n w.c,.bool w.s2,.slice w.A2 w.n2 w.c2]) rfl rfl (by simp [Nr]) (off:=6) (arr:=[I (0:Int),I (0:Int),I (0:Int),I (0:Int),I (0:Int),I (0:Int),.bool false,.slice none 0 0,.bool false,.slice none 0 0]) dc ?_
   have win:Win .i64 (r.put b (.cells (H9 [I (0:Int),I (0:Int),I (0:Int),I (0:Int),I (0:Int),I (0:Int),.bool false,.slice none 0 0,.bool false,.slice none 0 0] 6 [.bool w.s,.slice w.A w.n w.c,.bool w.s2,.slice w.A2 w.n2 w.c2]).toArray 361)) r b 361 (T9 (some (aE ⟨b,0,none⟩ 0)) 6 0 1) [] [0,0,0,0,0,0] [.bool w.s,.slice w.A w.n w.c,.bool w.s2,.slice w.A2 w.n2 w.c2]:=⟨hb,rfl,.inr rfl⟩
   have l2:r.le _:=win.le
   have t:xs.length<=6:=oo
   refine Dr Iy win rfl ((se.mono m).mono l2) rfl (by simpa using t) fun h5 w5=>⟨_,rfl,?_⟩
   obtain ⟨T,V,W,M,S,Q,e6⟩:=C2p (xs++[0,0,0,0,0,0].drop xs.length) (by simp;omega)
   have g:=w5.eq
   rw [e6] at g
   refine ⟨T,V,W,M,S,Q,_,_,_,_,_,_,_,_,Dt g rfl,Dt g rfl,Dt g rfl,Dt g rfl,Dt g rfl,Dt g rfl,Dt g rfl,Dt g rfl,Dt g rfl,Dt g rfl,B0 m w5.le,?_⟩
   exact hK1 ok T V W M S Q w
 ·obtain ⟨N,E,_⟩:=o.num
  exact n ⟨N,E⟩
end
def Gb{h:aK}{b:Nat}{o:Obj}(e:h b=some o):h.put b o=h:=funext fun k=>by
 unfold Heap.put
 split
 ·rename_i q;subst q;exact e.symm
 ·rfl
def A18:∀ v:Fin 3,∀ d:Fin 4,1<=v.val->1<=nM v d/\nM v d<=10/\(d.val<=2->nM v d<=6):=by decide +kernel
def Sg{v d:Nat}(h1:1<=v)(h2:v<=2)(hd:d<=3):1<=nM v d/\nM v d<=10:=by
 have:=A18 ⟨v,o⟩ ⟨d,o⟩ h1
 exact ⟨this.1,this.2.1⟩
def B1h{n m:Nat}(hn:n<=10)(hm:m<=15):3^n*bnd n m<=9802134/\bnd n m<=166:=by
 have b:n*m<=10*15:=aJ hn hm
 have a:bnd n m<=166:=by unfold bnd;omega
 exact ⟨aJ (aS dc hn) a,a⟩
def rkM(V:Nat->Rat)(v d:Nat):Nat:=(ecE (Kb V v d) (nM v d) (nM v d)).cs.length
section
variable {h:aK} {K:VP} {A B T:Option aL} {c cc tc n m v d D:Nat} {V:Nat->Rat}
def A1g(h1:1<=v)(h2:v<=2)(hd3:d<=3)(d6:D<=6)(hD:2*d<=D):A2l (nM v d) (Kb V v d):=fun i k a b=>by
 unfold Kb
 rw [(Q9 h1 h2 hd3 d6 hD a b).sym]
def FnV.fm(f:FnV h A v D m V)(hd3:d<=3)(hD:2*d<=D)(r:aM SSr h B (nM v d*nM v d) (K8 (Kb V v d) (nM v d))):FM h B (nM v d) (nM v d) m (Kb V v d):=by
 have:=Sg f.v1 f.v2 hd3
 exact ⟨this.1,o,this.1,o,r,fun i j b a=>f.sz _ (Q9 f.v1 f.v2 hd3 f.d6 hD b a).lt⟩
def A44(gl:Gl h)(f:FnV h A v D m V)(hm:m<=15)(hd1:1<=d)(hd3:d<=3)(hD:2*d<=D)(hK:K (.tuple #[I (rkM V v d:Int),.bool ((rkM V v d:Int)==(rkM V v (d-1):Int)),I 0]) h):
 aN prog 105 #[.agg #[I (v:Int),I (D:Int),.slice A (mo v D).length c],I (d:Int)] h K:=by
 have S:=f.d6
 have M:C4 (Int.tdiv (D:Int) 2)=((D/2:Nat):Int):=by
  rw [bF oo,C1 oo oo];omega
 refine FCall.pure ((fnk func105 [(7,[23],[],[I 0])] (own:=[2,9])) ?_)
 refine Ao gl f ⟨_,rfl,Br.nt (C0 (fun e=>oo) (fun _=>?_))⟩
 rw [M]
 refine C0 (fun e=>oo) (fun _=>?_)
 refine Hw (z:=.agg #[I 0,I 0]) (size:=2) (bytes:=16) (by kernel_rfl) fun b p=>⟨_,rfl,?_⟩
 refine ⟨fun L a=>∃ (i:Nat) (x y:Int) (e:bD),i<=2/\L=[I (i:Int)]/\h.le a/\a b=some (.cells #[I x,I y] e)/\(1<=i->x=rkM V v d)/\(2<=i->y=rkM V v (d-1)),fun L _=>2-(iAt L 0).toNat,⟨0,0,0,_,oo,rfl,Heap.le_put _ p,C3 _ _ _,fun e=>oo,fun e=>oo⟩,?_⟩
 rintro z a ⟨i,x,y,T,W,N,g,l,w,Q⟩
 obtain rfl:=sI1 N
 refine C0 (fun C=>?_) (fun B=>?_)
 ·rw [show C4 ((d:Int)-(i:Int))=((d-i:Nat):Int) by rw [C1]<;>omega]
  have r:=f.mono g
  refine Fu (d:=d-i) (gl.mono g) r oo oo fun A1 c1 H j E=>⟨_,_,_,_,_,_,rfl,D9 (fun e=>absurd rfl e) (fun _=>?_)⟩
  have F:=Sg f.v1 f.v2 (show d-i<=3 from oo)
  have R:=B1h F.2 hm
  refine Si (m:=m) (gl.mono (B0 g j)) ((r.mono j).fm oo oo E) (by rw [cG 2];omega) oo ⟨_,_,rfl,⟨oo,oo⟩,?_⟩
  have n:=j _ _ l
  rw [<- Gb n]
  refine Lc ⟨by kernel_rfl,by kernel_rfl⟩ (by simp;omega) ?_
  refine D9 (fun e=>absurd rfl e) (fun _=>?_)
  rw [wiS i oo,aC]
  have t:∀ o,h.le (H.put b o):=fun o k u e=>by
   have G:k≠b:=fun q=>by rw [q,p] at e;cases e
   rw [B9 _ _ G];exact j _ _ (g _ _ e)
  refine ⟨?_,by simp only [R9];omega⟩
  rcases (show i=0\/i=1 from oo) with rfl|rfl
  ·exact ⟨1,_,y,_,oo,rfl,t _,by rw [C3];rfl,fun _=>rfl,fun e=>oo⟩
  ·exact ⟨2,x,_,_,oo,rfl,t _,by rw [C3];rfl,fun _=>w oo,fun _=>rfl⟩
 ·obtain rfl:i=2:=oo
  have s:a.cell? (aE ⟨b,0,none⟩ ((0:Int).toNat*1))=some (I x):=by
   rw [D4];unfold Heap.cell?;rw [l];rfl
  have O:a.cell? (aE ⟨b,0,none⟩ ((1:Int).toNat*1))=some (I y):=by
   rw [D4];unfold Heap.cell?;rw [l];rfl
  refine ⟨dc,_,s,dc,_,s,dc,_,O,g,?_⟩
  rw [w oo,Q oo]
  exact hK
def Sn(gl:Gl h)(f:FnV h A v D m V)(hm:m<=15)(hd3:d<=3)(hD:2*d<=D)(hK1:(∀ k,k<nM v d->Rc (mtx (fl (Kb V v d) (nM v d)) (nM v d)) (nM v d) k)->K (.tuple #[.bool true,I 0]) h)(hK0:(¬ ∀ k,k<nM v d->Rc (mtx (fl (Kb V v d) (nM v d)) (nM v d)) (nM v d) k)->K (.tuple #[.bool false,I 0]) h):
 aN prog 106 #[.agg #[I (v:Int),I (D:Int),.slice A (mo v D).length c],I (d:Int)] h K:=by
 refine FCall.pure ((fnk func106 (own:=[2,6,8])) ?_)
 refine Fu gl f hd3 hD fun A1 c1 C a r=>⟨_,_,_,_,_,_,rfl,D9 (fun e=>absurd rfl e) (fun _=>?_)⟩
 have u:=Sg f.v1 f.v2 hd3
 have E:=B1h u.2 hm
 have x:=(f.mono a).fm hd3 hD r
 have sq:SqOk (nM v d) (nM v d) (nM v d*nM v d) (K8 (Kb V v d) (nM v d)) (nM v d):=⟨x.ok,fun i j g z=>by
  obtain ⟨l,t⟩:=dm1 (i:=i) (show j<nM v d from oo)
  obtain ⟨n,s⟩:=dm1 (i:=j) g
  unfold K8
  rw [l,t,n,s,A1g f.v1 f.v2 hd3 f.d6 hD i j g oo]⟩
 refine A7v (m:=m) (Q:=20000000) (gl.mono a) x.row x.nn (x.len oo) x.szs (fun q mk=>?_) (aD _) fun o b A2 B2 c2 c3 B p w y=>⟨_,_,_,_,_,_,_,_,_,_,rfl,B0 a p,?_⟩
 ·obtain ⟨rfl,_⟩:=Hm mk;omega
 ·by_cases ok:∀ k,k<nM v d->Rc (mtx (rvs (K8 (Kb V v d) (nM v d))) (nM v d)) (nM v d) k
  ·obtain rfl:=b.eq (.inr ⟨_,sq,.inl ⟨ok,rfl⟩⟩)
   rw [S5] at ok
   exact hK1 ok
  ·obtain rfl:=b.eq (.inr ⟨_,sq,.inr ⟨ok,rfl⟩⟩)
   rw [S5] at ok
   exact hK0 ok
end
def MIr:aK->HV->List Int->Prop:=fun h w a=>w.n=a.length/\SlI .i64 h w.A a/\a.length<=6
def A79:Mon MIr:=fun _ _ _ _ l i=>⟨i.1,i.2.1.mono l,i.2.2⟩
def pvL(V:Nat->Rat)(v d:Nat):List Nat:=(ecE (Kb V v d) (nM v d) (nM v d)).cs
def bdr(V:Nat->Rat)(v d:Nat)(i:Nat):List Int:=mon v d ((pvL V v d).getD i 0)
def sqM(V:Nat->Rat)(v d:Nat):Nat->Nat->Rat:=fun i j=>Kb V v d ((pvL V v d).getD i 0) ((pvL V v d).getD j 0)
def ivM(V:Nat->Rat)(v d:Nat):Nat->Nat->Rat:=Sr (fl (sqM V v d) (rkM V v d)) (rkM V v d)
def Ek(V:Nat->Rat)(v d:Nat){i:Nat}(hi:i<rkM V v d):(pvL V v d).getD i 0<nM v d:=
 (EqA.run (n:=nM v d) (w:=nM v d) (Kb V v d) (nM v d) (aD _)).lt _ (O4 hi)
def A95(V:Nat->Rat)(v d:Nat):rkM V v d<=nM v d:=(U8 (Kb V v d) (nM v d) (nM v d)).2
section
variable {h:aK} {K:VP} {A B T:Option aL} {c cc tc n m v d D:Nat} {V:Nat->Rat}
def RowV.mi{f:Nat->List Int}(r:aM MIr h A n f){i:Nat}(hi:i<n):∃ a B bc,A=some a/\h.cell? (aE a (i*1))=some (.slice B (f i).length bc)/\SlI .i64 h B (f i):=by
 obtain ⟨a,w,e,⟨c,d,_⟩,b⟩:=r.at dc hi
 have:=b 0 _ rfl
 rw [Y7,c] at this
 exact ⟨a,_,_,e,this,d⟩
def Vk(h1:1<=v)(h2:v<=2)(hd3:d<=3)(d6:D<=6)(hD:2*d<=D):No (fl (sqM V v d) (rkM V v d)) (rkM V v d):=A9u (A1g h1 h2 hd3 d6 hD)
def Da(gl:Gl h)(f:FnV h A v D m V)(hm1:1<=m)(hm:m<=15)(hd2:d<=2)(hD:2*d<=D)(hr:1<=rkM V v d)
 (hK:∀ BA bc IA ic h',h.le h'->aM MIr h' BA (rkM V v d) (bdr V v d)->aM SSr h' IA (rkM V v d*rkM V v d) (K8 (ivM V v d) (rkM V v d))->K (.tuple #[.agg #[I (v:Int),I (D:Int),.slice A (mo v D).length c,.slice BA (rkM V v d) bc,I (rkM V v d:Int),I (rkM V v d:Int),.slice IA (rkM V v d*rkM V v d) ic],I 0]) h'):
 aN prog 107 #[.agg #[I (v:Int),I (D:Int),.slice A (mo v D).length c],I ((d+1:Nat):Int)] h K:=by
 have d6:=f.d6
 have nb:=Sg f.v1 f.v2 (show d<=3 from o)
 have p:=(A18 ⟨v,by have:=f.v2;omega⟩ ⟨d,o⟩ f.v1).2.2 hd2
 change nM v d<=6 at p
 have bb:=B1h nb.2 hm
 have ah:=A95 V v d
 refine (fnk func107 [(13,[59],[(11,7),(12,3)],[I 0,I 0,I 0,.slice none 0 0,.slice none 0 0,I 0,I 0,.slice none 0 0,I 0,I 0,.slice none 0 0]),(17,[74],[(12,3)],[I 0,I 0,I 0,.slice none 0 0])] (own:=[2,4,6,8,11,12]) (wr:=[1000000000])) ?_
 rw [show C4 (((d+1:Nat):Int)-1)=(d:Int) by rw [C1]<;>omega]
 refine Fu gl f o hD fun A1 c1 h1 O r1=>⟨_,_,_,_,_,_,rfl,D9 (fun e=>absurd rfl e) (fun _=>?_)⟩
 have x:=(f.mono O).fm o hD r1
 refine Ya (m:=m) (gl.mono O) x (by rw [cG 2];omega) o fun b A2 c2 h2 l2 sz=>⟨_,_,_,_,_,_,_,_,_,rfl,D9 (fun e=>absurd rfl e) (fun _=>?_)⟩
 refine Iq f.v1 f.v2 o fun A3 c3 M H s3=>⟨_,_,_,_,rfl,D9 (fun e=>absurd rfl e) (fun _=>?_)⟩
 have aa:=sz.mono H
 have r3:=r1.mono E9 (B0 l2 H)
 have Q:=gl.mono (B0 O (B0 l2 H))
 have hz:∀ i,i<rkM V v d->∃ a,A2=some a/\M.cell? (aE a (i*1))=some (I ((pvL V v d).getD i 0:Int)):=fun i N=>by
  have hl:(zs (pvL V v d)).length=rkM V v d:=by unfold zs;rw [List.length_map];rfl
  obtain ⟨a,e,q⟩:=aa.iat (i:=i) (by show i<(zs (pvL V v d)).length;omega)
  have R:i<(pvL V v d).length:=N
  have e0:(pvL V v d).getD i 0=(pvL V v d)[i]:=by simp [aX,R]
  exact ⟨a,e,by rw [q,e0];simp;rfl⟩
 change SlF h2 A2 (zs (pvL V v d)) at sz
 generalize hF:K8 (sqM V v d) (rkM V v d)=F
 have t:∀ i k,k<rkM V v d->F (i*rkM V v d+k)=E8 (sqM V v d i k):=fun i k hk=>by
  obtain ⟨u,C⟩:=dm1 (i:=i) hk
  rw [<- hF];unfold K8;rw [u,C]
 refine ⟨fun L G=>∃ (i:Nat) (BA:Option aL) (bc:Nat) (SA:Option aL) (s:Nat),i<=rkM V v d/\L=[I (i:Int),I (v:Int),I (D:Int),.slice A (mo v D).length c,.slice BA i bc,I 0,I 0,.slice none 0 0,I (rkM V v d:Int),I (rkM V v d:Int),.slice SA (i*rkM V v d) s]/\Lst2 MIr 22 SSr 9 M G BA bc i (bdr V v d) SA s (i*rkM V v d) F,fun L _=>rkM V v d-(iAt L 0).toNat,⟨0,none,0,none,0,o,by rw [bC];rfl,by rw [bC];exact Lst2.nil⟩,?_⟩
 rintro z q0 q1 qA qn qc pA i pc q4 q5 uA un uc s0 s1 sA sn s G ⟨i0,BA,bc,SA,S,N,E,L⟩
 simp only [aG,aI,aH,true_and,and_true] at E
 obtain ⟨rfl,rfl,rfl,⟨rfl,rfl,rfl⟩,⟨rfl,rfl,rfl⟩,rfl,rfl,⟨rfl,rfl,rfl⟩,rfl,rfl,rfl,rfl,rfl⟩:=E
 refine C0 (fun aj=>?_) (fun am=>?_)
 ·have r:i<rkM V v d:=by unfold rkM;omega
  have T:(i+1)*rkM V v d=i*rkM V v d+rkM V v d:=by rw [bU,bK]
  have ai:(i+1)*rkM V v d<=rkM V v d*rkM V v d:=aF _ r
  have ao:rkM V v d*rkM V v d<=6*6:=aJ o o
  have g:=Ek V v d r
  obtain ⟨a,e,c0⟩:=hz i r
  obtain ⟨u,B,W,e1,ac,s1⟩:=s3.mon g
  refine ⟨a,e,o,o,_,C2 L.le c0,u,e1,o,by unfold nM at g;omega,_,_,_,by rw [aC];exact C2 L.le ac,?_⟩
  refine L.pushG A79 E9 Vi rfl (y:=(⟨B,(mon v d ((pvL V v d).getD i 0)).length,W⟩:HV)) (by rfl) ⟨rfl,s1,?_⟩ dc o fun BA2 ae h5 L5=>?_
  ·have:=((O3 f.v1 f.v2 (show d<=6 from o)).val _ g).2.1
   have:=f.v2
   unfold bdr;omega
  refine ⟨fun L G=>∃ (k:Nat) (SA:Option aL) (s:Nat),k<=rkM V v d/\L=[I (k:Int),I (rkM V v d:Int),I (rkM V v d:Int),.slice SA (i*rkM V v d+k) s]/\Lst2 MIr 22 SSr 9 M G BA2 ae (i+1) (bdr V v d) SA s (i*rkM V v d+k) F,fun L _=>rkM V v d-(iAt L 0).toNat,⟨0,_,_,o,rfl,L5⟩,?_⟩
  rintro z s0 ak tA tn an al ⟨k,SA,S,hk,E,L6⟩
  simp only [aG,aI,aH,true_and,and_true] at E
  obtain ⟨rfl,rfl,rfl,rfl,rfl,rfl⟩:=E
  refine C0 (fun ag=>?_) (fun af=>?_)
  ·have l:k<rkM V v d:=by unfold rkM at *;omega
   have w:=Ek V v d l
   have hq:=R4 g w
   obtain ⟨C,e2,X⟩:=hz k l
   obtain ⟨a3,e3,ad⟩:=r3.sat hq
   have ap:nM v d*nM v d<=6*6:=aJ p p
   have ew:C4 (C4 (((pvL V v d).getD i 0:Int)*(nM v d:Int))+((pvL V v d).getD k 0:Int))=(((pvL V v d).getD i 0*nM v d+(pvL V v d).getD k 0:Nat):Int):=by
    rw [<- Int.natCast_mul,J4 o]
    exact J4 (n:=(pvL V v d).getD i 0*nM v d+(pvL V v d).getD k 0) o
   refine ⟨C,e2,o,o,_,C2 L6.le X,?_⟩
   dsimp only;rw [ew]
   refine ⟨a3,e3,o,o,_,C2 L6.le ad,?_⟩
   refine L6.swap.pushG E9 A79 H0 rfl (y:=K8 (Kb V v d) (nM v d) ((pvL V v d).getD i 0*nM v d+(pvL V v d).getD k 0)) (by rfl) ?_ dc o fun A5 c5 h5 L7=>?_
   ·rw [t i k l]
    obtain ⟨u,C⟩:=dm1 (i:=(pvL V v d).getD i 0) w
    show K8 _ _ _=_
    unfold K8;rw [u,C];rfl
   rw [wiS k o]
   exact ⟨⟨k+1,_,_,o,rfl,L7.swap⟩,by simp only [R9];omega⟩
  ·obtain rfl:k=rkM V v d:=by unfold rkM at *;omega
   rw [wiS i o]
   rw [<- T] at L6 ⊢
   exact ⟨⟨i+1,_,_,_,_,o,rfl,L6⟩,by simp only [R9];omega⟩
 ·obtain rfl:i=rkM V v d:=by unfold rkM at *;omega
  have y:FM G sA (rkM V v d) (rkM V v d) m (sqM V v d):=⟨hr,o,hr,o,by rw [hF];exact L.swap.row E9,fun i j N hj=>x.sz _ _ (Ek V v d N) (Ek V v d hj)⟩
  have g3:=L.le
  refine Us (m:=m) (Q.mono g3) y (Vk f.v1 f.v2 o d6 hD) hm1 ?_ o fun A6 c6 h6 l6 r6=>⟨_,_,_,_,_,_,rfl,hK _ _ _ _ _ (B0 O (B0 l2 (B0 H (B0 g3 l6)))) ((L.row A79).mono A79 l6) r6⟩
  have h1:(rkM V v d+rkM V v d)*m<=12*15:=aJ o hm
  have h2:3^rkM V v d<=3^6:=aS dc o
  have M:3^rkM V v d*bnd (rkM V v d+rkM V v d) m<=729*196:=aJ h2 (by unfold bnd;omega)
  omega
end
section
variable {α β:Type} [E:Enc α] {R:aK->α->β->Prop}
def OwnK.fill(m:Mon R){P:bV}{t:bD}(one:P.cellsOf t=E.default.size/\(P.info? t).isSome=true){h h':aK}{b n k:Nat}{f:Nat->β}(w:OwnK R h h' b n k f)(hk:k<n){v:aQ}{y:α}(hv:v.cells=(enc y).toArray)(hy:R h y (f k)){K:Unit->aK->Prop}
 (x:∀ h2,OwnK R h h2 b n (k+1) f->K () h2):wpH P (bX t (.pointer (some (aE ⟨b,0,none⟩ (k*E.default.size)))) v) K h':=by
 obtain ⟨g,o,i,a,s,d,e,c⟩:=w
 exact OwnK.store m one a (B7 _) s d e c hk hv (m _ _ _ _ a hy) x
end
def t0:({ data:=#[48] }:ByteArray)=bs (E8 0):=by rw [A03];rfl
def t1:({ data:=#[49] }:ByteArray)=bs (E8 1):=by decide +kernel
def zq:aQ:=.agg #[I 0,I 0,.slice none 0 0,.slice none 0 0,I 0,I 0,.slice none 0 0]
section
variable {h:aK} {K:VP} {A B T FA:Option aL} {c cc tc fc n m m2 v d D:Nat} {V F:Nat->Rat}
def Dq(hv:v<=6){l1:Int}{l2n l2c:Nat}(hK:∀ b h',Own SSr h h' b v (fun _=>E8 0)->K (.slice (some ⟨b,0,none⟩) v v) h'):aN prog 60 #[.agg #[I (v:Int),I l1,.slice A l2n l2c]] h K:=by
 refine (fnk func60 [(3,[12],[],[I 0])] (own:=[1])) ?_
 rw [iN (show ¬ (0:Int)>(v:Int) from o),iN (show ¬ (6:Int)<(v:Int) from o)]
 refine I3 H0 (zx:=([]:List UInt8)) rfl o o o o ?_
 intro b e
 refine ⟨_,_,_,rfl,fun L c=>∃ k:Nat,k<=v/\L=[I k]/\OwnK SSr h c b v k (fun _=>E8 0),fun L _=>v-(iAt L 0).toNat,⟨0,o,rfl,OwnK.zero e⟩,?_⟩
 rintro t c ⟨k,i,g,w⟩
 obtain rfl:=sI1 g
 refine C0 (fun d=>?_) (fun a=>?_)
 ·refine ⟨_,rfl,o,by simpa using d,?_⟩
  refine w.fill E9 K0 (y:=E8 0) o (by rw [t0];rfl) rfl fun j f=>?_
  rw [wiS k o]
  exact ⟨⟨k+1,o,rfl,f⟩,by simp only [R9];omega⟩
 ·obtain rfl:k=v:=by simp at a;omega
  exact hK b c w.own
def psd(V:Nat->Rat)(v d:Nat):Prop:=∀ k,k<nM v d->Rc (mtx (fl (Kb V v d) (nM v d)) (nM v d)) (nM v d) k
def Dp{var:Int}{pos:Bool}(gl:Gl h)(f:FnV h A v D m V)(hm1:1<=m)(hm:m<=15)(hd3:d<=3)(fr:aM SSr h FA v (fun i=>E8 (F i)))(sF:∀ i,i<v->Sz m2 (F i))(hm2:m2<=1000000)
 (h3:d<1\/D<2*d\/(v:Int)<=var->K (.tuple #[zq,I 3]) h)
 (h11:1<=d->2*d<=D->var<v->¬ (rkM V v d=rkM V v (d-1)/\1<=rkM V v d/\(pos=true->psd V v d))->K (.tuple #[zq,I 11]) h)
 (hK:∀ d',d=d'+1->2*d<=D->var<v->rkM V v d=rkM V v d'->1<=rkM V v d'->(pos=true->psd V v d)->∀ BA bc IA ic h',h.le h'->aM MIr h' BA (rkM V v d') (bdr V v d')->aM SSr h' IA (rkM V v d'*rkM V v d') (K8 (ivM V v d') (rkM V v d'))->K (.tuple #[.agg #[I (v:Int),I (D:Int),.slice A (mo v D).length c,.slice BA (rkM V v d') bc,I (rkM V v d':Int),I (rkM V v d':Int),.slice IA (rkM V v d'*rkM V v d') ic],I 0]) h'):
 aN prog 59 #[.agg #[I (v:Int),I (D:Int),.slice A (mo v D).length c],I (d:Int),I var,.slice FA v fc,.bool pos] h K:=by
 have O:=f.v1;have X:=f.v2;have R:=f.d6
 have y:C4 (Int.tdiv (D:Int) 2)=((D/2:Nat):Int):=by
  rw [bF o,C1 o o];omega
 refine (fnk func59 [(4,[25],[(10,7)],[I 0,I 0,I 0,.slice none 0 0,.slice none 0 0,I 0,I 0,.slice none 0 0])] (own:=[5,10])) ?_
 refine Ao gl f ⟨_,rfl,Br.nt ?_⟩
 refine ⟨fun L q=>∃ k:Nat,k<=v/\L=[I (k:Int),I 0,I 0,.slice none 0 0,.slice none 0 0,I 0,I 0,.slice none 0 0]/\q=h,fun L _=>v-(iAt L 0).toNat,⟨0,o,rfl,rfl⟩,?_⟩
 rintro z a0 a1 aA an N E G bc T S Q W B q ⟨k,M,p,rfl⟩
 simp only [aG,aI,aH,true_and,and_true] at p
 obtain ⟨rfl,rfl,rfl,⟨rfl,rfl,rfl⟩,⟨rfl,rfl,rfl⟩,rfl,rfl,rfl,rfl,rfl⟩:=p
 refine C0 (fun w=>?_) (fun u=>?_)
 ·have g:k<v:=o
  obtain ⟨a,e,c0⟩:=fr.sat g
  refine ⟨a,e,o,o,_,by rw [aC];exact c0,?_⟩
  refine Nx gl (Tx.of (sF k g) o).len (fun _=>⟨_,rfl,Br.nt ?_⟩) (fun no=>absurd ⟨F k,rfl⟩ no)
  rw [wiS k o]
  exact ⟨⟨k+1,o,rfl,rfl⟩,by simp only [R9];omega⟩
 ·rw [y]
  refine C0 (fun e=>h3 o) (fun n1=>C0 (fun e=>h3 o) (fun n2=>C0 (fun e=>h3 o) (fun C=>D9 (fun e=>absurd rfl e) (fun _=>?_))))
  obtain ⟨d',rfl⟩:∃ d',d=d'+1:=⟨d-1,o⟩
  have b:2*(d'+1)<=D:=o
  refine A44 gl f hm o hd3 b ⟨_,_,_,rfl,D9 (fun e=>absurd rfl e) (fun _=>?_)⟩
  refine Br.not (D5 (fun n=>?_) (fun n=>h11 o b o fun x=>n (by rw [x.1])))
  have t:rkM V v (d'+1)=rkM V v d':=by simpa using Int.ofNat.inj n
  refine C0 (fun e=>h11 o b o fun x=>o) (fun H=>?_)
  refine Br.of (fun j=>?_) (fun j=>?_)
  ·refine Sn gl f hm hd3 b (fun ok=>⟨_,_,rfl,D9 (fun e=>absurd rfl e) (fun _=>Br.nt ?_)⟩) (fun no=>⟨_,_,rfl,D9 (fun e=>absurd rfl e) (fun _=>Zp (h11 o b o fun x=>no (x.2.2 j)))⟩)
   exact Da gl f hm1 hm o o o fun BA bc IA ic h' l r s=>⟨_,_,_,_,_,_,_,_,_,_,_,_,_,_,rfl,hK d' rfl b o t o (fun _=>ok) BA bc IA ic h' l r s⟩
  ·exact Da gl f hm1 hm o o o fun BA bc IA ic h' l r s=>⟨_,_,_,_,_,_,_,_,_,_,_,_,_,_,rfl,hK d' rfl b o t o (fun x=>by rw [j] at x;cases x) BA bc IA ic h' l r s⟩
end
def Yb(a b:List Int):List Int:=opL (fun x y=>x+y) a b
def mpx(a b:List Int)(j:Nat):List Int:=(Yb a b).set j ((Yb a b).getD j 0+1)
def mi3(a b:List Int)(j:Nat):Nat:=(Ut (mpx a b j)).toNat
def C0d(v d D:Nat):Bool:=
 (bM (mo v d).length).all fun i=>(bM (mo v d).length).all fun k=>(bM v).all fun j=>
  decide ((Yb (mon v d i) (mon v d k)).length=v)&&decide (mpx (mon v d i) (mon v d k) j=mon v D (mi3 (mon v d i) (mon v d k) j))&&decide (mi3 (mon v d i) (mon v d k) j<(mo v D).length)&&decide (mi3 (mon v d i) (mon v d k) j=mi3 (mon v d k) (mon v d i) j)&&decide ((Yb (mon v d i) (mon v d k)).getD j 0<=100/\0<=(Yb (mon v d i) (mon v d k)).getD j 0)
def B0g:∀ v:Fin 3,∀ d:Fin 3,∀ D:Fin 7,1<=v.val->2*d.val+1<=D.val->C0d v d D=true:=by decide +kernel
structure Mu3 (v d D i k j:Nat):Prop where
 len:(Yb (mon v d i) (mon v d k)).length=v
 eq:mpx (mon v d i) (mon v d k) j=mon v D (mi3 (mon v d i) (mon v d k) j)
 lt:mi3 (mon v d i) (mon v d k) j<(mo v D).length
 sym:mi3 (mon v d i) (mon v d k) j=mi3 (mon v d k) (mon v d i) j
 b:(Yb (mon v d i) (mon v d k)).getD j 0<=100/\0<=(Yb (mon v d i) (mon v d k)).getD j 0
def mu3{v d D i k j:Nat}(h1:1<=v)(h2:v<=2)(hd:d<=2)(hD:D<=6)(hdD:2*d+1<=D)(hi:i<nM v d)(hk:k<nM v d)(hj:j<v):Mu3 v d D i k j:=by
 have:=B0g ⟨v,o⟩ ⟨d,o⟩ ⟨D,o⟩ h1 hdD
 simp only [C0d,Bool.and_eq_true,decide_eq_true_eq,bN,cK] at this
 obtain ⟨⟨⟨⟨a,b⟩,c⟩,d⟩,e⟩:=this i hi k hk j hj
 exact ⟨a,b,c,d,e⟩
def B7x(V F:Nat->Rat)(v d n i k:Nat):Rat:=sm n fun j=>F j*V (mi3 (bdr V v d i) (bdr V v d k) j)
def A02(V F:Nat->Rat)(v d:Nat):Nat->Nat->Rat:=fun i k=>B7x V F v d v i k
def fmM(V F:Nat->Rat)(v d:Nat):Nat->Nat->Rat:=C0b (rkM V v d) (ivM V v d) (A02 V F v d)
structure Quo (h:aK) (A BA IA:Option aL) (v D m d:Nat) (V:Nat->Rat):Prop where
 fn:FnV h A v D m V
 d2:d<=2
 dD:2*d+2<=D
 r1:1<=rkM V v d
 m1:1<=m
 m15:m<=15
 bd:aM MIr h BA (rkM V v d) (bdr V v d)
 iv:aM SSr h IA (rkM V v d*rkM V v d) (K8 (ivM V v d) (rkM V v d))
def Quo.mono{h h':aK}{A BA IA:Option aL}{v D m d:Nat}{V:Nat->Rat}(l:h.le h')(q:Quo h A BA IA v D m d V):Quo h' A BA IA v D m d V:=⟨q.fn.mono l,q.d2,q.dD,q.r1,q.m1,q.m15,q.bd.mono A79 l,q.iv.mono E9 l⟩
def Quo.r6{h:aK}{A BA IA:Option aL}{v D m d:Nat}{V:Nat->Rat}(q:Quo h A BA IA v D m d V):rkM V v d<=6:=by
 have a:=(A18 ⟨v,by have:=q.fn.v2;omega⟩ ⟨d,by have:=q.d2;omega⟩ q.fn.v1).2.2 q.d2
 have b:=A95 V v d
 change nM v d<=6 at a
 omega
abbrev B7y(A BA IA:Option aL)(c bc ic v D r:Nat):aQ:=.agg #[I (v:Int),I (D:Int),.slice A (mo v D).length c,.slice BA r bc,I (r:Int),I (r:Int),.slice IA (r*r) ic]
section
variable {h:aK} {K:VP} {A BA IA FA:Option aL} {c bc ic fc m mf mq v d D:Nat} {V F:Nat->Rat}
def Es(gl:Gl h)(q:Quo h A BA IA v D m d V)(fr:aM SSr h FA v (fun i=>E8 (F i)))(sF:∀ i,i<v->Sz mf (F i))(hmf:15<=mf/\mf<=1000000)
 (hs:∀ i k,i<rkM V v d->k<rkM V v d->Sz mq (ivM V v d i k)/\Sz mq (A02 V F v d i k)) (hq1:1<=mq) (hq:mq<=1000000)
 (hK:∀ A' c' h',h.le h'->aM SSr h' A' (rkM V v d*rkM V v d) (K8 (fmM V F v d) (rkM V v d))->K (.tuple #[Dx (rkM V v d) (rkM V v d) A' (rkM V v d*rkM V v d) c',I 0]) h'):
 aN prog 123 #[B7y A BA IA c bc ic v D (rkM V v d),.slice FA v fc] h K:=by
 have v1:=q.fn.v1;have v2:=q.fn.v2;have d6:=q.fn.d6;have d2:=q.d2;have dD:=q.dD;have r1:=q.r1;have r6:=q.r6
 have az:rkM V v d*rkM V v d<=6*6:=aJ r6 r6
 refine (fnk func123 [(6,[44],[(8,3)],[I 0,I 0,I 0,.slice none 0 0]),(9,[51],[(8,3)],[I 0,I 0,I 0,.slice none 0 0]),(14,[15,63],[],[.string ⟨#[]⟩,I 0])] (own:=[2,4,8])) ?_
 refine Iq v1 v2 d6 fun A1 c1 h1 l1 s1=>⟨_,_,_,_,rfl,D9 (fun e=>absurd rfl e) (fun _=>?_)⟩
 have q1:=q.mono l1
 have f1:=q1.fn
 have fr1:=fr.mono E9 l1
 have O:=gl.mono l1
 generalize hG:K8 (A02 V F v d) (rkM V v d)=G
 have X:∀ i k,k<rkM V v d->G (i*rkM V v d+k)=E8 (A02 V F v d i k):=fun i k hk=>by
  obtain ⟨a1,a2⟩:=dm1 (i:=i) hk
  rw [<- hG];unfold K8;rw [a1,a2]
 refine ⟨fun L r=>∃ (i:Nat) (A':Option aL) (c':Nat),i<=rkM V v d/\L=[I (i:Int),I (rkM V v d:Int),I (rkM V v d:Int),.slice A' (i*rkM V v d) c']/\Lst SSr 9 h1 r A' c' (i*rkM V v d) G,fun L _=>rkM V v d-(iAt L 0).toNat,⟨0,none,0,oo,by rw [bC];rfl,by rw [bC];exact Lst.nil⟩,?_⟩
 rintro z m0 m1 mA mn mc r ⟨i,A',c',hi,E,L⟩
 simp only [aG,aI,aH,true_and,and_true] at E
 obtain ⟨rfl,rfl,rfl,rfl,rfl,rfl⟩:=E
 refine C0 (fun ar=>?_) (fun ay=>?_)
 ·have R:i<rkM V v d:=oo
  have ae:(i+1)*rkM V v d=i*rkM V v d+rkM V v d:=by rw [bU,bK]
  have aq:(i+1)*rkM V v d<=rkM V v d*rkM V v d:=aF _ R
  obtain ⟨a,B,b2,e,c0,s0⟩:=q1.bd.mi R
  refine ⟨_,e,oo,oo,_,_,_,by rw [aC];exact C2 L.le c0,?_⟩
  refine ⟨fun L r=>∃ (k:Nat) (A':Option aL) (c':Nat),k<=rkM V v d/\L=[I (k:Int),I (rkM V v d:Int),I (rkM V v d:Int),.slice A' (i*rkM V v d+k) c']/\Lst SSr 9 h1 r A' c' (i*rkM V v d+k) G,fun L _=>rkM V v d-(iAt L 0).toNat,⟨0,mA,mc,oo,rfl,L⟩,?_⟩
  rintro z m0 m1 au av a0 ax ⟨k,A2,c2,hk,E,L2⟩
  simp only [aG,aI,aH,true_and,and_true] at E
  obtain ⟨rfl,rfl,rfl,rfl,rfl,rfl⟩:=E
  refine C0 (fun ap=>?_) (fun ao=>?_)
  ·have M:k<rkM V v d:=oo
   obtain ⟨a3,B3,a7,e3,c3,al⟩:=q1.bd.mi M
   refine ⟨_,e3,oo,oo,_,_,_,by rw [aC];exact C2 L2.le c3,?_⟩
   have W:=Ek V v d R
   have aa:=Ek V v d M
   have qq:=Q9 v1 v2 (show d<=3 from oo) d6 (show 2*d<=D from oo) W aa
   refine L2.call E9 fun g lg=>Sm (s0.mono lg) (al.mono lg) (fun no=>by have:=qq.pair;unfold bdr at no;rw [no] at this;cases this) fun _ b N=>⟨Heap.le_put _ N,fun C _ L3=>⟨_,_,_,_,rfl,?_⟩⟩
   have L4:=L3.weak (B0 lg (Heap.le_put _ N))
   have m3:∀ j,j<v->Mu3 v d D ((pvL V v d).getD i 0) ((pvL V v d).getD k 0) j:=fun j p=>mu3 v1 v2 d2 d6 oo W aa p
   have u:=(m3 0 oo).len
   have S:bdr V v d i=mon v d ((pvL V v d).getD i 0):=rfl
   have ac:bdr V v d k=mon v d ((pvL V v d).getD k 0):=rfl
   rw [<- S,<- ac] at u
   change ∀ j,j<v->_ at m3
   generalize hP:opL (fun x y=>x+y) (bdr V v d i) (bdr V v d k)=P0 at *
   have Q:Yb (bdr V v d i) (bdr V v d k)=P0:=hP
   rw [Q] at u
   have hx:C b=some (.cells (P0.map I).toArray 3):=L3.le _ _ (C3 _ _ _)
   have eh:C=blk .i64 3 (fun x=>if x=b then none else C x) b P0:=funext fun x=>by
    unfold blk Heap.put
    by_cases f:x=b
    ·rw [iP f,f];exact hx
    ·rw [iN f]
     show C x=if x=b then none else C x
     rw [iN f]
   generalize hH:(fun x=>if x=b then none else C x:aK)=H at eh
   have aj:H b=none:=by rw [<- hH];exact iP rfl
   have ai:g.le H:=fun x o ho=>by
    have f:x≠b:=fun q=>by rw [q,N] at ho;cases ho
    rw [<- hH]
    show (if x=b then none else C x)=_
    rw [iN f]
    exact L3.le _ _ (by rw [B9 _ _ f];exact ho)
   have lH:=B0 lg ai
   have lB:∀ zs,h1.le (blk .i64 3 H b zs):=fun zs=>B0 lH (Cm aj zs)
   have ad:∀ n,n<=v->Sz (5*mf) (B7x V F v d n i k):=fun n hn=>(Jr (w:=v) (m:=mf) (f2:=fun j=>V (mi3 (bdr V v d i) (bdr V v d k) j)) (fun j p=>sF j p) (fun j p=>(f1.sz _ (m3 j p).lt).mono (by have:=q.m15;omega)) n hn).mono (by
    have:n*(2*mf+1)<=2*(2*mf+1):=aF _ oo
    omega)
   refine ⟨fun L r=>∃ (j:Nat),j<=v/\L=[.string (bs (E8 (B7x V F v d j i k))),I (j:Int)]/\r=C,fun L _=>v-(iAt L 1).toNat,⟨0,oo,by rw [t0];rfl,rfl⟩,?_⟩
   rintro a6 z r ⟨j,p,E,rfl⟩
   simp only [aG,aI,Value.string.injEq,true_and,and_true] at E
   obtain ⟨rfl,rfl⟩:=E
   have next:C4 ((j:Int)+1)=((j+1:Nat):Int)\/v<=j:=by
    by_cases l:v<=j
    ·exact .inr l
    ·left;rw [C1]<;>omega
   refine C0 (fun an=>?_) (fun am=>?_)
   ·have l:j<v:=oo
    have next:C4 ((j:Int)+1)=((j+1:Nat):Int):=next.resolve_right oo
    obtain ⟨a4,e4,c4⟩:=(fr1.mono E9 L4.le).sat l
    refine ⟨_,e4,oo,oo,_,by rw [aC];exact c4,?_⟩
    dsimp only;rw [eq0]
    refine C0 (fun hz=>?_) (fun hz=>?_)
    ·have:B7x V F v d (j+1) i k=B7x V F v d j i k:=by
      show B7x V F v d j i k+F j*_=_
      rw [hz,aZ,Rat.add_zero]
     rw [next]
     exact ⟨⟨j+1,oo,by rw [this],rfl⟩,by simp only [iAt,aT,aO];omega⟩
    ·obtain ⟨M3len,M3eq,M3lt,M3sym,M3b⟩:=m3 j l
     rw [<- S,<- ac] at M3eq M3lt M3b
     have e0:mpx (bdr V v d i) (bdr V v d k) j=P0.set j (P0.getD j 0+1):=by unfold mpx;rw [Q]
     rw [e0] at M3eq
     rw [Q] at M3b
     have sP:SlI .i64 r (some ⟨b,0,none⟩) P0:=by rw [eh];exact Aw _ _ _ _ _
     refine sP.load rfl oo oo ⟨_,rfl,oo,oo,?_⟩
     rw [aC,eh]
     have ew:C4 (P0.getD j 0+1)=P0.getD j 0+1:=C1 oo oo
     rw [ew]
     refine V7 Cd oo ?_
     have ah:P0.length=(mon v D (mi3 (bdr V v d i) (bdr V v d k) j)).length:=by rw [<- M3eq,cI]
     have t:SlI .i64 (blk .i64 3 H b (P0.set j (P0.getD j 0+1))) (some ⟨b,0,none⟩) (P0.set j (P0.getD j 0+1)):=Aw _ _ _ _ _
     have aw:P0.length=P0.length:=rfl
     have s:=lB (P0.set j (P0.getD j 0+1))
     have af:=t
     rw [M3eq] at af
     have ag:∀ {n:Nat} {K:VP},n=(mon v D (mi3 (bdr V v d i) (bdr V v d k) j)).length->K (.tuple #[I (mi3 (bdr V v d i) (bdr V v d k) j:Int),.bool true]) (blk .i64 3 H b (P0.set j (P0.getD j 0+1)))->aN prog 174 #[.slice A1 (mo v D).length c1,.slice (some ⟨b,0,none⟩) n n,.func (.func 175) #[] #[]] (blk .i64 3 H b (P0.set j (P0.getD j 0+1))) K:=fun {n K} hn hk=>by
      subst hn
      exact Lj v1 v2 d6 ((s1.mono s)) M3lt (by rw [M3eq] at t ⊢;exact t) hk
     refine ag ah ⟨_,_,rfl,?_⟩
     obtain ⟨a5,e5,c5⟩:=(f1.row.mono E9 s).sat M3lt
     refine ⟨_,e5,oo,oo,_,by rw [aC];exact c5,?_⟩
     have T:=(f1.sz _ M3lt).mono (show m<=5*mf by have:=q.m15;omega)
     refine Ed (m:=5*mf) (O.mono s) (Tx.of ((sF j l).mono oo) oo) (Tx.of T oo) oo ⟨_,rfl,?_⟩
     rw [G1,G1]
     have ak:Sz (10*mf) (F j*V (mi3 (bdr V v d i) (bdr V v d k) j)):=(((sF j l).mono (show mf<=5*mf from oo)).mul T).mono oo
     refine Kz (m:=10*mf) (O.mono s) (Tx.of ((ad j oo).mono oo) oo) (Tx.of ak oo) oo ⟨_,rfl,?_⟩
     rw [G1,G1]
     refine t.load (by rw [cI]) oo oo ⟨_,rfl,oo,oo,?_⟩
     have eg:(P0.set j (P0.getD j 0+1)).getD j 0=P0.getD j 0+1:=by simp [aX,List.getElem?_set,show j<P0.length from oo]
     rw [aC,eg,show C4 (P0.getD j 0+1-1)=P0.getD j 0 by rw [C1]<;>omega]
     refine V7 Cd (by rw [cI];omega) ?_
     have e9:(P0.set j (P0.getD j 0+1)).set j (P0.getD j 0)=P0:=by
      rw [List.set_set]
      refine List.ext_getElem (by simp) fun n h1 h2=>?_
      rw [List.getElem_set]
      split
      ·rename_i q;subst q;simp [aX,h2]
      ·rfl
     rw [e9,next]
     exact ⟨⟨j+1,oo,rfl,rfl⟩,by simp only [iAt,aT,aO];omega⟩
   ·obtain rfl:j=v:=oo
    refine L4.push E9 H0 rfl (y:=E8 (A02 V F j d i k)) (by rfl) (X i k M).symm dc oo fun A5 c5 h5 L5=>?_
    rw [wiS k oo]
    exact ⟨⟨k+1,_,_,oo,rfl,L5⟩,by simp only [R9];omega⟩
  ·obtain rfl:k=rkM V v d:=oo
   rw [wiS i oo]
   rw [<- ae] at L2 ⊢
   exact ⟨⟨i+1,_,_,oo,rfl,L2⟩,by simp only [R9];omega⟩
 ·obtain rfl:i=rkM V v d:=oo
  have x:FM r IA (rkM V v d) (rkM V v d) mq (ivM V v d):=⟨r1,oo,r1,oo,q1.iv.mono E9 L.le,fun i j hi p=>(hs i j hi p).1⟩
  have y:FM r mA (rkM V v d) (rkM V v d) mq (A02 V F v d):=⟨r1,oo,r1,oo,by rw [hG];exact L.row E9,fun i j hi p=>(hs i j hi p).2⟩
  refine Wb (m:=mq) (O.mono L.le) x y hq1 ?_ fun A6 c6 h6 l6 r6=>⟨_,_,_,_,_,_,rfl,hK _ _ _ (B0 l1 (B0 L.le l6)) r6⟩
  have:rkM V v d*(2*mq+1)<=6*(2*mq+1):=aF _ r6
  omega
end
section
variable {α β:Type} [E:Enc α] {R:aK->α->β->Prop}
def Own.set(m:Mon R){P:bV}{t:bD}(one:P.cellsOf t=E.default.size/\(P.info? t).isSome=true){h h':aK}{b n k:Nat}{f:Nat->β}(w:Own R h h' b n f)(hk:k<n){v:aQ}{y:α}(hv:v.cells=(enc y).toArray){z:β}(hy:R h y z){K:Unit->aK->Prop}
 (x:∀ h2,Own R h h2 b n (fun i=>if i=k then z else f i)->K () h2):wpH P (bX t (.pointer (some (aE ⟨b,0,none⟩ (k*E.default.size)))) v) K h':=by
 obtain ⟨g,o,r,a,s,j,p,q⟩:=w.ex
 refine Q1 one hv s j oo ?_
 intro h2 l u e d c
 exact x h2 ⟨g,l,_,a,d,c,by simpa using p,q.upd oo (m _ _ _ _ a hy)⟩
end
section
variable {h:aK} {N:Nat}
def A0p{K:VP}{b0:Nat}(hb0:h b0=none)(hN:1<=N)(hl:N<=1000000)(hK:∀ b h',(h.put b0 (.cells #[.string ({ data:=#[48] }:ByteArray)] 9)).le h'->Own SSr h h' b N (fun _=>E8 0)->K (.slice (some ⟨b,0,none⟩) N N) h'):
 aN prog 116 #[.slice (some ⟨b0,0,none⟩) 1 1,I (N:Int)] (h.put b0 (.cells #[.string ({ data:=#[48] }:ByteArray)] 9)) K:=by
 refine Pv (SlV.new _ _ _ _ _ _ (fun i v a=>by simpa using a)) hN hl fun b h' d s e=>hK b h' s.le ⟨_,d,aU N (E8 0),Heap.le_put _ hb0,s,⟨_,by rw [e,Xq,<- t0]⟩,by simp,fun i c=>⟨_,by rw [List.getElem?_replicate,iP c],rfl⟩⟩
end
structure MV where
 r:Int
 c:Int
 A:Option aL
 n:Nat
 cap:Nat
instance:Enc MV:=⟨⟨fun w=>[I w.r,I w.c,.slice w.A w.n w.cap],3,fun _=>rfl,fun w v hv=>by simp at hv;rcases hv with rfl|rfl|rfl<;>rfl⟩⟩
def MVr(r:Nat):aK->MV->(Nat->Rat)->Prop:=fun h w x=>w.r=r/\w.c=1/\w.n=r/\aM SSr h w.A r (fun i=>E8 (x i))
def Sk(r:Nat):Mon (MVr r):=fun _ _ _ _ l i=>⟨i.1,i.2.1,i.2.2.1,i.2.2.2.mono E9 l⟩
def RowV.mv{h:aK}{A:Option aL}{n r:Nat}{f:Nat->Nat->Rat}(x:aM (MVr r) h A n f){i:Nat}(hi:i<n):∃ a B cc,A=some a/\h.cell? (aE (aE a (i*3)) 0)=some (I (r:Int))/\h.cell? (aE (aE a (i*3)) 1)=some (I 1)/\h.cell? (aE (aE a (i*3)) 2)=some (.slice B r cc)/\aM SSr h B r (fun k=>E8 (f i k)):=by
 obtain ⟨a,w,e,⟨d,j,g,c⟩,b⟩:=x.at dc hi
 exact ⟨a,w.A,w.cap,e,by rw [<- d];exact b 0 _ rfl,by rw [<- j];exact b 1 _ rfl,by rw [<- g];exact b 2 _ rfl,c⟩
def kpw(M:Nat->Nat->Rat)(r:Nat):Nat->Nat->Rat
 | 0=>fun i=>if i=0 then 1 else 0
 | k+1=>fun i=>sm r fun t=>M i t*kpw M r k t
section
variable {h:aK} {K:VP} {A:Option aL} {c r mq:Nat} {M:Nat->Nat->Rat}
def Qj(gl:Gl h)(x:FM h A r r mq M)(hr:r<=6)(hs:∀ k,k<=r->∀ i,i<r->Sz mq (kpw M r k i))(hq1:1<=mq)(hq:mq<=1000000)
 (hK:∀ KA kc h',h.le h'->aM (MVr r) h' KA (r+1) (kpw M r)->K (.tuple #[.agg #[.slice KA (r+1) kc],I 0]) h'):
 aN prog 131 #[Dx r r A (r*r) c] h K:=by
 have B:=x.r1
 refine (fnk func131 [(5,[23],[(2,1),(5,1)],[I 0,.slice none 0 0,.slice none 0 0])] (os:=[(1,[0,1,3,4,7,2,5,6,8]),(6,[0,1,2,3,4,5,6,7,8,13,9,10,11,12,14,15])]) (own:=[1,2,4,5,6])) ?_
 refine Q7 H0 rfl fun b0 l=>⟨_,_,_,rfl,Heap.le_put _ l,?_⟩
 refine A0p l B o fun b h1 lb own=>⟨_,_,_,rfl,lb,_,rfl,o,o,?_⟩
 refine own.set E9 K0 (k:=0) o (y:=E8 1) (by rw [t1];rfl) (z:=E8 1) rfl fun u d=>?_
 have S:=d.le
 have m:aM SSr u (some ⟨b,0,none⟩) r (fun i=>E8 (kpw M r 0 i)):=(d.vis E9).congr fun i _=>by
  show (if i=0 then E8 1 else E8 0)=E8 (if i=0 then 1 else 0)
  split<;>rfl
 refine Iw (R:=MVr r) (f:=kpw M r) B8f (y:=(⟨(r:Int),1,some ⟨b,0,none⟩,r,r⟩:MV)) (by rfl) dc ⟨rfl,rfl,rfl,m⟩ fun b2 h3 l3 L=>⟨_,_,_,rfl,?_⟩
 refine ⟨fun L G=>∃ (k:Nat) (A':Option aL) (p:Nat),k<=r/\L=[I (k:Int),.slice none 0 0,.slice A' (k+1) p]/\Lst (MVr r) 64 u G A' p (k+1) (kpw M r),fun L _=>r-(iAt L 0).toNat,⟨0,_,_,o,rfl,L⟩,?_⟩
 rintro z zA zn zc kA kn kc G ⟨k,A',p,hk,F,L⟩
 simp only [aG,aI,aH,true_and,and_true] at F
 obtain ⟨rfl,⟨rfl,rfl,rfl⟩,rfl,rfl,rfl⟩:=F
 refine C0 (fun X=>?_) (fun T=>?_)
 ·have aa:k<r:=o
  have ew:C4 (((k+1:Nat):Int)-1)=(k:Int):=by rw [C1]<;>omega
  rw [ew,aC]
  obtain ⟨g,D,Lg,cell⟩:=L.base dc
  obtain ⟨a,w,e,⟨W,w2,w3,V⟩,s⟩:=cell k o
  have E:=s 0 _ rfl
  have N:=s 1 _ rfl
  have q:=s 2 _ rfl
  rw [W] at E;rw [w2] at N;rw [w3] at q
  refine ⟨a,e,o,o,_,_,_,_,_,E,N,q,?_⟩
  have y:FM g w.A r 1 mq (fun i _=>kpw M r k i):=⟨B,o,aD _,o,(by rw [cF];exact V.congr fun i _=>by unfold K8;rw [Nat.div_one]),fun i j Q hj=>hs k o i Q⟩
  have H:=B0 S D
  have O:r*(2*mq+1)<=6*(2*mq+1):=aF _ hr
  refine Lg.call (Sk r) fun g' n=>?_
  have t:=fun K'=>Wb (K:=K') (c:=c) (c2:=w.cap) (gl.mono (B0 H n)) (x.mono (B0 H n)) (y.mono n) hq1 o
  simp only [cF] at t
  refine t _ fun A5 c5 q C r5=>⟨C,fun h5 l6 L5=>⟨_,_,_,_,_,_,rfl,l6,D9 (fun e=>absurd rfl e) (fun _=>?_)⟩⟩
  refine L5.push (Sk r) B8f rfl (y:=(⟨(r:Int),1,A5,r,c5⟩:MV)) (by rfl) ⟨rfl,rfl,rfl,r5.congr fun i Q=>?_⟩ dc o fun A6 c6 h6 L6=>?_
  ·show E8 (C0b r M (fun i _=>kpw M r k i) (i/1) (i%1))=E8 (kpw M r (k+1) i)
   rw [Nat.div_one];rfl
  rw [wiS k o]
  exact ⟨⟨k+1,_,_,o,rfl,L6.weak (B0 D (B0 n C))⟩,by simp only [R9];omega⟩
 ·obtain rfl:k=r:=o
  exact hK _ _ _ (B0 S L.le) (L.row (Sk k))
end
def SB(r m:Nat):Prop:=∀ n,n<=r->2*(3^n*bnd (n+1) m)+1<=40000000/\7^n*m<=40000000
def Ng(f:Nat->Nat->Rat):Nat->Nat->Rat:=fun i j=>f j i
section
variable {h:aK} {K:VP} {A KA:Option aL} {c kc nk n r mq:Nat} {M:Nat->Nat->Rat} {f:Nat->Nat->Rat}
def Ak(x:aM (MVr r) h KA nk f)(h1:1<=nk)(hn:n<=nk)(hr:r<=64)(hnk:nk<=64)(hK:∀ A' c' h',h.le h'->aM SSr h' A' (r*n) (K8 (Ng f) n)->K (Dx r n A' (r*n) c') h'):
 aN prog 110 #[.agg #[.slice KA nk kc],I (n:Int)] h K:=by
 refine (fnk func110 [(4,[18],[(6,3)],[I 0,I 0,I 0,.slice none 0 0]),(7,[22],[(6,3)],[I 0,I 0,I 0,.slice none 0 0])] (own:=[2,4,6]) (wr:=[1000000000])) ?_
 obtain ⟨a,B,cc,e,Q,_⟩:=x.mv (i:=0) o
 refine ⟨a,e,o,o,_,Q,?_⟩
 generalize hG:K8 (Ng f) n=G
 have b:∀ i k,k<n->G (i*n+k)=E8 (f k i):=fun i k t=>by
  obtain ⟨p,q⟩:=dm1 (i:=i) t
  rw [<- hG];unfold K8 Ng;rw [p,q]
 rw [hG] at hK
 have C:r*n<=64*64:=aJ hr o
 refine ⟨fun L g=>∃ (i:Nat) (A':Option aL) (c':Nat),i<=r/\L=[I (i:Int),I (r:Int),I (n:Int),.slice A' (i*n) c']/\Lst SSr 9 h g A' c' (i*n) G,fun L _=>r-(iAt L 0).toNat,⟨0,none,0,o,by rw [bC];rfl,by rw [bC];exact Lst.nil⟩,?_⟩
 rintro z T W X mn O g ⟨i,A',c',hi,c,L⟩
 simp only [aG,aI,aH,true_and,and_true] at c
 obtain ⟨rfl,rfl,rfl,rfl,rfl,rfl⟩:=c
 refine C0 (fun F=>?_) (fun A=>?_)
 ·have d:i<r:=o
  have l:(i+1)*n=i*n+n:=by rw [bU,bK]
  have N:(i+1)*n<=r*n:=aF _ d
  refine ⟨fun L g=>∃ (k:Nat) (A':Option aL) (c':Nat),k<=n/\L=[I (k:Int),I (r:Int),I (n:Int),.slice A' (i*n+k) c']/\Lst SSr 9 h g A' c' (i*n+k) G,fun L _=>n-(iAt L 0).toNat,⟨0,X,O,o,rfl,L⟩,?_⟩
  rintro z T W D E V S ⟨k,A2,c2,t,c,L2⟩
  simp only [aG,aI,aH,true_and,and_true] at c
  obtain ⟨rfl,rfl,rfl,rfl,rfl,rfl⟩:=c
  refine C0 (fun w=>?_) (fun u=>?_)
  ·have j:k<n:=o
   obtain ⟨p,B1,H,e1,_,_,M,s⟩:=x.mv (i:=k) o
   obtain ⟨q,R,m⟩:=s.sat d
   refine ⟨p,e1,o,o,_,_,_,by rw [aC];exact C2 L2.le M,q,R,o,o,_,by rw [aC];exact C2 L2.le m,?_⟩
   refine L2.pushG E9 H0 rfl (y:=E8 (f k i)) (by rfl) (b i k j).symm dc o fun A5 c5 h5 L5=>?_
   rw [wiS k o]
   exact ⟨⟨k+1,_,_,o,rfl,L5⟩,by simp only [R9];omega⟩
  ·obtain rfl:k=n:=o
   rw [wiS i o]
   rw [<- l] at L2 ⊢
   exact ⟨⟨i+1,_,_,o,rfl,L2⟩,by simp only [R9];omega⟩
 ·obtain rfl:i=r:=o
  exact hK _ _ _ L.le (L.row E9)
def A61(r1:1<=r)(hr:r<=6)(hn1:1<=n)(hn:n<=r+1)(hs:∀ k,k<=r->∀ i,i<r->Sz mq (f k i))(x:aM SSr h A (r*n) (K8 (Ng f) n)):FM h A r n mq (Ng f):=
 ⟨r1,o,hn1,o,x,fun i j a b=>hs j o i a⟩
def Iu(M:Nat->Nat->Rat)(r:Nat):Nat:=(ecE (Ng (kpw M r)) r r).cs.length
def B3h(M:Nat->Nat->Rat)(r:Nat):Nat->Rat:=Qf (fl (Ng (kpw M r)) (Iu M r)) (kpw M r (Iu M r)) r (Iu M r)
def Pz(M:Nat->Nat->Rat)(r:Nat):Nat->Rat:=fun i=>if i=Iu M r then 1 else-B3h M r i
def B7g(M:Nat->Nat->Rat)(r:Nat):Iu M r<=r:=(U8 (Ng (kpw M r)) r r).2
def SB.rank{n:Nat}(s:SB r mq)(hn:n<=r):2*(3^n*bnd n mq)+1<=100000000:=by
 have b:=(s n hn).1
 have a:bnd n mq<=bnd (n+1) mq:=by unfold bnd;rw [bU,bK];omega
 have:=aR (3^n) a
 omega
def Td(gl:Gl h)(x:FM h A r r mq (Ng (kpw M r)))(sb:SB r mq)(hq:mq<=1000000)(hK:K (.tuple #[I (Iu M r:Int),I 0]) h):aN prog 109 #[Dx r r A (r*r) c] h K:=Si gl x (sb.rank (aD _)) o hK
def Uv(gl:Gl h)(x:aM (MVr r) h KA (r+1) (kpw M r))(r1:1<=r)(hr:r<=6)(hs:∀ k,k<=r->∀ i,i<r->Sz mq (kpw M r k i))(hq1:1<=mq)(hq:mq<=1000000)(sb:SB r mq)(hd:1<=Iu M r)(ok:Cq (fl (Ng (kpw M r)) (Iu M r)) (kpw M r (Iu M r)) r (Iu M r))
 (hx:∀ i,i<Iu M r->Sz 10000000 (B3h M r i))
 (hK:∀ A' c' h',h.le h'->aM SSr h' A' (Iu M r+1) (fun i=>E8 (Pz M r i))->K (.tuple #[.slice A' (Iu M r+1) c',I 0]) h'):
 aN prog 62 #[.agg #[.slice KA (r+1) kc]] h K:=by
 have d:=B7g M r
 refine (fnk func62 [(10,[49],[],[I 0])] (os:=[(5,[0,1,3,4,5,6,7,8,2,9,10,11,12,13,14,15,16])]) (own:=[1])) ?_
 obtain ⟨a,B,cc,e,E,_⟩:=x.mv (i:=0) o
 refine ⟨a,e,o,o,_,E,?_⟩
 refine Ak x o o o o fun A1 c1 h1 f F=>⟨_,_,_,_,_,rfl,?_⟩
 refine Td (gl.mono f) (A61 r1 hr r1 o hs F) sb hq ⟨_,_,rfl,D9 (fun e=>absurd rfl e) (fun _=>?_)⟩
 obtain ⟨V,B2,W,N,_,_,C,m⟩:=(x.mono (Sk r) f).mv (i:=Iu M r) o
 refine ⟨V,N,o,o,_,_,_,C,?_⟩
 refine Ak (x.mono (Sk r) f) o (show Iu M r<=r+1 from o) o o fun A3 c3 h3 l H=>⟨_,_,_,_,_,rfl,l,?_⟩
 refine Hl (gl.mono (B0 f l)) (A61 r1 hr hd o hs H) (m.mono E9 l) (fun i s=>hs _ d i s) ok hq1 ⟨(sb _ d).1,(sb _ (aD _)).1,(sb _ d).2,(sb _ (aD _)).2⟩ fun A5 c5 B5 X d5 G p O=>⟨_,_,_,_,_,_,_,rfl,p,D9 (fun e=>absurd rfl e) (fun _=>?_)⟩
 rw [show C4 (((Iu M r:Nat):Int)+1)=((Iu M r+1:Nat):Int) by rw [C1]<;>omega]
 refine I3 H0 (zx:=([]:List UInt8)) rfl o o o o fun b A=>⟨_,_,_,rfl,?_⟩
 rw [aC]
 have n:∀ i,i<Iu M r->Pz M r i= - B3h M r i:=fun i s=>by unfold Pz;rw [iN o]
 refine ⟨fun L q=>∃ k:Nat,k<=Iu M r/\L=[I k]/\OwnK SSr G q b (Iu M r+1) k (fun i=>E8 (Pz M r i)),fun L _=>Iu M r-(iAt L 0).toNat,⟨0,o,rfl,OwnK.zero A⟩,?_⟩
 rintro z q ⟨k,hk,Q,w⟩
 obtain rfl:=sI1 Q
 have g:=B0 f (B0 l p)
 refine C0 (fun u=>?_) (fun t=>?_)
 ·have c:k<Iu M r:=o
  obtain ⟨S,D,c6⟩:=(O.mono E9 w.le).sat c
  refine ⟨S,D,o,o,_,by rw [aC];exact c6,?_⟩
  have R:=hx k c
  refine A8o (gl.mono (B0 g w.le)) (Tx.of R o).len ⟨_,rfl,_,rfl,o,o,?_⟩
  rw [G1,aC]
  refine w.fill E9 K0 (y:=E8 (Pz M r k)) o (by rw [n k c];rfl) rfl fun T j=>?_
  rw [wiS k o]
  exact ⟨⟨k+1,o,rfl,j⟩,by simp only [R9];omega⟩
 ·obtain rfl:k=Iu M r:=o
  refine ⟨_,rfl,o,o,?_⟩
  rw [aC]
  refine w.fill E9 K0 (y:=E8 (Pz M r (Iu M r))) o (by rw [t1];unfold Pz;rw [iP rfl];rfl) rfl fun T j=>?_
  exact hK _ _ _ (B0 g j.le) (j.own.vis E9)
end
structure KB (V F:Nat->Rat) (v d mq:Nat):Prop where
 iv:∀ i k,i<rkM V v d->k<rkM V v d->Sz mq (ivM V v d i k)
 vl:∀ i k,i<rkM V v d->k<rkM V v d->Sz mq (A02 V F v d i k)
 fm:∀ i k,i<rkM V v d->k<rkM V v d->Sz mq (fmM V F v d i k)
 pw:∀ k,k<=rkM V v d->∀ i,i<rkM V v d->Sz mq (kpw (fmM V F v d) (rkM V v d) k i)
def frm(c:Nat):Nat->Rat
 | 0=>1
 | i+1=>(c:Rat)*frm c i
def Ud{h h':aK}{A:Option aL}{xs:List aQ}(s:SlV h A xs)(hc:∀ a v,v∈xs->h.cell? a=some v->h'.cell? a=some v):SlV h' A xs:=by
 rcases s with rfl|⟨a,rfl,e⟩
 ·exact .inl rfl
 ·exact .inr ⟨a,rfl,fun i v b=>hc _ _ (List.mem_of_getElem? b) (e i v b)⟩
section
variable {h:aK} {K:VP} {A BA IA FA:Option aL} {c bc ic fc m mf mq v d D:Nat} {V F:Nat->Rat}
def Yt(gl:Gl h)(q:Quo h A BA IA v D m d V)(fr:aM SSr h FA v (fun i=>E8 (F i)))(sF:∀ i,i<v->Sz mf (F i))(hmf:15<=mf/\mf<=1000000)(kb:KB V F v d mq)(hq1:1<=mq)(hq:mq<=1000000)
 (hK:∀ KA kc h',h.le h'->aM (MVr (rkM V v d)) h' KA (rkM V v d+1) (kpw (fmM V F v d) (rkM V v d))->K (.tuple #[.agg #[.slice KA (rkM V v d+1) kc],I 0]) h'):
 aN prog 88 #[B7y A BA IA c bc ic v D (rkM V v d),.slice FA v fc] h K:=by
 refine (fnk func88 (own:=[2,4,6])) ?_
 refine Es gl q fr sF hmf (fun i k f a=>⟨kb.iv i k f a,kb.vl i k f a⟩) hq1 hq fun A1 c1 p b l=>⟨_,_,_,_,_,_,rfl,D9 (fun e=>absurd rfl e) (fun _=>?_)⟩
 have:=q.r6
 exact Qj (gl.mono b) ⟨q.r1,o,q.r1,o,l,kb.fm⟩ q.r6 kb.pw hq1 hq fun KA kc n j g=>⟨_,_,_,_,rfl,hK _ _ _ (B0 b j) g⟩
end
def C36:List aQ->Nat
 | [.string b]=>(rv b.data.toList).num.toNat
 | _=>0
def B2h(k:Nat):C36 [.string (bs (E8 (k:Rat)))]=k:=by
 show (rv (bs (E8 (k:Rat))).data.toList).num.toNat=k
 have:(bs (E8 (k:Rat))).data.toList=E8 (k:Rat):=by simp [bs]
 rw [this,G1]
 simp
def A0e{k:Nat}(hk:k<=1000):Sz 10 (k:Rat):=by
 refine ⟨?_,?_⟩
 ·show ((k:Rat).num).natAbs<_
  simp;omega
 ·show (((k:Rat).den:Nat):Int).natAbs<_
  simp
def A8r{k:Nat}(hk:k<=1000):∀ i,Sz (10*i+1) (frm k i):=by
 intro i
 induction i with
 | zero=>exact ⟨ZB.one o,ZB.one o⟩
 | succ i ih=>exact ((A0e hk).mul ih).mono o
def A3m{h g0:aK}{f0:aL}{v N:Nat}(hg:Gl g0)(e0:g0.cell? f0=some (I (v:Int)))(h1:1<=v)(h2:v<=6)(hN:N<=999){B:List aQ->aK->(aK->Prop)->(aK->Prop)->Prop}{K KR:aK->Prop}(J:Nat->aK->Prop)(JR:aK->Prop)(hJ:J 0 h)(hle:∀ k h,J k h->g0.le h)
 (hB:∀ k h1 h2 A c,k<=N->J k h1->h1.le h2->aM SSr h2 A v (fun i=>E8 (frm k i))->B [.slice A v c] h2 (fun h3=>k<N/\J (k+1) h3) JR) (hK:∀ h1,JR h1->KR h1):A69 prog (.func (.func 149) #[] #[.pointer (some f0)]) h B K KR:=by
 refine ⟨149,#[],#[.pointer (some f0)],rfl,Ve,?_⟩
 intro l rec hl p
 have O:(#[] ++ #[.func (.yield l) #[] #[]] ++ #[.pointer (some f0)]:Array aQ)=#[.func (.yield l) #[] #[],.pointer (some f0)]:=by simp
 rw [O]
 refine (fnk func149 [(2,[3],[],[.string ⟨#[]⟩]),(4,[4,10],[],[.slice none 0 0,I 0])]) ?_
 refine ⟨fun L g=>∃ (k:Nat) (h1:aK),k<=N/\L=[.string (bs (E8 (k:Rat)))]/\h1 l=none/\g=h1.put l (.loop rec)/\J k h1,fun L _=>N+1-C36 L,⟨0,h,oo,by rw [t0];rfl,hl,rfl,hJ⟩,?_⟩
 rintro cs g ⟨k,n,hk,F,w,rfl,W⟩
 obtain rfl:cs=bs (E8 (k:Rat)):=by simpa using F
 have T:=B0 (hle k n W) (Heap.le_put (.loop rec) w)
 refine Iw (R:=SSr) (f:=fun i=>E8 (frm k i)) H0 (y:=E8 1) (by rw [t1];rfl) dc rfl fun b h3 l3 L=>⟨_,_,_,rfl,_,C2 (B0 T l3) e0,?_⟩
 refine ⟨fun L g=>∃ (j:Nat) (A':Option aL) (D:Nat),j+1<=v/\L=[.slice A' (j+1) D,I (j:Int)]/\Lst SSr 9 (n.put l (.loop rec)) g A' D (j+1) (fun i=>E8 (frm k i)),fun L _=>v-(iAt L 1).toNat,⟨0,_,_,h1,rfl,L⟩,?_⟩
 rintro S fn fc z g ⟨j,A',D,hj,F,L⟩
 obtain ⟨⟨rfl,rfl,rfl⟩,rfl⟩:=sI2 F
 rw [show C4 ((v:Int)-1)=((v-1:Nat):Int) by rw [C1]<;>omega]
 refine C0 (fun aa=>?_) (fun X=>?_)
 ·rw [show C4 (((j+1:Nat):Int)-1)=(j:Int) by rw [C1]<;>omega]
  obtain ⟨a,O,c0⟩:=(L.row E9).sat (show j<j+1 from oo)
  refine ⟨a,O,oo,oo,_,c0,?_⟩
  have sf:=(A8r (k:=k) oo j).mono (show 10*j+1<=100 from oo)
  refine Ed (m:=100) (hg.mono (B0 T L.le)) (Tx.of ((A0e oo).mono oo) oo) (Tx.of sf oo) oo ⟨_,rfl,?_⟩
  rw [G1,G1]
  refine L.push E9 H0 rfl (y:=E8 (frm k (j+1))) (by rfl) rfl dc oo fun A5 c5 C L5=>?_
  rw [wiS j oo]
  exact ⟨⟨j+1,_,_,oo,rfl,L5⟩,by simp only [iAt,aT,aO];omega⟩
 ·obtain rfl:v=j+1:=oo
  have V:g l=some (.loop rec):=L.le _ _ (C3 _ _ _)
  let H:aK:=fun x=>if x=l then none else g x
  have eh:g=H.put l (.loop rec):=funext fun x=>by
   unfold Heap.put
   by_cases d:x=l
   ·rw [iP d,d];exact V
   ·rw [iN d]
    show g x=if x=l then none else g x
    rw [iN d]
  have M:H l=none:=iP rfl
  have lH:n.le H:=fun x o G=>by
   have d:x≠l:=fun q=>by rw [q,w] at G;cases G
   show (if x=l then none else g x)=_
   rw [iN d]
   exact L.le _ _ (by rw [B9 _ _ d];exact G)
  have row:aM SSr H S (j+1) (fun i=>E8 (frm k i)):=by
   obtain ⟨xs,s,hn,r⟩:=L.row E9
   refine ⟨xs,Ud s fun a u _ e=>?_,hn,r⟩
   unfold Heap.cell? at e ⊢
   by_cases d:a.block=l
   ·rw [d,V] at e;cases e
   ·show (match (if a.block=l then none else g a.block) with|some (.cells c _ _)=>_|_=>_)=_
    rw [iN d];exact e
  rw [eh]
  refine (p _ H (fun h3=>k<N/\J (k+1) h3) JR M (hB k n H S fc hk W lH row)).mono ?_
  rintro r h4 ⟨C,t,⟨rfl,rfl,ac,Q⟩|⟨rfl,rfl,jr⟩⟩
  ·refine ⟨_,rfl,Br.nt ?_⟩
   have E:=B0 (hle _ C Q) (Heap.le_put (.loop rec) t)
   rw [t1]
   refine Kz (m:=100) (hg.mono E) (Tx.of ((A0e oo).mono oo) oo) (Tx.of (m:=100) ⟨ZB.one oo,ZB.one oo⟩ oo) oo ⟨_,rfl,?_⟩
   rw [G1,G1,show ((k:Rat)+1)=((k+1:Nat):Rat) by simp]
   exact ⟨⟨k+1,C,oo,rfl,t,rfl,Q⟩,by simp only [B2h];omega⟩
  ·exact ⟨_,rfl,Zp ⟨C,t,.inr ⟨rfl,hK _ jr⟩⟩⟩
def Pres(h h':aK):Prop:=∀ a v,v ≠ .slice none 0 0->v≠I 0->h.cell? a=some v->h'.cell? a=some v
def Pres.put{h:aK}{b:Nat}{u x:aQ}{e e':bD}(hb:h b=some (.cells #[u] e))(hu:u= .slice none 0 0\/u=I 0):Pres h (h.put b (.cells #[x] e')):=fun a v f g c=>by
 unfold Heap.cell? at c ⊢
 by_cases d:a.block=b
 ·grind
 ·rw [B9 _ _ d];exact c
def RowV.presS{h h':aK}{A:Option aL}{n:Nat}{f:Nat->List UInt8}(p:Pres h h')(x:aM SSr h A n f):aM SSr h' A n f:=by
 obtain ⟨d,s,g,r⟩:=x
 refine ⟨d,Ud s fun a v c e=>?_,g,r⟩
 obtain ⟨w,_,b⟩:=List.mem_flatMap.1 c
 obtain rfl:v= .string (bs w):=List.mem_singleton.1 b
 exact p _ _ (by simp) (by simp) e
def RowV.presM{h h':aK}{A:Option aL}{n r:Nat}{f:Nat->Nat->Rat}(p:Pres h h')(hr:1<=r)(x:aM (MVr r) h A n f):aM (MVr r) h' A n f:=by
 obtain ⟨y,s,z,q⟩:=x
 refine ⟨y,Ud s fun a v u e=>?_,z,fun i t=>?_⟩
 ·obtain ⟨w,g,d⟩:=List.mem_flatMap.1 u
  obtain ⟨i,t,C⟩:=List.mem_iff_getElem.1 g
  obtain ⟨b,E,m,k,l,j⟩:=q i o
  obtain rfl:b=w:=gz0
  obtain ⟨B,D,_⟩:=j.sat (i:=0) o
  have d:v∈([I b.r,I b.c,.slice b.A b.n b.cap]:List aQ):=d
  simp only [List.mem_cons,List.not_mem_nil,or_false] at d
  rcases d with rfl|rfl|rfl
  ·exact p _ _ (by simp) gz0 e
  ·exact p _ _ (by simp) gz0 e
  ·exact p _ _ gz0 (by simp) e
 ·obtain ⟨w,e,m,k,l,j⟩:=q i t
  exact ⟨w,e,m,k,l,j.presS p⟩
def C2i{h:aK}{b b1 b2 b3:Nat}{o o1 o2 o3:Obj}(hb:h b=none)(hb1:(h.put b o) b1=none)(hb2:((h.put b o).put b1 o1) b2=none)(hb3:(((h.put b o).put b1 o1).put b2 o2) b3=none):
 ∃ H:aK,(((h.put b o).put b1 o1).put b2 o2).put b3 o3=H/\h.le H/\H b=some o/\H b1=some o1/\H b2=some o2/\H b3=some o3/\b1≠b2/\b1≠b3/\b2≠b3/\h b1=none/\h b2=none/\h b3=none:=by
 have e:b1≠b:=fun q=>by rw [q,C3] at hb1;cases hb1
 have f:b2≠b1:=fun q=>by rw [q,C3] at hb2;cases hb2
 have d:b2≠b:=fun q=>by rw [q,B9 _ _ (Ne.symm e),C3] at hb2;cases hb2
 have g:b3≠b2:=fun q=>by rw [q,C3] at hb3;cases hb3
 have c:b3≠b1:=fun q=>by rw [q,B9 _ _ (Ne.symm f),C3] at hb3;cases hb3
 have a:b3≠b:=fun q=>by rw [q,B9 _ _ (Ne.symm d),B9 _ _ (Ne.symm e),C3] at hb3;cases hb3
 refine ⟨_,rfl,B0 (Heap.le_put _ hb) (B0 (Heap.le_put _ hb1) (B0 (Heap.le_put _ hb2) (Heap.le_put _ hb3))),?_,?_,?_,C3 _ _ _,Ne.symm f,Ne.symm c,Ne.symm g,?_,?_,?_⟩
 ·rw [B9 _ _ (Ne.symm a),B9 _ _ (Ne.symm d),B9 _ _ (Ne.symm e),C3]
 ·rw [B9 _ _ (Ne.symm c),B9 _ _ (Ne.symm f),C3]
 ·rw [B9 _ _ (Ne.symm g),C3]
 ·rwa [B9 _ _ e] at hb1
 ·rwa [B9 _ _ f,B9 _ _ d] at hb2
 ·rwa [B9 _ _ g,B9 _ _ c,B9 _ _ a] at hb3
def Du{h:aK}{b i:Nat}{cs:Array aQ}{e:bD}{v:aQ}(hb:h b=some (.cells cs e))(hv:cs[i]? = some v):h.cell? (aE ⟨b,0,none⟩ i)=some v:=by
 rw [D4];unfold Heap.cell?;grind
def A45{h g:aK}{b:Nat}{o:Obj}(l:h.le g)(hb:h b=none):h.le (g.put b o):=fun k u e=>by
 rw [B9 _ _ (fun q=>gz0)];exact l _ _ e
section
variable {h:aK} {K:VP} {A BA IA:Option aL} {c bc ic m mq v d D N:Nat} {V:Nat->Rat}
def Ox(gl:Gl h)(q:Quo h A BA IA v D m d V)(hN:N<=999)(kb:∀ k,k<=N->KB V (frm k) v d mq)(hq1:1<=mq)(hq:mq<=1000000)(sb:SB (rkM V v d) mq)
 (hno:∀ k,k<N->Iu (fmM V (frm k) v d) (rkM V v d)≠rkM V v d) (hyes:Iu (fmM V (frm N) v d) (rkM V v d)=rkM V v d)
 (hK:∀ FA fc KA kc h',h.le h'->aM SSr h' FA v (fun i=>E8 (frm N i))->aM (MVr (rkM V v d)) h' KA (rkM V v d+1) (kpw (fmM V (frm N) v d) (rkM V v d))->K (.tuple #[.slice FA v fc,.agg #[.slice KA (rkM V v d+1) kc],I 0]) h'):
 aN prog 61 #[B7y A BA IA c bc ic v D (rkM V v d)] h K:=by
 have v1:=q.fn.v1;have v2:=q.fn.v2;have p:=q.r1;have r6:=q.r6
 refine (fnk func61 (rs:=[(3,[.slice none 0 0]),(1000003,[])]) (own:=[6]) (wr:=[1000000000])) ?_
 refine Pc fun b hb=>⟨_,rfl,?_⟩
 refine Hw (z:=.slice none 0 0) (size:=1) (bytes:=24) (by kernel_rfl) fun j aa=>⟨_,rfl,?_⟩
 refine Hw (z:=.agg #[.slice none 0 0]) (size:=1) (bytes:=24) (by kernel_rfl) fun t T=>⟨_,rfl,?_⟩
 refine Hw (z:=I 0) (size:=1) (bytes:=8) (by kernel_rfl) fun r ac=>⟨_,rfl,?_⟩
 obtain ⟨H,eH,F,f0,f1,f2,f3,y,B,w,x1,x2,x3⟩:=C2i hb aa T ac
 rw [eH]
 refine ⟨(v:Int),by exact Du f0 rfl,?_⟩
 refine (fnk func108) ?_
 refine Pc fun S X=>⟨_,rfl,_,rfl,?_⟩
 have O:=Heap.le_put (h:=H) (.cells (cH (I (v:Int))) 3) X
 have e4:(H.put S (.cells (cH (I (v:Int))) 3)).cell? ⟨S,0,none⟩=some (I (v:Int)):=by rw [D7];rfl
 generalize H.put S (.cells (cH (I (v:Int))) 3)=H4 at O e4 ⊢
 have R:=B0 F O
 refine A3m (g0:=H4) (N:=N) (gl.mono R) e4 v1 o hN (fun k hx=>H4.le hx) (fun g=>∃ FA fc KA kc,g.cell? ⟨j,0,none⟩=some (.slice FA v fc)/\g.cell? (aE ⟨t,0,none⟩ 0)=some (.slice KA (rkM V v d+1) kc)/\g.cell? ⟨r,0,none⟩=some (I 0)/\h.le g/\aM SSr g FA v (fun i=>E8 (frm N i))/\aM (MVr (rkM V v d)) g KA (rkM V v d+1) (kpw (fmM V (frm N) v d) (rkM V v d))) (B7 _) (fun _ _ l=>l) ?_ ?_
 ·intro k h1 h2 FA fc hk W L row
  have lh:=B0 W L
  have f:=B0 O lh
  have g0:=f _ _ f0
  refine ⟨_,_,_,rfl,_,_,_,_,_,_,_,_,_,_,_,_,_,Du g0 rfl,Du g0 rfl,Du g0 rfl,Du g0 rfl,Du g0 rfl,Du g0 rfl,Du g0 rfl,?_⟩
  have q2:=q.mono (B0 F f)
  have C:=gl.mono (B0 F f)
  refine Yt (mf:=100) C q2 row (fun i hi=>(A8r o i).mono o) o (kb k hk) hq1 hq fun KA kc h3 l3 r3=>⟨_,_,_,_,rfl,D9 (fun e=>absurd rfl e) (fun _=>?_)⟩
  have g3:=l3 _ _ g0
  refine ⟨_,_,_,Du g3 rfl,?_⟩
  refine Ak r3 o o o o fun A4 c4 E l5 r4=>⟨_,_,_,_,_,rfl,?_⟩
  have a:=B0 l3 l5
  refine Td (C.mono a) (A61 p r6 p o (kb k hk).pw r4) sb hq ⟨_,_,rfl,D9 (fun e=>absurd rfl e) (fun _=>?_)⟩
  have g4:=a _ _ g0
  refine ⟨_,_,_,Du g4 rfl,?_⟩
  refine D5 (fun e=>?_) (fun e=>?_)
  ·obtain rfl:k=N:=by
    grind
   have k1:=a _ _ (f _ _ f1)
   have k2:=a _ _ (f _ _ f2)
   have k3:=a _ _ (f _ _ f3)
   have M:=B0 (B0 F f) a
   have s:=row.mono E9 a
   have G:=r3.mono (Sk _) l5
   rw [<- Gb k1]
   refine Am (by kernel_rfl) (by kernel_rfl) rfl rfl dc ?_
   obtain ⟨H5,e5,P5,c5,k25,k35,l5'⟩:∃ H5,E.put j (.cells ((cH (.slice none 0 0)).setIfInBounds 0 (.slice FA v fc)) _)=H5/\Pres E H5/\H5 j=some (.cells #[.slice FA v fc] _)/\H5 t=E t/\H5 r=E r/\h.le H5:=
    ⟨_,rfl,Pres.put k1 (.inl rfl),C3 _ _ _,B9 _ _ (Ne.symm y),B9 _ _ (Ne.symm B),A45 M x1⟩
   rw [e5]
   rw [k2] at k25
   rw [k3] at k35
   rw [<- Gb k25]
   refine Vj (off:=0) (n:=1) (arr:=[.slice none 0 0]) (vs:=[.slice KA (rkM V v d+1) kc]) ⟨by kernel_rfl,by kernel_rfl⟩ rfl rfl (fun u hu=>by rw [List.mem_singleton.1 hu];rfl) dc ?_
   obtain ⟨H6,e6,P6,c6,k16,k36,l6'⟩:∃ H6,H5.put t (.cells (H9 [.slice none 0 0] 0 [.slice KA (rkM V v d+1) kc]).toArray _)=H6/\Pres H5 H6/\H6 t=some (.cells #[.slice KA (rkM V v d+1) kc] _)/\H6 j=H5 j/\H6 r=H5 r/\h.le H6:=
    ⟨_,rfl,Pres.put k25 (.inl rfl),C3 _ _ _,B9 _ _ y,B9 _ _ (Ne.symm w),A45 l5' x2⟩
   rw [e6]
   rw [k35] at k36
   rw [c5] at k16
   rw [<- Gb k36]
   refine Am (by kernel_rfl) (by kernel_rfl) rfl rfl dc ?_
   refine ⟨FA,fc,KA,kc,?_,?_,?_,A45 l6' x3,((s.presS P5).presS P6).presS (Pres.put k36 (.inr rfl)),((G.presM P5 p).presM P6 p).presM (Pres.put k36 (.inr rfl)) p⟩
   ·unfold Heap.cell?
    rw [B9 _ _ B,k16];rfl
   ·rw [D4];unfold Heap.cell?
    rw [B9 _ _ w,c6];rfl
   ·unfold Heap.cell?
    rw [C3];rfl
  ·have Q:k<N:=by
    grind
   exact ⟨Q,B0 lh a⟩
 grind
end
def trN(f:Nat->Rat):Nat->Nat
 | 0=>0
 | n+1=>if f n=0 then trN f n else n+1
def uni(j:Nat):Nat->Rat:=fun i=>if i=j then 1 else 0
section
variable {h:aK} {K:VP} {A BA IA KA:Option aL} {c bc ic kc m mq n v d D:Nat} {V f:Nat->Rat}
def Qb{j:Nat}(gl:Gl h)(q:Quo h A BA IA v D m d V)(hj:j<v)(kb:∀ i k,i<rkM V v d->k<rkM V v d->Sz mq (ivM V v d i k)/\Sz mq (A02 V (uni j) v d i k))(hq1:1<=mq)(hq:mq<=1000000)
 (hK:∀ A' c' h',h.le h'->aM SSr h' A' (rkM V v d*rkM V v d) (K8 (fmM V (uni j) v d) (rkM V v d))->K (.tuple #[Dx (rkM V v d) (rkM V v d) A' (rkM V v d*rkM V v d) c',I 0]) h'):
 aN prog 72 #[B7y A BA IA c bc ic v D (rkM V v d),I (j:Int)] h K:=by
 have n:=q.fn.v1;have s:=q.fn.v2
 refine (fnk func72 (own:=[2,4])) ?_
 refine Q7 H0 rfl fun b0 e=>⟨_,_,_,rfl,?_⟩
 refine A0p e n o fun b r u own=>⟨_,_,_,rfl,_,rfl,o,o,?_⟩
 refine own.set E9 K0 (k:=j) hj (y:=E8 1) (by rw [t1];rfl) (z:=E8 1) rfl fun l a=>?_
 have f:=a.le
 have row:aM SSr l (some ⟨b,0,none⟩) v (fun i=>E8 (uni j i)):=(a.vis E9).congr fun i _=>by
  show (if i=j then E8 1 else E8 0)=E8 (if i=j then 1 else 0)
  grind
 refine Es (mf:=100) (gl.mono f) (q.mono f) row (fun i _=>?_) o kb hq1 hq fun A1 c1 t p g=>⟨_,_,_,_,_,_,rfl,hK _ _ _ (B0 f p) g⟩
 unfold uni
 split
 ·exact ⟨ZB.one o,ZB.one o⟩
 ·exact Sz.zero o
def Rh(gl:Gl h)(x:aM SSr h A n (fun i=>E8 (f i)))(hn:n<=65)(hs:∀ i,i<n->Sz m (f i))(hm:m<=40000000)
 (hK:∀ A' c' h',h.le h'->aM SSr h' A' (trN f n) (fun i=>E8 (f i))->K (.tuple #[.slice A' (trN f n) c',I 0]) h'):aN prog 113 #[.slice A n c] h K:=by
 refine (fnk func113) ?_
 refine Cu gl x o (fun i E=>(Tx.of (hs i E) hm).len) (fun _ b j own=>⟨_,_,_,_,rfl,Br.nt ?_⟩) (fun no=>absurd (fun i _=>⟨_,rfl⟩) no)
 have F:=own.le
 have H:aM RQr j (some ⟨b,0,none⟩) n f:=(own.vis G2).congr fun i _=>G1 _
 refine (fnk func158 [(1,[0],[],[.slice none 0 0])]) ?_
 have s:∀ {k d:Nat} {VA:Option aL} {K':VP},k<=n->aM RQr j VA k f->(∀ q g,j.le g->aM SSr g (some ⟨q,0,none⟩) k (fun i=>E8 (f i))->K' (.slice (some ⟨q,0,none⟩) k k) g)->aN prog 155 #[.slice VA k d] j K':=fun {k d VA K'} C r kk=>
  V3 (gl.mono F) r o (fun i E=>hs i o) hm fun q g D=>kk q g D.le (D.vis E9)
 refine ⟨fun L z=>∃ (k:Nat) (VA:Option aL) (d:Nat),k<=n/\k<=d/\L=[.slice VA k d]/\z=j/\aM RQr j VA k f/\trN f k=trN f n,fun L _=>match L with|[.slice _ k _]=>k|_=>0,⟨n,_,_,aD _,aD _,rfl,rfl,H,rfl⟩,?_⟩
 rintro VA k d z ⟨W,VA0,M,C,t,S,rfl,r,R⟩
 obtain ⟨rfl,rfl,rfl⟩:=S
 have done:trN f k=k->aN prog 155 #[.slice VA k d] z (fun N u=>∃ (t23A:Option aL) (t23n:Nat) (t23c:Nat),N= .slice t23A t23n t23c/\aN prog 209 #[.slice t23A t23n t23c] u (fun B p=>∃ (t25:Bool),B= .bool t25/\Br (!t25) (∃ (a:Option aL) (b c:Nat) (e:Int),Value.tuple #[.slice none 0 0,I (2:Int)]= .tuple #[.slice a b c,I e]/\K (.tuple #[.slice a b c,I e]) p) (∃ (a:Option aL) (b c:Nat) (e:Int),Value.tuple #[.slice t23A t23n t23c,I (0:Int)]= .tuple #[.slice a b c,I e]/\K (.tuple #[.slice a b c,I e]) p))):=fun e=>
  s C r fun q g V B=>⟨_,_,_,rfl,by refine (fnk func209) ?_;exact ⟨_,rfl,Br.not (C0 (fun _=>⟨_,_,_,_,rfl,by
   have Q:trN f n=k:=o
   rw [Q] at hK
   exact hK _ _ _ (B0 F V) B⟩) (fun no=>o))⟩⟩
 refine C0 (fun O=>?_) (fun G=>?_)
 ·obtain ⟨k,rfl⟩:∃ k',k=k'+1:=⟨k-1,o⟩
  rw [show C4 (((k+1:Nat):Int)-1)=(k:Int) by rw [C1]<;>omega,aC]
  obtain ⟨a,w,e,T,c0,c1,c2,c3⟩:=r.qat (show k<k+1 from o)
  refine ⟨a,e,o,o,_,_,_,_,_,_,_,_,c0,c1,c2,c3,?_⟩
  refine Ct T ⟨_,rfl,C0 (fun y=>?_) (fun y=>?_)⟩
  ·refine ⟨⟨o,o⟩,⟨k,_,_,o,o,rfl,rfl,?_,?_⟩,?_⟩
   ·have:=(r.cut (c:=d) (l:=0) (k:=k) o t)
    exact this.congr fun i _=>by rw [Nat.zero_add]
   ·rw [<- R,trN,iP y]
   grind
  ·exact done (by rw [trN,iN y])
 ·obtain rfl:k=0:=o
  exact done rfl
def A8a(V:Nat->Rat)(v d:Nat)(M:Nat->Nat->Rat)(j:Nat):Nat->Rat:=Qf (fl (Ng (kpw M (rkM V v d))) (rkM V v d)) (fun i=>fmM V (uni j) v d i 0) (rkM V v d) (rkM V v d)
def Oy{j:Nat}{M:Nat->Nat->Rat}(gl:Gl h)(q:Quo h A BA IA v D m d V)(hj:j<v)(kb:∀ i k,i<rkM V v d->k<rkM V v d->Sz mq (ivM V v d i k)/\Sz mq (A02 V (uni j) v d i k))(hq1:1<=mq)(hq:mq<=1000000)
 (x:aM (MVr (rkM V v d)) h KA (rkM V v d+1) (kpw M (rkM V v d))) (hs:∀ k,k<=rkM V v d->∀ i,i<rkM V v d->Sz mq (kpw M (rkM V v d) k i)) (sf:∀ i,i<rkM V v d->Sz mq (fmM V (uni j) v d i 0)) (sb:SB (rkM V v d) mq)
 (ok:Cq (fl (Ng (kpw M (rkM V v d))) (rkM V v d)) (fun i=>fmM V (uni j) v d i 0) (rkM V v d) (rkM V v d)) (hx:∀ i,i<rkM V v d->Sz 10000000 (A8a V v d M j i))
 (hK:∀ A' c' h',h.le h'->aM SSr h' A' (trN (A8a V v d M j) (rkM V v d)) (fun i=>E8 (A8a V v d M j i))->K (.tuple #[.slice A' (trN (A8a V v d M j) (rkM V v d)) c',I 0]) h'):
 aN prog 63 #[B7y A BA IA c bc ic v D (rkM V v d),.agg #[.slice KA (rkM V v d+1) kc],I (j:Int)] h K:=by
 have s:=q.r1;have r6:=q.r6
 have T:rkM V v d*rkM V v d<=6*6:=aJ r6 r6
 refine (fnk func63 [(6,[28],[],[I 0])] (own:=[3,4,8])) ?_
 refine Qb gl q hj kb hq1 hq fun A1 c1 O X p=>⟨_,_,_,_,_,_,rfl,D9 (fun e=>absurd rfl e) (fun _=>?_)⟩
 refine I3 H0 (zx:=([]:List UInt8)) rfl o o o o fun b H=>⟨_,_,_,rfl,?_⟩
 refine ⟨fun L B=>∃ k:Nat,k<=rkM V v d/\L=[I k]/\OwnK SSr O B b (rkM V v d) k (fun i=>E8 (fmM V (uni j) v d i 0)),fun L _=>rkM V v d-(iAt L 0).toNat,⟨0,o,rfl,OwnK.zero H⟩,?_⟩
 rintro z B ⟨k,hk,eL,w⟩
 obtain rfl:z=(k:Int):=gz0
 refine C0 (fun F=>?_) (fun C=>?_)
 ·have f:k<rkM V v d:=o
  have r:=R4 f (show 0<rkM V v d from o)
  obtain ⟨a,e,c0⟩:=(p.mono E9 w.le).sat r
  have Q:C4 ((k:Int)*(rkM V v d:Int))=((k*rkM V v d+0:Nat):Int):=by
   exact J4 (n:=k*rkM V v d) o
  have E:K8 (fmM V (uni j) v d) (rkM V v d) (k*rkM V v d+0)=E8 (fmM V (uni j) v d k 0):=by
   obtain ⟨a1,a2⟩:=dm1 (i:=k) (show 0<rkM V v d from o)
   unfold K8;grind
  rw [Q]
  refine ⟨a,e,o,o,_,by exact c0,_,rfl,o,o,?_⟩
  refine w.fill E9 K0 (y:=E8 (fmM V (uni j) v d k 0)) f (by rw [E];rfl) rfl fun W G=>?_
  rw [wiS k o]
  exact ⟨⟨k+1,o,rfl,G⟩,by simp only [R9];omega⟩
 ·obtain rfl:k=rkM V v d:=o
  have t:=B0 X w.le
  refine Ak (x.mono (Sk _) t) o o o o fun A3 c3 W u R=>⟨_,_,_,_,_,rfl,?_⟩
  have g:=B0 t u
  refine Hl (gl.mono g) (A61 s r6 s o hs R) ((w.own.vis E9).mono E9 u) sf ok hq1 ⟨(sb _ (aD _)).1,(sb _ (aD _)).1,(sb _ (aD _)).2,(sb _ (aD _)).2⟩ fun A5 c5 B5 n5 d5 h5 N S=>⟨_,_,_,_,_,_,_,rfl,D9 (fun e=>absurd rfl e) (fun _=>?_)⟩
  have l:=B0 g N
  exact Rh (m:=10000000) (gl.mono l) S o hx o fun A6 c6 h6 l6 r6=>⟨_,_,_,_,rfl,hK _ _ _ (B0 l l6) r6⟩
end
def psT(P:Nat->Rat)(deg:Nat)(S:Nat->Rat)(k:Nat):Nat->Rat
 | 0=>0
 | i+1=>psT P deg S k i-P (deg-(i+1))*(if i+1=k then (k:Rat) else S (k-(i+1)))
def psF(P:Nat->Rat)(deg:Nat):Nat->Nat->Rat
 | 0=>fun _=>(deg:Rat)
 | k+1=>fun j=>if j<=k then psF P deg k j else psT P deg (psF P deg k) (k+1) (min (k+1) deg)
def ps(P:Nat->Rat)(deg k:Nat):Rat:=psF P deg k k
def C03(P:Nat->Rat)(deg:Nat):∀ k j,j<=k->psF P deg k j=ps P deg j:=by
 intro k
 induction k with
 | zero=>intro j a;obtain rfl:j=0:=o
         rfl
 | succ k ih=>
  intro j a
  by_cases h:j<=k
  ·unfold psF;rw [iP h];exact ih j h
  ·obtain rfl:j=k+1:=o
   rfl
def A9n{P:Nat->Rat}{deg k:Nat}{S S':Nat->Rat}(h:∀ j,j<k->S j=S' j):∀ i,i<=k->psT P deg S k i=psT P deg S' k i:=by
 intro i
 induction i with
 | zero=>intro _;rfl
 | succ i ih=>
  intro a
  unfold psT
  rw [ih o]
  by_cases e:i+1=k
  ·rw [iP e,iP e]
  ·rw [iN e,iN e,h _ o]
def Jv(P:Nat->Rat)(deg k:Nat):ps P deg (k+1)=psT P deg (ps P deg) (k+1) (min (k+1) deg):=by
 show (if k+1<=k then _ else _)=_
 rw [iN o]
 exact A9n (fun j a=>C03 P deg k j o) _ (Nat.min_le_left _ _)
section
variable {h:aK} {K:VP} {A PA:Option aL} {c pc m n deg:Nat} {P:Nat->Rat}
def Kx{z:Int}(gl:Gl h)(h1: -9223372036854775808<=z)(h2:z<9223372036854775808)(hK:K (.string (bs (E8 (z:Rat)))) h):aN prog 163 #[I z] h K:=by
 refine (fnk func163) ?_
 refine Do gl.p10 h1 h2 ⟨_,rfl,?_⟩
 rw [Xb (by simp)] at hK
 simpa using hK
def Qi(gl:Gl h)(x:aM SSr h PA (deg+1) (fun i=>E8 (P i)))(hd1:1<=deg)(hd:deg<=64)(hn1:1<=n)(hn:n<=1000)(sP:∀ i,i<=deg->Sz m (P i))(sS:∀ k,k<n->Sz m (ps P deg k))(sT:∀ k i,k<n->i<=k->i<=deg->Sz m (psT P deg (ps P deg) k i))(hm1:10<=m)(hm:m<=5000000)
 (hK:∀ A' c' h',h.le h'->n<=c'->aM SSr h' A' n (fun k=>E8 (ps P deg k))->K (.slice A' n c') h'):aN prog 115 #[.slice PA (deg+1) pc,I (n:Int)] h K:=by
 refine (fnk func115 [(4,[6,7],[],[.slice none 0 0,I 0]),(8,[8,9],[],[.string ⟨#[]⟩,I 0])]) ?_
 rw [show C4 (((deg+1:Nat):Int)-1)=(deg:Int) by rw [C1]<;>omega]
 refine Kx gl o o ⟨_,rfl,?_⟩
 refine Iw (R:=SSr) (f:=fun k=>E8 (ps P deg k)) H0 (y:=E8 (deg:Rat)) (by rfl) dc rfl fun b V l1 L=>⟨_,_,_,rfl,?_⟩
 refine ⟨fun L r=>∃ (k:Nat) (A':Option aL) (c':Nat),1<=k/\k<=n/\L=[.slice A' k c',I (k:Int)]/\Lst SSr 9 h r A' c' k (fun k=>E8 (ps P deg k)),fun L _=>n-(iAt L 1).toNat,⟨1,_,_,aD _,hn1,rfl,L⟩,?_⟩
 rintro W k sc z r ⟨T,A',c',G,S,l,L⟩
 obtain ⟨⟨rfl,rfl,rfl⟩,rfl⟩:=sI2 l
 refine C0 (fun F=>?_) (fun E=>?_)
 ·have p:k<n:=o
  have c:=gl.mono L.le
  have g:(if (deg:Int)<(k:Int) then (deg:Int) else (k:Int))=((min k deg:Nat):Int):=by split<;>omega
  rw [g]
  obtain ⟨k,rfl⟩:∃ k',k=k'+1:=⟨k-1,o⟩
  have row:=L.row E9
  refine ⟨fun L B=>∃ i:Nat,i<=min (k+1) deg/\L=[.string (bs (E8 (psT P deg (ps P deg) (k+1) i))),I ((i+1:Nat):Int)]/\B=r,fun L _=>min (k+1) deg+1-(iAt L 1).toNat,⟨0,o,by rw [t0];rfl,rfl⟩,?_⟩
  rintro O z B ⟨i,hi,l,rfl⟩
  simp only [aG,aI,Value.string.injEq,true_and,and_true] at l
  obtain ⟨rfl,rfl⟩:=l
  refine C0 (fun C=>?_) (fun u=>?_)
  ·have H:i<min (k+1) deg:=o
   have M:i<=k:=o
   have Q:i+1<=deg:=o
   rw [show C4 (((k+1:Nat):Int)-((i+1:Nat):Int))=((k-i:Nat):Int) by rw [C1]<;>omega,show C4 ((deg:Int)-((i+1:Nat):Int))=((deg-(i+1):Nat):Int) by rw [C1]<;>omega,show C4 (((i+1:Nat):Int)+1)=((i+1+1:Nat):Int) by rw [C1]<;>omega]
   obtain ⟨a,e,c0⟩:=row.sat (show k-i<k+1 from o)
   obtain ⟨D,w,c2⟩:=(x.mono E9 L.le).sat (show deg-(i+1)<deg+1 from o)
   refine ⟨a,e,o,o,_,by rw [aC];exact c0,?_⟩
   have j:=sP (deg-(i+1)) o
   have A:=sT (k+1) i p o o
   refine D5 (fun N=>?_) (fun N=>?_)
   ·have s:i+1=k+1:=o
    have t:(((k+1:Nat):Int):Rat)=((k+1:Nat):Rat):=Rat.intCast_natCast _
    have d:=(A0e (k:=k+1) o).mono (show 10<=m from o)
    rw [<- t] at d
    refine Kx c o o ⟨_,rfl,D,w,o,o,_,by rw [aC];exact c2,?_⟩
    refine Ed (m:=m) c (Tx.of j o) (Tx.of d o) o ⟨_,rfl,?_⟩
    rw [G1,G1]
    refine A05 (m:=2*m) c (Tx.of (A.mono o) o) (Tx.of ((j.mul d).mono o) o) o ⟨_,rfl,?_⟩
    rw [G1,G1]
    have q:psT P deg (ps P deg) (k+1) (i+1)=psT P deg (ps P deg) (k+1) i-P (deg-(i+1))*(((k+1:Nat):Int):Rat):=by
     conv=>lhs;unfold psT
     rw [iP s,t]
    rw [<- q]
    exact ⟨⟨i+1,o,rfl,rfl⟩,by simp only [iAt,aT,aO];omega⟩
   ·have s:¬ i+1=k+1:=o
    have d:=sS (k-i) o
    refine ⟨D,w,o,o,_,by rw [aC];exact c2,?_⟩
    refine Ed (m:=m) c (Tx.of j o) (Tx.of d o) o ⟨_,rfl,?_⟩
    rw [G1,G1]
    refine A05 (m:=2*m) c (Tx.of (A.mono o) o) (Tx.of ((j.mul d).mono o) o) o ⟨_,rfl,?_⟩
    rw [G1,G1]
    have q:psT P deg (ps P deg) (k+1) (i+1)=psT P deg (ps P deg) (k+1) i-P (deg-(i+1))*ps P deg (k-i):=by
     conv=>lhs;unfold psT
     rw [iN s,show k+1-(i+1)=k-i from o]
    rw [<- q]
    exact ⟨⟨i+1,o,rfl,rfl⟩,by simp only [iAt,aT,aO];omega⟩
  ·obtain rfl:i=min (k+1) deg:=o
   refine L.push E9 H0 rfl (y:=E8 (ps P deg (k+1))) (by rw [<- Jv];rfl) rfl dc o fun A5 c5 X L5=>?_
   rw [show C4 (((k+1:Nat):Int)+1)=((k+1+1:Nat):Int) by rw [C1]<;>omega]
   exact ⟨⟨k+1+1,_,_,o,o,rfl,L5⟩,by simp only [iAt,aT,aO];omega⟩
 ·obtain rfl:k=n:=o
  exact hK _ _ _ L.le L.cap (L.row E9)
end
def PrivF.make{n:Nat}{e:bD}{g:aK}{b c:Nat}{z:Ww n}(hb:g b=none):PrivF (B5f e g b (aU c z)) g e (some ⟨b,0,none⟩) c ([]:List (Ww n)):=
 ⟨by simp,by simp,.inr ⟨b,(aU c z).flatMap enc,rfl,hb,rfl,by rw [K7,cD],by simp⟩⟩
def B3v(a b c d e f:Int)(w:QV):(C0q a b c d e f w).length=10/\∀ v∈C0q a b c d e f w,Nr v=true:=⟨rfl,by simp [C0q,Nr]⟩
def B3w:([I (0:Int),I (0:Int),I (0:Int),I (0:Int),I (0:Int),I (0:Int),.bool false,.slice none 0 0,.bool false,.slice none 0 0]:List aQ).length=10/\∀ v∈([I (0:Int),I (0:Int),I (0:Int),I (0:Int),I (0:Int),I (0:Int),.bool false,.slice none 0 0,.bool false,.slice none 0 0]:List aQ),Nr v=true:=⟨rfl,by simp [Nr]⟩
section
variable {h:aK} {K:VP} {vars:Int} {ts:List Qq} {A:Option aL} {c:Nat}
def A3j(gl:Gtz h)(pa:PolyAt h A ts)(hl:ts.length<=1000)(hc:∀ i,i<ts.length->(tm ts i).1.length<=100000000)(hK1:WfOk vars ts->∀ A' n' c',K (.tuple #[.slice A' n' c',.bool true]) h)(hK0:¬ WfOk vars ts->K (.tuple #[.slice none 0 0,.bool false]) h):aN prog 258 #[.agg #[I vars,.slice A ts.length c]] h K:=by
 refine FCall.pure ((fnk func258 [(5,[4,24],[],[.slice none 0 0,I 0])] (own:=[1,6,7])) ?_)
 have no:∀ q,h.le q->¬ WfOk vars ts->h.le q/\K (.tuple #[.slice none 0 0,.bool false]) h:=fun q l0 n=>⟨l0,hK0 n⟩
 refine C0 (fun h1=>no _ (B7 _) fun o=>by have:=o.lo;omega) (fun h1=>?_)
 refine C0 (fun X=>no _ (B7 _) fun o=>by have:=o.hi;omega) (fun X=>?_)
 refine I3 (α:=Ww 10) Xi (zx:=⟨_,B3w⟩) rfl oo oo oo oo fun b hb=>⟨_,_,_,rfl,?_⟩
 rw [aC]
 refine ⟨fun l h'=>∃ (k:Nat) (A':Option aL) (c':Nat) (f:List (Ww 10)) (g:aK),l=[.slice A' f.length c',I k]/\k<=ts.length/\f.length=k/\(∀ j,j<k->C1d vars ts j)/\h.le g/\PrivF h' g 361 A' c' f,fun l _=>ts.length-(iAt l 1).toNat,⟨0,_,_,[],h,rfl,oo,rfl,fun j hj=>oo,B7 _,PrivF.make hb⟩,?_⟩
 rintro e p d O t ⟨k,A',c',f,g,M,hk,R,m,hg,pr⟩
 obtain ⟨⟨rfl,rfl,rfl⟩,rfl⟩:(e=A'/\p=f.length/\d=c')/\O=(k:Int):=by simpa using M
 have r:h.le t:=B0 hg pr.le
 refine C0 (fun h3=>?_) (fun h3=>?_)
 ·have hkl:k<ts.length:=oo
  obtain ⟨a,B,cc,e1,e2,e3,e4⟩:=(pa.mono r) k hkl
  refine ⟨a,e1,oo,h3,_,_,_,_,by rw [aC];exact e2,by rw [aC];exact e3,?_⟩
  refine Xr (gl.mono r) (hc k hkl) e4 oo (fun ok E F G z D C w=>⟨E,F,G,z,D,C,w.s,w.A,w.n,w.c,w.s2,w.A2,w.n2,w.c2,true,rfl,?_⟩) (fun T=>⟨_,_,_,_,_,_,_,_,_,_,_,_,_,_,false,rfl,no _ r fun o=>T (o.all k hkl).1⟩)
  have next:∀ {q:aK},q=t->C1d vars ts k->wpH prog (bH 302 1 #[(0,.agg #[I E,I F,I G,I z,I D,I C,.bool w.s,.slice w.A w.n w.c,.bool w.s2,.slice w.A2 w.n2 w.c2])]) (fun v1 Q=>∃ (t57A:Option aL) (t57n:Nat) (t57c:Nat),v1= .slice t57A t57n t57c/\wpH prog (bI #[302,302] 302 #[.slice e f.length d,.slice t57A t57n t57c]) (fun v2 L=>∃ (t58A:Option aL) (t58n:Nat) (t58c:Nat),v2= .slice t58A t58n t58c/\(∃ (k2:Nat) (A':Option aL) (c':Nat) (f:List (Ww 10)) (g:aK),[Value.slice t58A t58n t58c,I (C4 ((k:Int)+1))]=[.slice A' f.length c',I k2]/\k2<=ts.length/\f.length=k2/\(∀ j,j<k2->C1d vars ts j)/\h.le g/\PrivF L g 361 A' c' f)/\ts.length-(iAt [Value.slice t58A t58n t58c,I (C4 ((k:Int)+1))] 1).toNat<ts.length-(iAt [Value.slice e f.length d,I (k:Int)] 1).toNat) Q) q:=by
   rintro _ rfl N
   refine B36 Xi pr (y:=⟨C0q E F G z D C w,B3v E F G z D C w⟩) rfl dc oo oo ?_
   intro A2 c2 X g2 lg p2
   rw [C1 oo oo]
   refine ⟨⟨k+1,A2,c2,_,g2,?_,oo,?_,fun j hj=>?_,B0 hg lg,p2⟩,by simp only [iAt,aT,aO];omega⟩
   ·rw [aP];rfl
   ·rw [aP,R];rfl
   ·by_cases H:j=k
    ·subst H;exact N
    ·exact m j oo
  refine C0 (fun h4=>?_) (fun h4=>next rfl ⟨ok,fun h0=>oo⟩)
  have ek:(C4 ((k:Int)-1)).toNat=k-1:=by rw [C1 oo oo];omega
  obtain ⟨a',B',ac,W,aa,V,S⟩:=(pa.mono r) (k-1) oo
  have u:=(m (k-1) oo).1
  refine ⟨a',W,by rw [C1 oo oo];omega,by rw [C1 oo oo];omega,_,_,_,by rw [ek];exact V,?_⟩
  refine Sj (by have e5:=u.len;have e6:((tm ts k).2.length:Int)=vars:=ok.len;omega) (u.exb oo) (ok.exb oo) S e4 ⟨_,rfl,B7 _,?_⟩
  refine C0 (fun h5=>no _ r fun o=>?_) (fun h5=>next rfl ⟨ok,fun _=>oo⟩)
  have:=(o.all k hkl).2 oo
  omega
 ·have hkl:k=ts.length:=oo
  subst hkl
  exact ⟨r,hK1 ⟨oo,oo,m⟩ _ _ _⟩
def A0y(gl:Gtz h)(pa:PolyAt h A ts)(hl:ts.length<=1000)(hc:∀ i,i<ts.length->(tm ts i).1.length<=100000000)(hK1:B1v vars ts->K (.bool true) h)(hK0:¬ B1v vars ts->K (.bool false) h):aN prog 159 #[.agg #[I vars,.slice A ts.length c]] h K:=by
 refine (fnk func159 (own:=[1])) ?_
 refine (fnk func210 (own:=[1])) ?_
 refine C0 (fun n=>oo) (fun _=>?_)
 refine A3j gl pa hl hc (fun ok A' k m=>⟨_,_,_,_,rfl,?_⟩) (fun d=>⟨_,_,_,_,rfl,_,_,_,_,rfl,hK0 fun o=>d o.1⟩)
 refine C0 (fun g=>?_) (fun g=>⟨_,_,_,_,rfl,hK1 ⟨ok,fun p=>oo⟩⟩)
 obtain ⟨a,B,l,e,q,f,j⟩:=pa 0 oo
 refine ⟨a,e,oo,oo,_,_,_,f,?_⟩
 refine Cw j ⟨_,rfl,Br.not (Br.of (fun b=>⟨_,_,_,_,rfl,hK1 ⟨ok,fun _=>b⟩⟩) (fun b=>⟨_,_,_,_,rfl,hK0 fun o=>?_⟩))⟩
 have:=o.2 oo
 rw [this] at b;cases b
end
def C3e(v D:Nat):Bool:=
 (bM (mo v D).length).all fun k=>decide (Zb (mon v D k)<=D)&&J6 (mon v D k)&&Bc (mon v D k) (aU v 0)&&decide (opL (fun x y=>x+y) (mon v D k) (aU v 0)=mon v D k)&&(mon v D k).all fun x=>decide (0<=x/\x<=1048576)
def B3e:∀ v:Fin 3,∀ D:Fin 7,1<=v.val->C3e v D=true:=by decide +kernel
structure Mz (v D k:Nat):Prop where
 deg:Zb (mon v D k)<=D
 val:J6 (mon v D k)=true
 pair:Bc (mon v D k) (aU v 0)=true
 eq:opL (fun x y=>x+y) (mon v D k) (aU v 0)=mon v D k
 bnd:∀ x∈mon v D k,0<=x/\x<=1048576
def mz{v D k:Nat}(h1:1<=v)(h2:v<=2)(hD:D<=6)(hk:k<(mo v D).length):Mz v D k:=by
 have:=B3e ⟨v,o⟩ ⟨D,o⟩ h1
 simp only [C3e,Bool.and_eq_true,decide_eq_true_eq,bN,cK] at this
 obtain ⟨⟨⟨⟨a,b⟩,c⟩,d⟩,e⟩:=this k hk
 exact ⟨a,b,c,d,e⟩
section
variable {h:aK} {K:VP} {A T PA ZA:Option aL} {c tc pc zc m v D k:Nat} {V:Nat->Rat}
def A43{a:aL}{B:Option aL}{bc:Nat}(gl:Gl h)(f:FnV h A v D m V)(s:MoSl h T (mo v D))(hk:k<(mo v D).length)(eP:PA=some a)(c0:h.cell? (aE (aE a (0*2)) 0)=some (.string (bs (E8 1))))(c1:h.cell? (aE (aE a (0*2)) 1)=some (.slice B (mon v D k).length bc))(sB:SlI .i64 h B (mon v D k))(sZ:SlI .i64 h ZA (aU v 0)){p0:Int}
 (hK:K (.string (bs (E8 (V k)))) h):aN prog 162 #[.agg #[.slice T (mo v D).length tc,.slice A (mo v D).length c],.agg #[I p0,.slice PA 1 pc],.slice ZA v zc] h K:=by
 have y:=f.sm
 refine FCall.pure ((fnk func162 [(3,[7,15],[],[.string ⟨#[]⟩,I 0])] (own:=[3,4,9])) ?_)
 have Z:=mz f.v1 f.v2 f.d6 hk
 refine ⟨fun L e=>∃ j:Nat,j<=1/\L=[.string (bs (E8 (if j=0 then 0 else V k))),I (j:Int)]/\h.le e,fun L _=>1-(iAt L 1).toNat,⟨0,o,by rfl,B7 _⟩,?_⟩
 rintro t z e ⟨j,C,w,d⟩
 obtain ⟨rfl,rfl⟩:=w
 refine C0 (fun q=>?_) (fun l=>?_)
 ·obtain rfl:j=0:=o
  refine ⟨a,eP,o,o,_,_,_,_,C2 d c0,C2 d c1,?_⟩
  have sz:=sZ.mono d
  have i:=f.sz k hk
  have key:∀ K':VP,(∀ B' g,e.le g->SlI .i64 g B' (mon v D k)->K' (.tuple #[.slice B' (mon v D k).length (mon v D k).length,.bool true]) g)->aN prog 173 #[.slice B (mon v D k).length bc,.slice ZA v zc] e K':=fun K' n=>by
   have:=Vz (K:=K') (ac:=bc) (bc:=zc) (sB.mono d) sz (fun no=>by rw [Z.eq,Z.pair,Z.val] at no;cases no) (fun _ B' g E p=>by rw [Z.eq] at p ⊢;grind)
   grind
  refine key _ fun B' F r u=>⟨_,_,_,_,rfl,?_⟩
  have b:=B0 d r
  refine A1h (f.mono b) (s.mono b) hk u ⟨_,rfl,B7 _,?_⟩
  refine Ed (m:=m+1) (gl.mono b) (Tx.of (m:=m+1) ⟨ZB.one o,ZB.one o⟩ o) (Tx.of (i.mono o) o) o ⟨_,rfl,B7 _,?_⟩
  rw [G1,G1,bJ,iP rfl]
  refine Kz (m:=m+1) (gl.mono b) (Tx.of (Sz.zero o) o) (Tx.of (i.mono o) o) o ⟨_,rfl,B7 _,?_⟩
  rw [G1,G1,Rat.zero_add]
  exact ⟨⟨1,o,rfl,b⟩,by
   show 1-(C4 (((0:Nat):Int)+1)).toNat<1-(((0:Nat):Int)).toNat
   decide⟩
 grind
def Yf{a:aL}{B:Option aL}{bc:Nat}(gl:Gl h)(f:FnV h A v D m V)(hk:k<(mo v D).length)(eP:PA=some a)(c0:h.cell? (aE (aE a (0*2)) 0)=some (.string (bs (E8 1))))(c1:h.cell? (aE (aE a (0*2)) 1)=some (.slice B (mon v D k).length bc))(sB:SlI .i64 h B (mon v D k))
 (hK:K (.tuple #[.string (bs (E8 (V k))),I 0]) h):aN prog 114 #[.agg #[I (v:Int),I (D:Int),.slice A (mo v D).length c],.agg #[I ((mon v D k).length:Int),.slice PA 1 pc]] h K:=by
 have z:=f.v1;have y:=f.v2;have C:=f.d6
 have Z:=mz z y C hk
 have E:(mon v D k).length=v:=((O3 z y C).val k hk).2.1
 have H:PolyAt h PA [(E8 1,mon v D k)]:=fun i M=>by
  grind
 have w:B1v ((mon v D k).length:Int) [(E8 1,mon v D k)]:=by
  refine ⟨⟨o,o,fun j N=>?_⟩,fun _=>Z.val⟩
  obtain rfl:j=0:=gz0
  exact ⟨⟨⟨1,rfl,dc⟩,rfl,Z.bnd⟩,fun h=>absurd h o⟩
 refine FCall.pure ((fnk func114 (os:=[(5,[0,2,3,1,4]),(7,[0,2,3,4,1,5,6,7,8])]) (al:=[(7,[(1,[5])])]) (own:=[2,3])) ?_)
 refine Ao gl f ⟨_,rfl,Br.nt ?_⟩
 have val:∀ K':VP,K' (.bool true) h->aN prog 159 #[.agg #[I ((mon v D k).length:Int),.slice PA 1 pc]] h K':=fun K' t=>
  A0y (ts:=[(E8 1,mon v D k)]) gl.tz H (by simp) (fun i M=>by
   obtain rfl:i=0:=gz0
   exact (Tx.of (m:=1) (q:=1) ⟨ZB.one o,ZB.one o⟩ o).len) (fun _=>t) (fun no=>absurd w no)
 refine val _ ⟨_,rfl,Br.nt (D9 (fun e=>absurd (by rw [E]) e) (fun _=>?_))⟩
 refine (fnk func160 (own:=[1])) ?_
 refine D5 (fun e=>o) (fun _=>val _ ⟨_,rfl,Br.nt ⟨a,eP,o,o,_,_,_,c1,Mi sB ⟨_,rfl,_,rfl,B7 _,C0 (fun e=>absurd Z.deg o) (fun _=>?_)⟩⟩⟩)
 have p:∀ {hp:aK} {K':VP},h.le hp->(∀ b h',hp.le h'->SlI .i64 h' (some ⟨b,0,none⟩) (aU v 0)->K' (.slice (some ⟨b,0,none⟩) v v) h')->wpH prog (Instr.makeSlice 22 (I (v:Int)) (I (v:Int))) K' hp:=fun {hp K'} l kk=>by
  refine Hn Iy o o o o fun b L=>?_
  refine kk b _ (Heap.le_put _ L) ?_
  rw [show (Value.int .i64 0).cells=#[.int .i64 0] from rfl,S8,<- List.map_replicate]
  exact SlI.new _ _ _ _ _
 have n:∀ {hp:aK} {T ZA:Option aL} {r zc:Nat} {K':VP},h.le hp->MoSl hp T (mo v D)->SlI .i64 hp ZA (aU v 0)->K' (.string (bs (E8 (V k)))) hp->aN prog 162 #[.agg #[.slice T (mo v D).length r,.slice A (mo v D).length c],.agg #[I ((mon v D k).length:Int),.slice PA 1 pc],.slice ZA v zc] hp K':=fun {hp T ZA r zc K'} l s sz kk=>
  A43 (gl.mono l) (f.mono l) s hk eP (C2 l c0) (C2 l c1) (sB.mono l) sz kk
 refine ⟨?_,?_⟩
 ·refine Cg f fun T r G d u=>⟨_,_,_,_,_,_,rfl,d,?_⟩
  refine p d fun b F g sz=>⟨_,_,_,rfl,g,?_⟩
  exact n (B0 d g) (u.mono g) sz ⟨_,rfl,B7 _,B0 d g,hK⟩
 ·refine p (B7 _) fun b F g sz=>⟨_,_,_,rfl,g,?_⟩
  refine Cg (f.mono g) fun T r G d u=>⟨_,_,_,_,_,_,rfl,d,?_⟩
  exact n (B0 g d) u (sz.mono d) ⟨_,rfl,B7 _,B0 g d,hK⟩
end
section
variable {α β α2 β2:Type} [E:Enc α] [E2:Enc α2] {R:aK->α->β->Prop} {e e2:bD} {h0 hp:aK} {A A2:Option aL} {c n c2 n2:Nat} {f:Nat->β} {R2:aK->α2->β2->Prop} {f2:Nat->β2}
def Lst2.of(l:Lst R2 e2 h0 hp A2 c2 n2 f2):Lst2 R e R2 e2 h0 hp none 0 0 f A2 c2 n2 f2:=by
 obtain ⟨g,o,a,c,s,w,b,r⟩:=l
 exact ⟨g,o,[],a,c,s,OwnSl.nil,w,fun _ x=>by (cases x),rfl,b,Row.nil,r⟩
def Lst2.row2(m:Mon R2)(l:Lst2 R e R2 e2 h0 hp A c n f A2 c2 n2 f2):aM R2 hp A2 n2 f2:=l.swap.row m
def Lst2.set(m2:Mon R2){P:bV}{t:bD}(one:P.cellsOf t=E2.default.size/\(P.info? t).isSome=true)(l:Lst2 R e R2 e2 h0 hp A c n f A2 c2 n2 f2){b k:Nat}(hA:A2=some ⟨b,0,none⟩)(hk:k<n2){v:aQ}{y:α2}(hv:v.cells=(enc y).toArray){z:β2}(hR:R2 h0 y z){K:Unit->aK->Prop}
 (x:∀ h',Lst2 R e R2 e2 h0 h' A c n f A2 c2 n2 (fun i=>if i=k then z else f2 i)->K () h'):wpH P (bX t (.pointer (some (aE ⟨b,0,none⟩ (k*E2.default.size)))) v) K hp:=by
 obtain ⟨g,o,p,H,a,s,w,B,C,F,D,r,d⟩:=l
 refine OwnSl.store one hv s B oo hA fun h' E j m G=>x h' ⟨g,E,p,_,a,j,w.keep fun M u q L=>?_,m,C,F,gz0,r,d.upd oo (m2 _ _ _ _ a hR)⟩
 grind
def Lst2.app(m:Mon R)(m2:Mon R2){P:bV}{t ty:bD}{z:aQ}{bytes k j:Nat}(st:SliceT P t e z E.default.size bytes)(l:Lst2 R e R2 e2 h0 hp A c n f A2 c2 n2 f2)(hk:k=n){B:Option aL}{d:Nat}{g:Nat->β}(row:aM R h0 B j g)(hj:1<=j)(hg:∀ i,i<j->f (n+i)=g i)(hsz:bytes<=1000)(hb:n+j<=1000000){K:VP}
 (x:∀ A' c' h',Lst2 R e R2 e2 h0 h' A' c' (n+j) f A2 c2 n2 f2->K (.slice A' (n+j) c') h'):
 wpH P (bI #[t,t] ty #[.slice A k c,.slice B j d]) K hp:=by
 subst hk
 obtain ⟨gg,o,xs,ys,C,s,w,L,ap,F,D,r,r2⟩:=l
 obtain ⟨us,O,G,ru⟩:=row
 refine OwnSl.app (ty:=ty) st s w F.symm G.symm (fun q=>gz0) (O.mono (B0 C s.le)) (by rw [F,G];exact aV (aJ (show 2*(k+j)+192<=3000000 from oo) hsz) dc) oo ?_
 intro A' c' h' V W a M Q N
 rw [F]
 have H:∀ b,A2=some ⟨b,0,none⟩->∃ x,o b=some x:=fun b q=>by
  rcases L.2 with ⟨_,y⟩|⟨b',X,y,q3,_⟩
  ·grind
  grind
 refine x A' c' h' ⟨V,W,_,ys,B0 C a,M,Q,L.keep fun b x q T=>(N b x T fun y=>ap b y q).1,fun b q y=>?_,gz0,D,fun i hi=>?_,r2.mono m2 a⟩
 ·grind
 ·by_cases S:i<k
  ·obtain ⟨u,e1,p⟩:=r i S
   exact ⟨u,gz0,m _ _ _ _ a p⟩
  ·obtain ⟨i,rfl⟩:∃ j0,i=k+j0:=⟨i-k,oo⟩
   obtain ⟨u,e1,p⟩:=ru i oo
   exact ⟨u,gz0,by rw [hg i oo];exact m _ _ _ _ (B0 C a) p⟩
end
def OwnK.vis{α β:Type}[E:Enc α]{R:aK->α->β->Prop}(m:Mon R){h hp:aK}{b n k b2:Nat}{f:Nat->β}(w:OwnK R h hp b n k f)(hb:hp b2=none)(x:Obj):OwnK R h (hp.put b2 x) b n k f:=by
 obtain ⟨g,o,d,e,s,c,i,j⟩:=w
 have a:g b2=none:=by
  cases q:g b2 with
  | none=>rfl
  | some u=>rw [s.le _ _ q] at hb;cases hb
 exact ⟨_,o,d,B0 e (Heap.le_put _ a),s.vis hb x,c,i,j.mono m (Heap.le_put _ a)⟩
def A6s{h:aK}{N:Nat}{K:VP}{b0:Nat}(hb0:h b0=none)(hN:1<=N)(hl:N<=1000000)(hK:∀ b h',Lst SSr 9 h h' (some ⟨b,0,none⟩) N N (fun _=>E8 0)->K (.slice (some ⟨b,0,none⟩) N N) h'):
 aN prog 116 #[.slice (some ⟨b0,0,none⟩) 1 1,I (N:Int)] (h.put b0 (.cells #[.string ({ data:=#[48] }:ByteArray)] 9)) K:=by
 refine Pv (SlV.new _ _ _ _ _ _ (fun i v a=>by simpa using a)) hN hl fun b h' c s d=>hK b h' ⟨_,c,aU N (E8 0),Heap.le_put _ hb0,s,⟨by simp,.inr ⟨b,_,rfl,d,by rw [cD];exact (cF _).symm,?_⟩⟩,by simp,fun i e=>⟨_,gz0,rfl⟩⟩
 rw [cD,Xq,<- t0]
 exact List.take_of_length_le (by simp;exact Nat.le_of_eq (cF _).symm)
def rgS(V:Nat->Rat)(v d:Nat)(M:Nat->Nat->Rat)(i n:Nat):Rat:=sm n fun j=>V ((pvL V v d).getD j 0)*kpw M (rkM V v d) i j
def rgt(V:Nat->Rat)(v d:Nat)(M:Nat->Nat->Rat)(i:Nat):Rat:=rgS V v d M i (rkM V v d)
def hkl(P:Nat->Rat)(deg:Nat):Nat->Nat->Rat:=fun i k=>ps P deg (i+k)
def wgX(V:Nat->Rat)(v d:Nat)(M:Nat->Nat->Rat)(P:Nat->Rat)(deg:Nat):Nat->Rat:=Qf (fl (hkl P deg) (rkM V v d)) (rgt V v d M) (rkM V v d) (rkM V v d)
section
variable {h:aK} {K:VP} {A BA IA KA PA:Option aL} {c bc ic kc pc m mq v d D deg:Nat} {V P:Nat->Rat} {M:Nat->Nat->Rat}
def A5l{i:Nat}(q:Quo h A BA IA v D m d V)(hi:i<nM v d):mon v d i=mon v D i/\i<(mo v D).length:=by
 have e:=Q9 q.fn.v1 q.fn.v2 (show d<=3 by have:=q.d2;omega) q.fn.d6 (show 2*d<=D by have:=q.dD;omega) hi hi
 refine ⟨e.same,?_⟩
 have:nM v d<=(mo v D).length:=by
  have a:d<=D:=by have:=q.dD;omega
  have b:∀ v:Fin 3,∀ d:Fin 3,∀ D:Fin 7,d.val<=D.val->nM v d<=(mo v D).length:=by decide +kernel
  exact b ⟨v,by have:=q.fn.v2;omega⟩ ⟨d,by have:=q.d2;omega⟩ ⟨D,by have:=q.fn.d6;omega⟩ a
 omega
def Ys(gl:Gl h)(q:Quo h A BA IA v D m d V)(hq1:1<=mq)(hq:mq<=1000000)(hmq:15<=mq)
 (x:aM (MVr (rkM V v d)) h KA (rkM V v d+1) (kpw M (rkM V v d))) (hs:∀ k,k<=rkM V v d->∀ i,i<rkM V v d->Sz mq (kpw M (rkM V v d) k i)) (sb:SB (rkM V v d) mq)
 (xp:aM SSr h PA (deg+1) (fun i=>E8 (P i))) (hd1:1<=deg) (hd:deg<=64) (sP:∀ i,i<=deg->Sz mq (P i)) (sS:∀ k,k<2*rkM V v d-1->Sz mq (ps P deg k)) (sT:∀ k i,k<2*rkM V v d-1->i<=k->i<=deg->Sz mq (psT P deg (ps P deg) k i))
 (sR:∀ i n,i<rkM V v d->n<=rkM V v d->Sz mq (rgS V v d M i n))
 (ok:Cq (fl (hkl P deg) (rkM V v d)) (rgt V v d M) (rkM V v d) (rkM V v d)) (hx:∀ i,i<rkM V v d->Sz 10000000 (wgX V v d M P deg i))
 (hK:∀ A' c' h',h.le h'->aM SSr h' A' (trN (wgX V v d M P deg) (rkM V v d)) (fun i=>E8 (wgX V v d M P deg i))->K (.tuple #[.slice A' (trN (wgX V v d M P deg) (rkM V v d)) c',I 0]) h'):
 aN prog 64 #[B7y A BA IA c bc ic v D (rkM V v d),.agg #[.slice KA (rkM V v d+1) kc],.slice PA (deg+1) pc] h K:=by
 have r1:=q.r1;have r6:=q.r6
 have ao:rkM V v d*rkM V v d<=6*6:=aJ r6 r6
 refine (fnk func64 [(4,[31],[],[I 0]),(16,[68],[(15,3)],[I 0,I 0,I 0,.slice none 0 0]),(20,[83],[],[I 0])] (own:=[3,4,13,15]) (wr:=[1000000000])) ?_
 refine I3 H0 (zx:=([]:List UInt8)) rfl oo oo oo oo fun b hb=>⟨_,_,_,rfl,?_⟩
 refine ⟨fun L F=>∃ k:Nat,k<=rkM V v d/\L=[I k]/\OwnK SSr h F b (rkM V v d) k (fun i=>E8 (V ((pvL V v d).getD i 0))),fun L _=>rkM V v d-(iAt L 0).toNat,⟨0,oo,rfl,OwnK.zero hb⟩,?_⟩
 rintro z F ⟨k,hk,eL,w⟩
 obtain rfl:z=(k:Int):=gz0
 refine C0 (fun af=>?_) (fun ah=>?_)
 ·have C:k<rkM V v d:=oo
  obtain ⟨ab,B,b2,e,c0,s0⟩:=q.bd.mi C
  have ai:=Ek V v d C
  obtain ⟨m1,m2⟩:=A5l q ai
  have eb:bdr V v d k=mon v D ((pvL V v d).getD k 0):=m1
  rw [eb] at c0 s0
  refine ⟨ab,e,oo,oo,_,_,_,by exact C2 w.le c0,?_⟩
  refine Y3 B8c (vs:=[.agg #[.string ({ data:=#[49] }:ByteArray),.slice B (mon v D ((pvL V v d).getD k 0)).length b2]]) (fun u hu=>by rw [List.mem_singleton.1 hu];rfl) rfl (by simp) rfl fun b4 aj=>⟨_,_,_,rfl,?_⟩
  have w4:=w.vis E9 aj (.cells (([.agg #[.string ({ data:=#[49] }:ByteArray),.slice B (mon v D ((pvL V v d).getD k 0)).length b2]]:List aQ).flatMap fun v=>v.cells.toList).toArray 175)
  have l4:=w4.le
  refine Yf (bc:=b2) (gl.mono l4) (q.fn.mono l4) m2 rfl ?_ ?_ (s0.mono l4) ⟨_,_,rfl,_,rfl,oo,oo,?_⟩
  ·rw [bC,D4,D4,D7,t1];rfl
  ·rw [bC,D4,D4,D7];rfl
  refine w4.fill E9 K0 (y:=E8 (V ((pvL V v d).getD k 0))) C (by rfl) rfl fun h5 w5=>D9 (fun e=>absurd rfl e) (fun _=>?_)
  rw [wiS k oo]
  exact ⟨⟨k+1,oo,rfl,w5⟩,by simp only [R9];omega⟩
 ·obtain rfl:k=rkM V v d:=oo
  have lw:=w.le
  have rowV:=w.own.vis E9
  rw [show C4 (C4 (2*(rkM V v d:Int))-1)=((2*rkM V v d-1:Nat):Int) by
   rw [C1 (n:=2*(rkM V v d:Int)) oo oo,C1]<;>omega]
  refine Qi (gl.mono lw) (xp.mono E9 lw) hd1 hd oo oo sP sS sT oo oo fun SA sc r l2 ad H=>⟨_,_,_,rfl,?_⟩
  refine Q7 H0 rfl fun b0 ag=>⟨_,_,_,rfl,?_⟩
  refine A6s ag r1 oo fun br h3 L0=>⟨_,_,_,rfl,?_⟩
  generalize hG:K8 (hkl P deg) (rkM V v d)=G
  have T:∀ i k,k<rkM V v d->G (i*rkM V v d+k)=E8 (hkl P deg i k):=fun i k hk=>by
   obtain ⟨a1,a2⟩:=dm1 (i:=i) hk
   rw [<- hG];unfold K8;grind
  refine ⟨fun L F=>∃ (i:Nat) (A':Option aL) (c':Nat),i<=rkM V v d/\L=[I (i:Int),I (rkM V v d:Int),I (rkM V v d:Int),.slice A' (i*rkM V v d) c']/\Lst2 SSr 9 SSr 9 r F A' c' (i*rkM V v d) G (some ⟨br,0,none⟩) (rkM V v d) (rkM V v d) (fun t=>E8 (if t<i then rgt V v d M t else 0)),fun L _=>rkM V v d-(iAt L 0).toNat,⟨0,none,0,oo,gz0,by rw [bC];exact Lst2.of L0⟩,?_⟩
  rintro z m0 m1 mA mn mc F ⟨i,A',c',hi,eL,L⟩
  obtain ⟨rfl,rfl,rfl,rfl,rfl,rfl⟩:=eL
  have W:=B0 lw l2
  refine C0 (fun af=>?_) (fun ah=>?_)
  ·have p:i<rkM V v d:=oo
   have ae:(i+1)*rkM V v d=i*rkM V v d+rkM V v d:=gz0
   have am:(i+1)*rkM V v d<=rkM V v d*rkM V v d:=aF _ p
   rw [show C4 ((i:Int)+(rkM V v d:Int))=((i+rkM V v d:Nat):Int) by rw [C1]<;>omega]
   refine ⟨⟨oo,oo⟩,⟨oo,oo⟩,?_⟩
   simp only [aC]
   rw [show i+rkM V v d-i=rkM V v d from oo]
   refine Lst2.app E9 E9 H0 L rfl (H.cut (l:=i) (k:=rkM V v d) oo ad) r1 (fun t ht=>?_) dc oo fun A5 c5 h5 L5=>⟨_,_,_,rfl,?_⟩
   ·rw [T i t ht];rfl
   refine ⟨fun L hx=>∃ (j:Nat),j<=rkM V v d/\L=[I (j:Int)]/\Lst2 SSr 9 SSr 9 r hx A5 c5 (i*rkM V v d+rkM V v d) G (some ⟨br,0,none⟩) (rkM V v d) (rkM V v d) (fun t=>E8 (if t<i then rgt V v d M t else if t=i then rgS V v d M i j else 0)),fun L _=>rkM V v d-(iAt L 0).toNat,⟨0,oo,rfl,?_⟩,?_⟩
   ·obtain ⟨g,o,S,ys,R,s,w1,w2,ap,hn,a,Q,X⟩:=L5
    refine ⟨g,o,S,ys,R,s,w1,w2,ap,hn,a,Q,X.congr fun t _=>?_⟩
    by_cases h1:t<i
    ·grind
    ·by_cases r:t=i
     ·rw [iP r];rfl
     grind
   rintro z hx ⟨j,hj,eL,L6⟩
   obtain rfl:z=(j:Int):=gz0
   refine C0 (fun al=>?_) (fun ak=>?_)
   ·have f:j<rkM V v d:=oo
    have O:=L6.le
    have E:=B0 W O
    obtain ⟨a1,e1,c1⟩:=(rowV.mono E9 (B0 l2 O)).sat f
    obtain ⟨a2,e2,c2⟩:=(L6.row2 E9).sat p
    obtain ⟨a3,B3,an,e3,_,_,c3,ac⟩:=(x.mono (Sk _) E).mv (show i<rkM V v d+1 from oo)
    obtain ⟨a4,e4,c4⟩:=ac.sat f
    rw [iN (Nat.lt_irrefl i),iP rfl] at c2
    refine ⟨a1,e1,oo,oo,_,by exact c1,a2,e2,oo,oo,_,c2,a3,e3,oo,oo,_,_,_,c3,a4,e4,oo,oo,_,by exact c4,?_⟩
    have sv:=(q.fn.sz _ (A5l q (Ek V v d f)).2).mono (show m<=mq by have:=q.m15;omega)
    have sk:=hs i oo j f
    refine Ed (m:=mq) (gl.mono E) (Tx.of sv oo) (Tx.of sk oo) oo ⟨_,rfl,B7 _,?_⟩
    rw [G1,G1]
    refine Kz (m:=2*mq) (gl.mono E) (Tx.of ((sR i j p oo).mono oo) oo) (Tx.of ((sv.mul sk).mono oo) oo) oo ⟨_,rfl,B7 _,_,rfl,oo,oo,?_⟩
    rw [G1,G1]
    refine L6.set E9 K0 rfl p (y:=E8 (rgS V v d M i (j+1))) (by rfl) rfl fun h7 L7=>?_
    rw [wiS j oo]
    refine ⟨⟨j+1,oo,rfl,?_⟩,by simp only [R9];omega⟩
    obtain ⟨g,o,S,ys,R,s,w1,w2,ap,hn,a,Q,X⟩:=L7
    refine ⟨g,o,S,ys,R,s,w1,w2,ap,hn,a,Q,X.congr fun t _=>?_⟩
    by_cases h1:t<i
    ·rw [iN oo,iP h1,iP h1]
    ·by_cases r:t=i
     ·grind
     grind
   ·obtain rfl:j=rkM V v d:=oo
    rw [wiS i oo]
    rw [<- ae] at L6 ⊢
    refine ⟨⟨i+1,_,_,oo,rfl,?_⟩,by simp only [R9];omega⟩
    obtain ⟨g,o,S,ys,R,s,w1,w2,ap,hn,a,Q,X⟩:=L6
    refine ⟨g,o,S,ys,R,s,w1,w2,ap,hn,a,Q,X.congr fun t _=>?_⟩
    by_cases h1:t<i
    ·grind
    ·rw [iN h1]
     by_cases r:t=i
     ·rw [iP r,iP oo,r];rfl
     grind
  ·obtain rfl:i=rkM V v d:=oo
   have N:=B0 W L.le
   have y:FM F mA (rkM V v d) (rkM V v d) mq (hkl P deg):=⟨r1,oo,r1,oo,by rw [hG];exact L.row E9,fun i j hi hj=>sS (i+j) oo⟩
   have rr:aM SSr F (some ⟨br,0,none⟩) (rkM V v d) (fun t=>E8 (rgt V v d M t)):=(L.row2 E9).congr fun t ht=>by grind
   refine Hl (gl.mono N) y rr (fun i hi=>sR i _ hi (aD _)) ok hq1 ⟨(sb _ (aD _)).1,(sb _ (aD _)).1,(sb _ (aD _)).2,(sb _ (aD _)).2⟩ fun A5 c5 B5 n5 d5 h5 l5 q5=>⟨_,_,_,_,_,_,_,rfl,D9 (fun e=>absurd rfl e) (fun _=>?_)⟩
   have aa:=B0 N l5
   exact Rh (m:=10000000) (gl.mono aa) q5 oo hx oo fun A6 c6 h6 l6 r6=>⟨_,_,_,_,rfl,hK _ _ _ (B0 aa l6) r6⟩
end
structure XOk (V:Nat->Rat) (v d N mq:Nat):Prop where
 n9:N<=999
 q1:15<=mq
 q2:mq<=1000000
 sb:SB (rkM V v d) mq
 kb:∀ k,k<=N->KB V (frm k) v d mq
 ku:∀ j,j<v->∀ i k,i<rkM V v d->k<rkM V v d->Sz mq (A02 V (uni j) v d i k)/\Sz mq (fmM V (uni j) v d i 0)
 no:∀ k,k<N->Iu (fmM V (frm k) v d) (rkM V v d)≠rkM V v d
 yes:Iu (fmM V (frm N) v d) (rkM V v d)=rkM V v d
 min:Cq (fl (Ng (kpw (fmM V (frm N) v d) (rkM V v d))) (rkM V v d)) (kpw (fmM V (frm N) v d) (rkM V v d) (rkM V v d)) (rkM V v d) (rkM V v d)
 minS:∀ i,i<rkM V v d->Sz 10000000 (B3h (fmM V (frm N) v d) (rkM V v d) i)
 coo:∀ j,j<v->Cq (fl (Ng (kpw (fmM V (frm N) v d) (rkM V v d))) (rkM V v d)) (fun i=>fmM V (uni j) v d i 0) (rkM V v d) (rkM V v d)
 cooS:∀ j,j<v->∀ i,i<rkM V v d->Sz 10000000 (A8a V v d (fmM V (frm N) v d) j i)
 sP:∀ i,i<=rkM V v d->Sz mq (Pz (fmM V (frm N) v d) (rkM V v d) i)
 sS:∀ k,k<2*rkM V v d-1->Sz mq (ps (Pz (fmM V (frm N) v d) (rkM V v d)) (rkM V v d) k)
 sT:∀ k i,k<2*rkM V v d-1->i<=k->i<=rkM V v d->Sz mq (psT (Pz (fmM V (frm N) v d) (rkM V v d)) (rkM V v d) (ps (Pz (fmM V (frm N) v d) (rkM V v d)) (rkM V v d)) k i)
 sR:∀ i n,i<rkM V v d->n<=rkM V v d->Sz mq (rgS V v d (fmM V (frm N) v d) i n)
 wok:Cq (fl (hkl (Pz (fmM V (frm N) v d) (rkM V v d)) (rkM V v d)) (rkM V v d)) (rgt V v d (fmM V (frm N) v d)) (rkM V v d) (rkM V v d)
 wS:∀ i,i<rkM V v d->Sz 10000000 (wgX V v d (fmM V (frm N) v d) (Pz (fmM V (frm N) v d) (rkM V v d)) (rkM V v d) i)
def TXr:aK->HV->Nat × (Nat->Rat)->Prop:=fun h w x=>w.n=x.1/\aM SSr h w.A x.1 (fun i=>E8 (x.2 i))
def B0i:Mon TXr:=fun _ _ _ _ l i=>⟨i.1,i.2.mono E9 l⟩
def C2z(V:Nat->Rat)(v d N:Nat)(j:Nat):Nat × (Nat->Rat):=(trN (A8a V v d (fmM V (frm N) v d) j) (rkM V v d),A8a V v d (fmM V (frm N) v d) j)
structure XtV (h:aK) (V:Nat->Rat) (v d N:Nat) (FA MA CA WA:Option aL):Prop where
 form:aM SSr h FA v (fun i=>E8 (frm N i))
 min:aM SSr h MA (rkM V v d+1) (fun i=>E8 (Pz (fmM V (frm N) v d) (rkM V v d) i))
 coo:aM TXr h CA v (C2z V v d N)
 wgt:aM SSr h WA (trN (wgX V v d (fmM V (frm N) v d) (Pz (fmM V (frm N) v d) (rkM V v d)) (rkM V v d)) (rkM V v d)) (fun i=>E8 (wgX V v d (fmM V (frm N) v d) (Pz (fmM V (frm N) v d) (rkM V v d)) (rkM V v d) i))
def xt0:aQ:=.agg #[.slice none 0 0,.slice none 0 0,.slice none 0 0,.slice none 0 0]
section
variable {h:aK} {K:VP} {A:Option aL} {c m mq v d D N:Nat} {V:Nat->Rat}
def Uw(gl:Gl h)(f:FnV h A v D m V)(hm1:1<=m)(hm:m<=15)(hd3:d<=3)
 (h3:d<1\/D<2*d->∀ h',h.le h'->K (.tuple #[xt0,I 3]) h')
 (h11:1<=d->2*d<=D->¬ (rkM V v d=rkM V v (d-1)/\1<=rkM V v d/\psd V v d)->∀ h',h.le h'->K (.tuple #[xt0,I 11]) h')
 (hok:∀ d',d=d'+1->2*d<=D->rkM V v d=rkM V v d'->1<=rkM V v d'->psd V v d->∃ N mq,XOk V v d' N mq/\
  ∀ FA fc MA mc CA cc WA wc h',h.le h'->XtV h' V v d' N FA MA CA WA->K (.tuple #[.agg #[.slice FA v fc,.slice MA (rkM V v d'+1) mc,.slice CA v cc,.slice WA (trN (wgX V v d' (fmM V (frm N) v d') (Pz (fmM V (frm N) v d') (rkM V v d')) (rkM V v d')) (rkM V v d')) wc],I 0]) h'):
 aN prog 13 #[.agg #[I (v:Int),I (D:Int),.slice A (mo v D).length c],I (d:Int)] h K:=by
 have v2:=f.v2
 refine (fnk func13 [(12,[50],[(4,4),(10,4)],[I 0,.slice none 0 0,.slice none 0 0,.slice none 0 0,.slice none 0 0,.slice none 0 0,.slice none 0 0,.slice none 0 0,.slice none 0 0])] (os:=[(1,[0,1,2,8,3,4,5,6,7,9,10])]) (own:=[2,4,6,9,10])) ?_
 refine Dq o fun b h1 own=>⟨_,_,_,rfl,own.le,?_⟩
 have B:=own.le
 refine Dp (F:=fun _=>0) (m2:=1) (gl.mono B) (f.mono B) hm1 hm hd3 (own.vis E9) (fun _ _=>Sz.zero o) o
  (fun e=>⟨_,_,_,_,_,_,_,_,_,_,_,_,_,_,rfl,B7 _,D9 (fun _=>h3 o _ B) (fun e=>o)⟩)
  (fun e1 e2 _ no=>⟨_,_,_,_,_,_,_,_,_,_,_,_,_,_,rfl,B7 _,D9 (fun _=>h11 e1 e2 (fun x=>no ⟨x.1,x.2.1,fun _=>x.2.2⟩) _ B) (fun e=>o)⟩) ?_
 intro d' ed hD _ r a Q BA bc IA ic h2 l2 rb ri
 obtain ⟨N,mq,X,kk⟩:=hok d' ed hD r a (Q rfl)
 refine ⟨_,_,_,_,_,_,_,_,_,_,_,_,_,_,rfl,l2,D9 (fun e=>absurd rfl e) (fun _=>?_)⟩
 have p:=B0 B l2
 have q:Quo h2 A BA IA v D m d' V:=⟨f.mono p,o,o,a,hm1,hm,rb,ri⟩
 have n:=gl.mono p
 have r6:=q.r6
 have ag:=X.q1;refine Ox n q X.n9 X.kb o X.q2 X.sb X.no X.yes fun FA fc KA kc h3 W rf rk=>⟨_,_,_,_,_,_,_,rfl,D9 (fun e=>absurd rfl e) (fun _=>?_)⟩
 have pw:=(X.kb N (aD _)).pw
 have key:∀ K':VP,(∀ A' c' h',h3.le h'->aM SSr h' A' (rkM V v d'+1) (fun i=>E8 (Pz (fmM V (frm N) v d') (rkM V v d') i))->K' (.tuple #[.slice A' (rkM V v d'+1) c',I 0]) h')->aN prog 62 #[.agg #[.slice KA (rkM V v d'+1) kc]] h3 K':=fun K' G=>by
  have:=Uv (K:=K') (kc:=kc) (n.mono W) rk a r6 pw o X.q2 X.sb
  rw [X.yes] at this
  exact this a X.min X.minS G
 refine key _ fun MA mc h4 O rm=>⟨_,_,_,_,rfl,D9 (fun e=>absurd rfl e) (fun _=>?_)⟩
 have u:=B0 W O
 have t:=rk.mono (Sk _) O
 have R:=rf.mono E9 O
 refine ⟨fun L hp=>∃ (j:Nat) (CA:Option aL) (cc:Nat),j<=v/\L=[I (j:Int),.slice none 0 0,.slice none 0 0,.slice none 0 0,.slice none 0 0,.slice FA v fc,.slice MA (rkM V v d'+1) mc,.slice CA j cc,.slice none 0 0]/\Lst TXr 31 h4 hp CA cc j (C2z V v d' N),fun L _=>v-(iAt L 0).toNat,⟨0,none,0,o,rfl,Lst.nil⟩,?_⟩
 rintro z aA an ac bA bn af cA cn ai dA dn dc eA v ec gA gn gc CA j cc iA iN ah hp ⟨j0,CA0,ae,hj,eL,L⟩
 obtain ⟨rfl,⟨rfl,rfl,rfl⟩,⟨rfl,rfl,rfl⟩,⟨rfl,rfl,rfl⟩,⟨rfl,rfl,rfl⟩,⟨rfl,rfl,rfl⟩,⟨rfl,rfl,rfl⟩,⟨rfl,rfl,rfl⟩,rfl,rfl,rfl⟩:=eL
 refine C0 (fun ad=>?_) (fun aa=>?_)
 ·have l:j<v:=o
  refine L.call B0i fun g E=>?_
  have s:=B0 u E
  refine Oy (mq:=mq) (n.mono s) (q.mono s) l (fun i k w T=>⟨(X.kb N (aD _)).iv i k w T,(X.ku j l i k w T).1⟩) o X.q2 (t.mono (Sk _) E) pw (fun i w=>(X.ku j l i i w w).2) X.sb (X.coo j l) (X.cooS j l) fun A5 c5 g5 S r5=>⟨S,fun h5 _ L5=>⟨_,_,_,_,rfl,D9 (fun e=>absurd rfl e) (fun _=>?_)⟩⟩
  refine L5.push B0i B8d rfl (y:=(⟨A5,_,c5⟩:HV)) (by rfl) ⟨rfl,r5⟩ (by decide) o fun A6 c6 h6 L6=>?_
  rw [wiS j o]
  exact ⟨⟨j+1,_,_,o,rfl,L6.weak (B0 E S)⟩,by simp only [R9];omega⟩
 ·obtain rfl:j=v:=o
  have M:=B0 u L.le
  refine Ys (mq:=mq) (n.mono M) (q.mono M) o X.q2 X.q1 (t.mono (Sk _) L.le) pw X.sb (rm.mono E9 L.le) a o X.sP X.sS X.sT X.sR X.wok X.wS fun WA wc h7 C H=>⟨_,_,_,_,rfl,D9 (fun e=>absurd rfl e) (fun _=>?_)⟩
  exact kk _ _ _ _ _ _ _ _ _ (B0 p (B0 M C)) ⟨R.mono E9 (B0 L.le C),rm.mono E9 (B0 L.le C),(L.row B0i).mono B0i C,H⟩
end
def Su{C:Nat->Nat->Rat}{n:Nat}(h:∀ x:Nat->Rat,(∀ i,i<n->sm n (fun t=>C i t*x t)=0)->∀ t,t<n->x t=0):(ecE C n n).cs.length=n:=by
 have f:=(U8 C n n).1
 refine bW fun e=>?_
 obtain ⟨x,⟨t,ht,hx⟩,h0⟩:∃ x:Nat->Rat,(∃ t,t<n/\x t≠0)/\∀ i,i<n->sm n (fun t=>C i t*x t)=0:=by
  have a:Asc (ecE C n n).cs n:=Fn n ⟨C,[],1⟩ rfl n
  have d:0<(Kh (ecE C n n).cs n).length:=by rw [Sw a];omega
  obtain ⟨b,c⟩:=My (ecE C n n).cs n _ (O4 d)
  refine ⟨B72 (ecE C n n).R (ecE C n n).cs n 0,⟨_,b,?_⟩,fun i g=>Yk (M:=C) (n:=n) (w:=n) d g⟩
  unfold B72
  rw [Xy c _ (aD _)]
  decide
 exact hx (h x h0 t ht)
def Kd{C:Nat->Nat->Rat}{n:Nat}(h:(ecE C n n).cs.length=n):No (fl C n) n:=by
 have b:=(Qu (n:=n) (w:=n) (M:=mtx (N8 (fl C n) n) (n+n)) (M':=C) (fun i j _ a=>by
  show N8 (fl C n) n (i*(n+n)+j)=_
  rw [Ii (fl C n) o,iP a]
  exact Er C a) n (aD n)).1
 show (Nq n ⟨mtx (N8 (fl C n) n) (n+n),[],1⟩ n).cs.length=n
 rw [b];exact h
def Sq{C:Nat->Nat->Rat}{n:Nat}(h:No (fl C n) n){i j:Nat}(hi:i<n)(hj:j<n):sm n (fun t=>C i t*Sr (fl C n) n t j)=if i=j then 1 else 0:=by
 rw [<- A46 h hi hj]
 exact C5 fun t a=>by rw [Er C a]
def U4{n m:Nat}(f:Nat->Rat)(A:Nat->Nat->Rat)(x:Nat->Rat):sm n (fun t=>f t*sm m fun j=>A t j*x j)=sm m fun j=>sm n (fun t=>f t*A t j)*x j:=by
 rw [C5 (g:=fun t=>sm m fun j=>f t*A t j*x j) fun t _=>by rw [<- J7];exact C5 fun j _=>by rw [cO]]
 rw [T8]
 exact C5 fun j _=>O9 _ _ _
structure Blk (s:Nat) (u:Nat->Rat) (B:Nat->Nat->Rat):Prop where
 pos:∀ l,l<s->0<u l
 inv:No (fl (gM s u B) s) s
def phM(s:Nat)(u φ:Nat->Rat)(B:Nat->Nat->Rat):Nat->Nat->Rat:=C0b s (Sr (fl (gM s u B) s) s) (fun i j=>sm s fun l=>u l*φ l*(B l i*B l j))
section
variable {s:Nat} {u φ:Nat->Rat} {B:Nat->Nat->Rat}
def Blk.ker(b:Blk s u B){x:Nat->Rat}(h:∀ l,l<s->sm s (fun t=>B l t*x t)=0):∀ t,t<s->x t=0:=by
 refine B0p b.inv (fun i j a c=>by rw [Er _ a,Er _ c];exact A49 s s u B i j a c) fun i a=>?_
 rw [C5 (g:=fun t=>sm s fun l=>u l*B l i*(B l t*x t)) fun t e=>by rw [Er _ e];unfold gM;rw [<- O9];exact C5 fun l _=>gz0]
 rw [T8]
 exact Q5 fun l d=>by rw [J7,h l d,bL]
def Blk.eq(b:Blk s u B){x y:Nat->Rat}(h:∀ l,l<s->sm s (fun t=>B l t*x t)=sm s (fun t=>B l t*y t)):∀ t,t<s->x t=y t:=fun t c=>by
 have:=b.ker (x:=fun t=>x t + - y t) (fun l a=>by
  rw [C5 (g:=fun t=>B l t*x t + - (B l t*y t)) fun t _=>gz0,Ce,Jd,h l a]
  grind) t c
 grind
def Blk.full(b:Blk s u B):No (fl B s) s:=Kd (Su fun _ h=>b.ker h)
def duM(s:Nat)(B:Nat->Nat->Rat):Nat->Nat->Rat:=Sr (fl B s) s
def Blk.du(b:Blk s u B){l k:Nat}(hl:l<s)(hk:k<s):sm s (fun t=>B l t*duM s B t k)=if l=k then 1 else 0:=Sq b.full hl hk
def Blk.left(b:Blk s u B){z:Nat->Rat}(h:∀ i,i<s->sm s (fun l=>z l*B l i)=0):∀ l,l<s->z l=0:=fun k a=>by
 have e:sm s (fun l=>z l*sm s fun t=>B l t*duM s B t k)=z k:=by
  rw [V4 a fun l d c=>by rw [b.du d a,iN c,bL],b.du a a,iP rfl,aY]
 rw [<- e,U4]
 exact Q5 fun j f=>by rw [h j f,aZ]
def Blk.mult(b:Blk s u B)(φ:Nat->Rat){l j:Nat}(hl:l<s)(hj:j<s):sm s (fun t=>B l t*phM s u φ B t j)=φ l*B l j:=by
 have key:=b.left (z:=fun l=>u l*(sm s (fun t=>B l t*phM s u φ B t j) + - (φ l*B l j))) (fun i a=>by
  have e:sm s (fun t=>gM s u B i t*phM s u φ B t j)=sm s fun l=>u l*φ l*(B l i*B l j):=by
   show sm s (fun t=>gM s u B i t*sm s fun f=>Sr (fl (gM s u B) s) s t f*_)=_
   rw [U4,V4 a fun k d c=>by rw [Sq b.inv a d,iN (Ne.symm c),aZ],Sq b.inv a a,iP rfl,bJ]
  have m:sm s (fun t=>gM s u B i t*phM s u φ B t j)=sm s fun l=>u l*B l i*sm s fun t=>B l t*phM s u φ B t j:=by
   rw [C5 (g:=fun t=>sm s fun l=>u l*B l i*(B l t*phM s u φ B t j)) fun t _=>by unfold gM;rw [<- O9];exact C5 fun l _=>gz0]
   rw [T8]
   exact C5 fun l _=>J7 _ _ _
  rw [C5 (g:=fun l=>u l*B l i*(sm s fun t=>B l t*phM s u φ B t j) + - (u l*φ l*(B l i*B l j))) fun l _=>gz0,Ce,Jd,<- e,<- m]
  grind) l hl
 have:=b.pos l hl
 grind
def Blk.pow(b:Blk s u B)(φ:Nat->Rat)(h1:1<=s)(h0:∀ l,l<s->B l 0=1):∀ k l,l<s->sm s (fun t=>B l t*kpw (phM s u φ B) s k t)=φ l^k:=by
 intro k
 induction k with
 | zero=>
  intro l a
  rw [V4 (k:=0) o fun t _ c=>by show B l t*(if t=0 then 1 else 0)=0;rw [iN c,bL]]
  show B l 0*(if 0=0 then 1 else 0)=_
  rw [iP rfl,h0 l a,bZ,bJ]
 | succ k ih=>
  intro l a
  show sm s (fun t=>B l t*sm s fun j=>phM s u φ B t j*kpw (phM s u φ B) s k j)=_
  rw [U4,C5 (g:=fun j=>φ l*(B l j*kpw (phM s u φ B) s k j)) fun j d=>by rw [b.mult φ a d,cO],J7,ih l a,cP,Rat.mul_comm]
def Blk.kpw_eq(b:Blk s u B)(φ:Nat->Rat)(h1:1<=s)(h0:∀ l,l<s->B l 0=1)(k:Nat):∀ t,t<s->kpw (phM s u φ B) s k t=sm s fun l=>duM s B t l*φ l^k:=by
 refine b.eq fun l a=>?_
 rw [b.pow φ h1 h0 k l a,U4,V4 a fun m d c=>by rw [b.du a d,iN (Ne.symm c),aZ],b.du a a,iP rfl,bJ]
def Blk.ph_eq(b:Blk s u B)(φ:Nat->Rat){j:Nat}(hj:j<s):∀ t,t<s->phM s u φ B t j=sm s fun l=>duM s B t l*(φ l*B l j):=by
 refine b.eq fun l a=>?_
 rw [b.mult φ a hj,U4,V4 a fun m d c=>by rw [b.du a d,iN (Ne.symm c),aZ],b.du a a,iP rfl,bJ]
end
def Dis(s:Nat)(φ:Nat->Rat):Prop:=∀ k l,k<s->l<s->k≠l->φ k≠φ l
def pvl(x:Nat->Rat)(n:Nat)(t:Rat):Rat:=sm n fun j=>t^j*x j
def A4u{s:Nat}(hs:s<=3){φ:Nat->Rat}(hd:Dis s φ){x:Nat->Rat}(h:∀ l,l<s->pvl x s (φ l)=0):∀ t,t<s->x t=0:=by
 rcases (show s=0\/s=1\/s=2\/s=3 from o) with rfl|rfl|rfl|rfl
 ·intro t f;omega
 ·intro t f
  obtain rfl:t=0:=o
  have:=h 0 o
  simp only [pvl,sm] at this
  grind
 ·have e:=h 0 o
  have c:=h 1 o
  have d:=hd 0 1 o o o
  simp only [pvl,sm] at e c
  have j:x 1=0:=gz0
  intro t f
  rcases (show t=0\/t=1 from o) with rfl|rfl<;>grind
 ·have e:=h 0 o
  have c:=h 1 o
  have k:=h 2 o
  have m:=hd 0 1 o o o
  have i:=hd 0 2 o o o
  have g:=hd 1 2 o o o
  simp only [pvl,sm] at e c k
  have a:x 1+(φ 0+φ 1)*x 2=0:=by
   have:(φ 0-φ 1)*(x 1+(φ 0+φ 1)*x 2)=0:=gz0
   grind
  have b:x 1+(φ 0+φ 2)*x 2=0:=by
   have:(φ 0-φ 2)*(x 1+(φ 0+φ 2)*x 2)=0:=gz0
   grind
  have n:x 2=0:=gz0
  have j:x 1=0:=gz0
  intro t f
  rcases (show t=0\/t=1\/t=2 from o) with rfl|rfl|rfl<;>grind
def Vs{s:Nat}(hs:s<=3){φ:Nat->Rat}(hd:Dis s φ){x y:Nat->Rat}(h:∀ l,l<s->pvl x s (φ l)=pvl y s (φ l)):∀ t,t<s->x t=y t:=fun t b=>by
 have:=A4u hs hd (x:=fun t=>x t + - y t) (fun l a=>by
  have:=h l a
  unfold pvl at *
  rw [C5 (g:=fun j=>φ l^j*x j + - (φ l^j*y j)) fun j _=>gz0,Ce,Jd,this]
  grind) t b
 grind
section
variable {s:Nat} {u φ:Nat->Rat} {B:Nat->Nat->Rat}
def Blk.col(b:Blk s u B)(φ:Nat->Rat)(h1:1<=s)(h0:∀ l,l<s->B l 0=1)(x:Nat->Rat){n l:Nat}(hl:l<s):sm s (fun t=>B l t*sm n fun j=>Ng (kpw (phM s u φ B) s) t j*x j)=pvl x n (φ l):=by
 rw [U4]
 exact C5 fun j _=>by rw [show sm s (fun t=>B l t*Ng (kpw (phM s u φ B) s) t j)=φ l^j from b.pow φ h1 h0 j l hl]
def Blk.deg(b:Blk s u B)(h1:1<=s)(hs:s<=3)(h0:∀ l,l<s->B l 0=1)(hd:Dis s φ):Iu (phM s u φ B) s=s:=
 Su fun x d=>A4u hs hd fun l a=>by
  rw [<- b.col φ h1 h0 x a]
  exact Q5 fun t c=>by rw [d t c,bL]
def Blk.dis(b:Blk s u B)(h1:1<=s)(h0:∀ l,l<s->B l 0=1)(hd:Iu (phM s u φ B) s=s):Dis s φ:=fun k l c g a e=>by
 have inv:=Kd (C:=Ng (kpw (phM s u φ B) s)) (n:=s) hd
 have row:∀ k,k<s->∀ m,m<s->pvl (fun j=>Sr (fl (Ng (kpw (phM s u φ B) s)) s) s j m) s (φ k)=B k m:=fun k c m d=>by
  rw [<- b.col φ h1 h0 _ c,V4 d fun t f a=>by rw [Sq inv f d,iN a,bL],Sq inv d d,iP rfl,aY]
 have i:sm s (fun t=>B k t*duM s B t k)=sm s (fun t=>B l t*duM s B t k):=C5 fun t f=>by rw [<- row k c t f,<- row l g t f,e]
 rw [b.du c c,b.du g c,iP rfl,iN (Ne.symm a)] at i
 exact absurd i dc
def Blk.slv(b:Blk s u B)(h1:1<=s)(h0:∀ l,l<s->B l 0=1)(hd:Iu (phM s u φ B) s=s)(y:Nat->Rat):Cq (fl (Ng (kpw (phM s u φ B) s)) s) y s s/\∀ l,l<s->pvl (Qf (fl (Ng (kpw (phM s u φ B) s)) s) y s s) s (φ l)=sm s fun t=>B l t*y t:=by
 have inv:=Kd (C:=Ng (kpw (phM s u φ B) s)) (n:=s) hd
 have ok:Cq (fl (Ng (kpw (phM s u φ B) s)) s) y s s:=A8z (fun j=>sm s fun m=>Sr (fl (Ng (kpw (phM s u φ B) s)) s) s j m*y m) fun i a=>by
  rw [C5 (g:=fun j=>Ng (kpw (phM s u φ B) s) i j*sm s fun m=>Sr (fl (Ng (kpw (phM s u φ B) s)) s) s j m*y m) fun j c=>by rw [Er _ c],U4,V4 a fun m e d=>by rw [Sq inv a e,iN (Ne.symm d),aZ],Sq inv a a,iP rfl,bJ]
 refine ⟨ok,fun l f=>?_⟩
 rw [<- b.col φ h1 h0 _ f]
 exact C5 fun t k=>by
  rw [<- A8y ok k]
  exact congrArg _ (C5 fun j c=>by rw [Er _ c])
def C2j{s:Nat}(h1:1<=s)(hs:s<=3){φ:Nat->Rat}(hd:Dis s φ){x:Nat->Rat}(hx:∀ l,l<s->pvl x s (φ l)=φ l^s):
 let P:=fun i=>if i=s then (1:Rat) else-x i
 ∀ k,k<2*s-1->ps P s k=sm s fun l=>φ l^k:=by
 intro P
 have d:∀ i,i<s->P i= - x i:=fun i r=>iN o
 rcases (show s=1\/s=2\/s=3 from o) with rfl|rfl|rfl
 ·intro k n
  obtain rfl:k=0:=o
  show ((1:Nat):Rat)=_
  simp only [sm,bZ];decide +kernel
 ·have e:=Vs o hd (x:=x) (y:=fun i=>if i=0 then-(φ 0*φ 1) else φ 0+φ 1) (fun l j=>by
   rw [hx l j]
   simp only [pvl,sm]
   rcases (show l=0\/l=1 from o) with rfl|rfl<;>simp<;>grind)
  have c:=e 0 o
  have a:=e 1 o
  rw [iP rfl] at c
  rw [iN o] at a
  have m:ps P 2 0=2:=rfl
  have b:ps P 2 1=φ 0+φ 1:=by
   rw [Jv]
   simp [psT,d,a]
   grind
  have f:ps P 2 2=φ 0^2+φ 1^2:=by
   rw [Jv]
   simp [psT,d,c,a,b]
   grind
  intro k n
  rcases (show k=0\/k=1\/k=2 from o) with rfl|rfl|rfl<;>simp only [sm,m,b,f]<;>grind
 ·have e:=Vs o hd (x:=x) (y:=fun i=>if i=0 then φ 0*φ 1*φ 2 else if i=1 then-(φ 0*φ 1+φ 0*φ 2+φ 1*φ 2) else φ 0+φ 1+φ 2) (fun l j=>by
   rw [hx l j]
   simp only [pvl,sm]
   rcases (show l=0\/l=1\/l=2 from o) with rfl|rfl|rfl<;>simp<;>grind)
  have c:=e 0 o
  have a:=e 1 o
  have g:=e 2 o
  simp at c a g
  have m:ps P 3 0=3:=rfl
  have b:ps P 3 1=φ 0+φ 1+φ 2:=by
   rw [Jv]
   simp [psT,d,g]
   grind
  have f:ps P 3 2=φ 0^2+φ 1^2+φ 2^2:=by
   rw [Jv]
   simp [psT,d,a,g,b]
   grind
  have p:ps P 3 3=φ 0^3+φ 1^3+φ 2^3:=by
   rw [Jv]
   simp [psT,d,c,a,g,b,f]
   grind
  have q:ps P 3 4=φ 0^4+φ 1^4+φ 2^4:=by
   rw [Jv]
   simp [psT,d,c,a,g,b,f,p]
   grind
  intro k n
  rcases (show k=0\/k=1\/k=2\/k=3\/k=4 from o) with rfl|rfl|rfl|rfl|rfl<;>simp only [sm,m,b,f,p,q]<;>grind
end
def A0r(q:Rat)(n:Nat):(q^n).num=q.num^n/\(q^n).den=q.den^n:=⟨Rat.num_pow q n,Rat.den_pow q n⟩
def ZB.pow{m:Nat}{x:Int}(h:ZB m x)(hm:1<=m)(n:Nat):ZB (m*n+1) (x^n):=by
 unfold ZB
 rw [Int.natAbs_pow]
 exact A6z h hm n
def Sz.pow{m:Nat}{q:Rat}(h:Sz m q)(hm:1<=m)(n:Nat):Sz (m*n+1) (q^n):=by
 obtain ⟨a,b⟩:=A0r q n
 refine ⟨by rw [a];exact h.num.pow hm n,?_⟩
 rw [b,Int.natCast_pow];exact h.den.pow hm n
section
variable {h:aK} {K:VP} {m:Nat} {a b:List UInt8} {w:QV} {q:Rat}
end
def W9(q:Rat)(a b:Nat):q^(a+b)=q^a*q^b:=by
 induction b with
 | zero=>rw [cQ,bZ,aY]
 | succ b ih=>rw [<- Nat.add_assoc,cP,cP,ih,cO]
section
variable {h:aK} {K:VP} {w:QV} {p:Rat} {m:Nat}
def A7l{n:Nat}(i:NQ h w p)(hp:Sz m p)(hm1:1<=m)(hn:n<=1000)(hm:m*n+1<=1000000)(hK:∀ w h',h.le h'->NQ h' w (p^n)->K w.v h'):aN prog 119 #[w.v,I (n:Int)] h K:=by
 refine (fnk func119 [(2,[1],[(2,4),(5,4)],[I 0,.bool false,.slice none 0 0,.bool false,.slice none 0 0,.bool false,.slice none 0 0,.bool false,.slice none 0 0])] (own:=[2,4,5])) ?_
 refine Gh o ?_
 intro w0 B E i0
 refine ⟨_,_,_,_,_,_,_,_,rfl,?_⟩
 refine ⟨fun L hp=>h.le hp/\∃ (a e f:Nat) (v u:QV),(a<=n/\f+e*a=n)/\NQ hp v (p^e)/\NQ hp u (p^f)/\L=I (a:Int)::(qc v++qc u),fun L _=>(iAt L 0).toNat,⟨E,n,1,0,w,w0,⟨aD _,o⟩,by rw [Rat.pow_one];exact i.mono E,by rw [bZ];exact i0,rfl⟩,?_⟩
 rintro t a0 S ad af a2 R N aa o0 T ac ae o2 Q W X k ⟨y,a,e,f,v,u,⟨G,F⟩,j,q,C⟩
 simp only [qc,List.cons_append,List.nil_append,aG,aI,bG,aH,true_and,and_true] at C
 obtain ⟨rfl,rfl,⟨rfl,rfl,rfl⟩,rfl,⟨rfl,rfl,rfl⟩,rfl,⟨rfl,rfl,rfl⟩,rfl,rfl,rfl,rfl⟩:=C
 refine C0 (fun g=>?_) (fun g=>?_)
 ·have l:1<=a:=o
  have he:e<=n:=by
   have:e*1<=e*a:=aR e l
   omega
  have hf:f<=n:=o
  have O:Int.tmod (a:Int) 2=((a%2:Nat):Int):=by rw [Int.tmod_eq_emod_of_nonneg o];omega
  have M:C4 (Int.tdiv (a:Int) 2)=((a/2:Nat):Int):=by rw [bF o,C1 o o];omega
  have z:m*e+1<=m*n+1:=by have:=aR m he;omega
  have r:m*f+1<=m*n+1:=by have:=aR m hf;omega
  have d:=(hp.pow hm1 e).mono z
  have zf:=(hp.pow hm1 f).mono r
  have D:e*a=(e+e)*(a/2)+e*(a%2):=by
   have:=Nat.div_add_mod a 2
   calc e*a=e*(2*(a/2)+a%2):=by rw [this]
    _=(e+e)*(a/2)+e*(a%2):=by rw [Nat.mul_add,<- Nat.mul_assoc,cG e 2,Nat.two_mul]
  rw [O,M]
  refine D5 (fun g1=>?_) (fun g1=>?_)
  ·refine S7 q j zf d o ?_
   intro V h2 A H
   refine ⟨_,_,_,_,_,_,_,_,rfl,S7 (j.mono A) (j.mono A) d d o ?_⟩
   intro s h3 c b
   rw [<- W9] at H b
   refine ⟨_,_,_,_,_,_,_,_,rfl,⟨B0 y (B0 A c),a/2,e+e,f+e,s,V,?_,b,H.mono c,rfl⟩,?_⟩
   ·have:a%2=1:=o
    rw [this,cF] at D;exact ⟨o,o⟩
   ·simp [iAt];omega
  ·refine S7 j j d d o ?_
   intro s h3 c b
   rw [<- W9] at b
   refine ⟨_,_,_,_,_,_,_,_,rfl,⟨B0 y c,a/2,e+e,f,s,u,?_,b,q.mono c,rfl⟩,?_⟩
   ·have:a%2=0:=o
    rw [this,Nat.mul_zero] at D;exact ⟨o,o⟩
   ·simp [iAt];omega
 ·have B:a=0:=o
  subst B
  rw [Nat.mul_zero,cQ] at F
  subst F
  exact hK u k y q
end
def C3n{s:Nat}(hs:s<=3){φ:Nat->Rat}(hd:Dis s φ)(D:Nat->Nat->Rat)(hD:∀ l m,l<s->m<s->pvl (fun j=>D j m) s (φ l)=if l=m then 1 else 0){H:Nat->Nat->Rat}(hH:∀ i k,i<s->k<s->H i k=sm s fun l=>φ l^(i+k)){u r:Nat->Rat}(hr:∀ i,i<s->r i=sm s fun l=>u l*φ l^i):
 Cq (fl H s) r s s/\∀ l,l<s->pvl (Qf (fl H s) r s s) s (φ l)=u l:=by
 have Hx:∀ x:Nat->Rat,∀ i,i<s->sm s (fun k=>mtx (fl H s) s i k*x k)=sm s fun l=>φ l^i*pvl x s (φ l):=fun x i a=>by
  rw [C5 (g:=fun k=>sm s (fun l=>φ l^i*φ l^k)*x k) fun k f=>by rw [Er _ f,hH i k a f];exact congrArg (· * x k) (C5 fun l _=>W9 _ _ _),<- U4]
  rfl
 have ok:Cq (fl H s) r s s:=A8z (fun j=>sm s fun m=>D j m*u m) fun i a=>by
  rw [Hx _ i a,hr i a]
  refine C5 fun l d=>?_
  have:pvl (fun j=>sm s fun m=>D j m*u m) s (φ l)=u l:=by
   show sm s (fun j=>φ l^j*sm s fun m=>D j m*u m)=_
   rw [U4,V4 d fun m c b=>by
    have:=hD l m d c
    rw [iN (Ne.symm b)] at this
    show pvl (fun j=>D j m) s (φ l)*u m=0
    rw [this,aZ]]
   have:=hD l l d d
   rw [iP rfl] at this
   show pvl (fun j=>D j l) s (φ l)*u l=u l
   rw [this,bJ]
  rw [this,Rat.mul_comm]
 refine ⟨ok,fun m c=>?_⟩
 have n:∀ i,i<s->sm s (fun l=>(pvl (Qf (fl H s) r s s) s (φ l) + - u l)*φ l^i)=0:=fun i a=>by
  have e:=A8y ok a
  rw [Hx _ i a,hr i a] at e
  rw [C5 (g:=fun l=>φ l^i*pvl (Qf (fl H s) r s s) s (φ l) + - (u l*φ l^i)) fun l _=>gz0,Ce,Jd,e]
  grind
 have e:sm s (fun l=>(pvl (Qf (fl H s) r s s) s (φ l) + - u l)*pvl (fun j=>D j m) s (φ l))=pvl (Qf (fl H s) r s s) s (φ m) + - u m:=by
  rw [V4 c fun l d b=>by rw [hD l m d c,iN b,bL],hD m m c c,iP rfl,aY]
 have:sm s (fun l=>(pvl (Qf (fl H s) r s s) s (φ l) + - u l)*pvl (fun j=>D j m) s (φ l))=0:=by
  unfold pvl at n ⊢
  rw [U4]
  exact Q5 fun j p=>by rw [n j p,aZ]
 grind
def mvl(x:Nat->Rat):List Int->Nat->Rat
 | [],_=>1
 | e::es,i=>x i^e.toNat*mvl x es (i+1)
def ptV(s:Nat)(u:Nat->Rat)(y:Nat->Nat->Rat)(v D:Nat):Nat->Rat:=fun i=>sm s fun l=>u l*mvl (y l) (mon v D i) 0
def wV(y:Nat->Nat->Rat)(v d:Nat):Nat->Nat->Rat:=fun l i=>mvl (y l) (mon v d i) 0
def B6r(x:Nat->Rat)(a:Int):mvl x [a] 0=x 0^a.toNat:=by simp [mvl]
def B0d(x:Nat->Rat)(a b:Int):mvl x [a,b] 0=x 0^a.toNat*x 1^b.toNat:=by simp [mvl]
def B0b(x:Nat->Rat){a b:List Int}(hl:a.length=b.length)(h:a.length=1\/a.length=2)(ha:∀ z∈a,0<=z)(hb:∀ z∈b,0<=z):mvl x (opL (fun x y=>x+y) a b) 0=mvl x a 0*mvl x b 0:=by
 rcases h with h|h
 ·obtain ⟨c,rfl⟩:=List.length_eq_one_iff.1 h
  obtain ⟨b0,rfl⟩:=List.length_eq_one_iff.1 (hl▸h)
  have e:opL (fun x y=>x+y) [c] [b0]=[c+b0]:=rfl
  have:=ha c (by simp);have:=hb b0 (by simp)
  rw [e,B6r,B6r,B6r,<- W9,aW o o]
 ·obtain ⟨c,a1,rfl⟩:∃ c a1,a=[c,a1]:=by
   match a,h with
   | [c,a1],_=>exact ⟨c,a1,rfl⟩
  obtain ⟨b0,b1,rfl⟩:∃ b0 b1,b=[b0,b1]:=by
   match b,hl with
   | [b0,b1],_=>exact ⟨b0,b1,rfl⟩
  have e:opL (fun x y=>x+y) [c,a1] [b0,b1]=[c+b0,a1+b1]:=rfl
  have:=ha c (by simp);have:=hb b0 (by simp);have:=ha a1 (by simp);have:=hb b1 (by simp)
  rw [e,B0d,B0d,B0d,aW o o,aW o o,W9,W9]
  grind
section
variable {s:Nat} {u:Nat->Rat} {y:Nat->Nat->Rat} {v d D:Nat}
def Ka(h1:1<=v)(h2:v<=2)(hD:D<=6){k:Nat}(hk:k<(mo v D).length):(mon v D k).length=v/\∀ z∈mon v D k,0<=z:=
 ⟨((O3 h1 h2 hD).val k hk).2.1,fun z a=>((mz h1 h2 hD hk).bnd z a).1⟩
def C00(s:Nat)(u:Nat->Rat)(y:Nat->Nat->Rat)(h1:1<=v)(h2:v<=2)(hd:d<=3)(hD:D<=6)(hdD:2*d<=D){i j:Nat}(hi:i<nM v d)(hj:j<nM v d):Kb (ptV s u y v D) v d i j=gM s u (wV y v d) i j:=by
 have q:=Q9 h1 h2 hd hD hdD hi hj
 obtain ⟨c,a⟩:=Ka h1 h2 (show d<=6 from o) hi
 obtain ⟨e,b⟩:=Ka h1 h2 (show d<=6 from o) hj
 unfold Kb ptV gM wV
 rw [<- q.eq]
 exact C5 fun l _=>by rw [B0b _ o o a b]
end
def PtD(s v:Nat)(y:Nat->Nat->Rat):Prop:=∀ k l,k<s->l<s->k≠l->∃ i,i<v/\y k i≠y l i
def unL(v a:Nat):List Int:=(bM v).map fun i=>if i=a then 1 else 0
def C3o(v a b:Nat):List Int:=(bM v).map fun i=>(if i=a then 1 else 0)+if i=b then 1 else 0
def A47:∀ v:Fin 3,∀ d:Fin 4,1<=v.val->(mon v d 0=(bM v).map fun _=>0)/\(1<=d.val->∀ a:Fin 2,a.val<v.val->∃ i:Fin 10,i.val<nM v d/\mon v d i=unL v a)/\(2<=d.val->∀ a b:Fin 2,a.val<v.val->b.val<v.val->∃ i:Fin 10,i.val<nM v d/\mon v d i=C3o v a b):=by decide +kernel
section
variable {s v d:Nat} {y:Nat->Nat->Rat}
def Rep(s v d:Nat)(y:Nat->Nat->Rat)(f:Nat->Rat):Prop:=∃ q:Nat->Rat,∀ l,l<s->sm (nM v d) (fun i=>wV y v d l i*q i)=f l
def Rep.congr{f g:Nat->Rat}(r:Rep s v d y f)(h:∀ l,l<s->f l=g l):Rep s v d y g:=by
 obtain ⟨q,b⟩:=r
 exact ⟨q,fun l a=>by rw [b l a,h l a]⟩
def Rep.add{f g:Nat->Rat}(r:Rep s v d y f)(t:Rep s v d y g):Rep s v d y (fun l=>f l+g l):=by
 obtain ⟨q,c⟩:=r
 obtain ⟨p,b⟩:=t
 refine ⟨fun i=>q i+p i,fun l a=>?_⟩
 dsimp only
 rw [<- c l a,<- b l a,<- Ce]
 exact C5 fun i _=>Rat.mul_add _ _ _
def Rep.mul{f:Nat->Rat}(c:Rat)(r:Rep s v d y f):Rep s v d y (fun l=>c*f l):=by
 obtain ⟨q,b⟩:=r
 refine ⟨fun i=>c*q i,fun l a=>?_⟩
 dsimp only
 rw [<- b l a,<- J7]
 exact C5 fun i _=>by grind
def Rep.mon{i:Nat}(hi:i<nM v d):Rep s v d y (fun l=>wV y v d l i):=by
 refine ⟨fun j=>if j=i then 1 else 0,fun l _=>?_⟩
 dsimp only
 rw [V4 hi fun j _ a=>by rw [iN a,bL],iP rfl,aY]
def A2x(h1:1<=v)(h2:v<=2)(hd:d<=3)(l:Nat):wV y v d l 0=1:=by
 have:=(A47 ⟨v,o⟩ ⟨d,o⟩ h1).1
 dsimp only at this
 unfold wV
 rw [this]
 rcases (show v=1\/v=2 from o) with rfl|rfl
 ·show mvl (y l) [0] 0=1
  simp [mvl]
 ·show mvl (y l) [0,0] 0=1
  simp [mvl]
def Rep.one(h1:1<=v)(h2:v<=2)(hd:d<=3):Rep s v d y (fun _=>1):=(Rep.mon (Sg h1 h2 hd).1).congr fun l _=>A2x h1 h2 hd l
def Rep.var(h1:1<=v)(h2:v<=2)(hd:d<=3)(hd1:1<=d){a:Nat}(ha:a<v):Rep s v d y (fun l=>y l a):=by
 obtain ⟨i,b,e⟩:=(A47 ⟨v,o⟩ ⟨d,o⟩ h1).2.1 hd1 ⟨a,o⟩ ha
 dsimp only at b e
 refine (Rep.mon b).congr fun l _=>?_
 unfold wV
 rw [e]
 rcases (show v=1\/v=2 from o) with rfl|rfl
 ·obtain rfl:a=0:=o
  show mvl (y l) [1] 0=_
  simp [mvl]
 ·rcases (show a=0\/a=1 from o) with rfl|rfl
  ·show mvl (y l) [1,0] 0=_
   simp [mvl]
  ·show mvl (y l) [0,1] 0=_
   simp [mvl]
def B4f(h1:1<=v)(h2:v<=2)(hd:d<=3)(hd1:2<=d){a b:Nat}(ha:a<v)(hb:b<v):Rep s v d y (fun l=>y l a*y l b):=by
 obtain ⟨i,c,e⟩:=(A47 ⟨v,o⟩ ⟨d,o⟩ h1).2.2 hd1 ⟨a,o⟩ ⟨b,o⟩ ha hb
 dsimp only at c e
 refine (Rep.mon c).congr fun l _=>?_
 unfold wV
 rw [e]
 rcases (show v=1\/v=2 from o) with rfl|rfl
 ·obtain rfl:a=0:=o
  obtain rfl:b=0:=o
  show mvl (y l) [2] 0=_
  simp [mvl];grind
 ·rcases (show a=0\/a=1 from o) with rfl|rfl<;>rcases (show b=0\/b=1 from o) with rfl|rfl
  ·show mvl (y l) [2,0] 0=_
   simp [mvl];grind
  ·show mvl (y l) [1,1] 0=_
   simp [mvl]
  ·show mvl (y l) [1,1] 0=_
   simp [mvl];grind
  ·show mvl (y l) [0,2] 0=_
   simp [mvl];grind
def Rep.aff(h1:1<=v)(h2:v<=2)(hd:d<=3)(hd1:1<=d){a:Nat}(ha:a<v)(c:Rat):Rep s v d y (fun l=>y l a-c):=
 ((Rep.var h1 h2 hd hd1 ha).add ((Rep.one h1 h2 hd).mul (-c))).congr fun l _=>by grind
def B4g(h1:1<=v)(h2:v<=2)(hd:d<=3)(hd1:2<=d){a b:Nat}(ha:a<v)(hb:b<v)(c e:Rat):Rep s v d y (fun l=>(y l a-c)*(y l b-e)):=
 (((B4f h1 h2 hd hd1 ha hb).add ((Rep.var h1 h2 hd o ha).mul (-e))).add (((Rep.var h1 h2 hd o hb).mul (-c)).add ((Rep.one h1 h2 hd).mul (c*e)))).congr fun l _=>by grind
def B1t(h1:1<=v)(h2:v<=2)(hd:d<=3)(hs:s<=3)(hsd:s<=d+1)(hy:PtD s v y){k:Nat}(hk:k<s):Rep s v d y (fun l=>if l=k then 1 else 0):=by
 have one:∀ k l,k<s->l<s->k≠l->s=2->Rep s v d y (fun m=>if m=k then 1 else 0):=fun k l hk f hkl e=>by
  obtain ⟨a,j,g⟩:=hy k l hk f hkl
  refine ((Rep.aff h1 h2 hd o j (y l a)).mul (y k a-y l a)⁻¹).congr fun m n=>?_
  by_cases h:m=k
  ·rw [iP h,h]
   exact Rat.inv_mul_cancel _ gz0
  ·rw [iN h]
   obtain rfl:m=l:=o
   grind
 have c:∀ k l m,k<s->l<s->m<s->k≠l->k≠m->l≠m->s=3->Rep s v d y (fun t=>if t=k then 1 else 0):=fun k l m hk f n hkl i q e=>by
  obtain ⟨a,j,g⟩:=hy k l hk f hkl
  obtain ⟨b,r,p⟩:=hy k m hk n i
  refine ((B4g h1 h2 hd o j r (y l a) (y m b)).mul ((y k a-y l a)*(y k b-y m b))⁻¹).congr fun t u=>?_
  by_cases h:t=k
  ·rw [iP h,h]
   exact Rat.inv_mul_cancel _ gz0
  ·rw [iN h]
   rcases (show t=l\/t=m from o) with rfl|rfl<;>grind
 rcases (show s=1\/s=2\/s=3 from o) with rfl|rfl|rfl
 ·exact (Rep.one h1 h2 hd).congr fun l f=>by rw [iP o]
 ·rcases (show k=0\/k=1 from o) with rfl|rfl
  ·exact one 0 1 o o o rfl
  ·exact one 1 0 o o o rfl
 ·rcases (show k=0\/k=1\/k=2 from o) with rfl|rfl|rfl
  ·exact c 0 1 2 o o o o o o rfl
  ·exact c 1 0 2 o o o o o o rfl
  ·exact c 2 0 1 o o o o o o rfl
def B9z{u:Nat->Rat}(h1:1<=v)(h2:v<=2)(hd:d<=3)(hs:s<=3)(hsd:s<=d+1)(hy:PtD s v y)(hu:∀ l,l<s->0<u l):Ptw s (nM v d) u (wV y v d):=by
 have h:∀ k,∃ q:Nat->Rat,k<s->∀ l,l<s->sm (nM v d) (fun i=>wV y v d l i*q i)=if l=k then 1 else 0:=fun k=>by
  by_cases a:k<s
  ·obtain ⟨q,c⟩:=B1t h1 h2 hd hs hsd hy a
   exact ⟨q,fun _=>c⟩
  ·exact ⟨fun _=>0,fun h=>absurd h a⟩
 exact ⟨hu,fun k=>Classical.choose (h k),fun l k b a=>Classical.choose_spec (h k) a l b⟩
end
def B3l{M:Nat->Nat->Rat}{n:Nat}(hn:1<=n)(h0:M 0 0≠0):∀ c,1<=(ecE M n (c+1)).cs.length/\(ecE M n (c+1)).cs.getD 0 0=0:=by
 intro c
 induction c with
 | zero=>
  have e:ecE M n 1=Y8 n 0 ⟨M,[],1⟩:=rfl
  have a:Gg n 0 ⟨M,[],1⟩=0:=We _ (aD _) o (fun j _ b=>o) fun _=>by simpa using h0
  rw [e]
  unfold Y8
  rw [iP (show ([]:List Nat).length<n from hn),a,iP o]
  exact ⟨aD _,rfl⟩
 | succ c ih=>
  have e:ecE M n (c+1+1)=Y8 n (c+1) (ecE M n (c+1)):=rfl
  rw [e]
  generalize ecE M n (c+1)=s at *
  unfold Y8
  split
  ·split
   ·refine ⟨by simp,?_⟩
    show (s.cs++[c+1]).getD 0 0=0
    rw [Mq _ _ 0 o];exact ih.2
   ·exact ih
  ·exact ih
structure Pts (s v:Nat) (u:Nat->Rat) (y:Nat->Nat->Rat):Prop where
 s1:1<=s
 s3:s<=3
 v1:1<=v
 v2:v<=2
 dif:PtD s v y
 pos:∀ l,l<s->0<u l
def bB(V:Nat->Rat)(y:Nat->Nat->Rat)(v d:Nat):Nat->Nat->Rat:=fun l t=>wV y v d l ((pvL V v d).getD t 0)
section
variable {s v d D:Nat} {u:Nat->Rat} {y:Nat->Nat->Rat}
def Pts.mom(p:Pts s v u y)(hd:d<=3)(hD:D<=6)(hdD:2*d<=D){i j:Nat}(hi:i<nM v d)(hj:j<nM v d):Kb (ptV s u y v D) v d i j=gM s u (wV y v d) i j:=C00 s u y p.v1 p.v2 hd hD hdD hi hj
def Pts.cs(p:Pts s v u y)(hd:d<=3)(hD:D<=6)(hdD:2*d<=D):pvL (ptV s u y v D) v d=(ecE (gM s u (wV y v d)) (nM v d) (nM v d)).cs:=(Qu (n:=nM v d) (w:=nM v d) (fun i j b a=>p.mom hd hD hdD b a) _ (aD _)).1
def Pts.rk(p:Pts s v u y)(hd:d<=3)(hD:D<=6)(hdD:2*d<=D)(hs:s<=d+1):rkM (ptV s u y v D) v d=s:=by
 have h:=(B9z (d:=d) p.v1 p.v2 hd p.s3 hs p.dif p.pos).rank
 rw [<- p.cs hd hD hdD] at h
 exact h
def Pts.psd(p:Pts s v u y)(hd:d<=3)(hD:D<=6)(hdD:2*d<=D):psd (ptV s u y v D) v d:=
 B74 (s:=s) (u:=u) (fun l b=>Rat.le_of_lt (p.pos l b)) (wV y v d) fun i j c a=>by rw [Er _ a,p.mom hd hD hdD c a]
def Pts.lt(p:Pts s v u y)(hd:d<=3)(V:Nat->Rat)(t:Nat):(pvL V v d).getD t 0<nM v d:=by
 by_cases h:t<rkM V v d
 ·exact Ek V v d h
 ·have:=(Sg p.v1 p.v2 hd).1
  rw [List.getD_eq_getElem?_getD,List.getElem?_eq_none (by unfold rkM at h;unfold pvL;omega)]
  exact this
def Pts.sq(p:Pts s v u y)(hd:d<=3)(hD:D<=6)(hdD:2*d<=D):sqM (ptV s u y v D) v d=gM s u (bB (ptV s u y v D) y v d):=
 funext fun i=>funext fun j=>p.mom hd hD hdD (p.lt hd _ i) (p.lt hd _ j)
def Pts.blk(p:Pts s v u y)(hd:d<=3)(hD:D<=6)(hdD:2*d<=D)(hs:s<=d+1):Blk s u (bB (ptV s u y v D) y v d):=by
 have h:=Vk (V:=ptV s u y v D) p.v1 p.v2 hd hD hdD
 rw [p.rk hd hD hdD hs,p.sq hd hD hdD] at h
 exact ⟨p.pos,h⟩
def Pts.b0(p:Pts s v u y)(hd:d<=3)(hD:D<=6)(hdD:2*d<=D)(l:Nat):bB (ptV s u y v D) y v d l 0=1:=by
 have f:=(Sg p.v1 p.v2 hd).1
 have a:gM s u (wV y v d) 0 0≠0:=by
  have e:gM s u (wV y v d) 0 0=sm s fun l=>u l:=C5 fun l _=>by rw [A2x p.v1 p.v2 hd,aY,aY]
  rw [e]
  intro c
  have:=Dj (fun l b=>Rat.le_of_lt (p.pos l b)) (by rw [c];exact Rat.le_refl) 0 p.s1
  have:=p.pos 0 p.s1
  grind
 unfold bB
 rw [p.cs hd hD hdD,show nM v d=nM v d-1+1 from o]
 have:=(B3l (n:=nM v d-1+1) o a (nM v d-1)).2
 rw [this]
 exact A2x p.v1 p.v2 hd l
def phi(F:Nat->Rat)(y:Nat->Nat->Rat)(v:Nat):Nat->Rat:=fun l=>sm v fun j=>F j*y l j
def C0a(x:Nat->Rat){a b:List Int}{v j:Nat}(hv:v=1\/v=2)(ha:a.length=v)(hb:b.length=v)(hj:j<v)(pa:∀ z∈a,0<=z)(pb:∀ z∈b,0<=z):mvl x (mpx a b j) 0=x j*(mvl x a 0*mvl x b 0):=by
 rcases hv with rfl|rfl
 ·obtain ⟨c,rfl⟩:=List.length_eq_one_iff.1 ha
  obtain ⟨b0,rfl⟩:=List.length_eq_one_iff.1 hb
  obtain rfl:j=0:=o
  have e:mpx [c] [b0] 0=[c+b0+1]:=rfl
  have:=pa c (by simp);have:=pb b0 (by simp)
  rw [e,B6r,B6r,B6r,aW o o,aW o o,W9,W9]
  simp
  grind
 ·obtain ⟨c,a1,rfl⟩:∃ c a1,a=[c,a1]:=by
   match a,ha with
   | [c,a1],_=>exact ⟨c,a1,rfl⟩
  obtain ⟨b0,b1,rfl⟩:∃ b0 b1,b=[b0,b1]:=by
   match b,hb with
   | [b0,b1],_=>exact ⟨b0,b1,rfl⟩
  have:=pa c (by simp);have:=pb b0 (by simp);have:=pa a1 (by simp);have:=pb b1 (by simp)
  rcases (show j=0\/j=1 from o) with rfl|rfl
  ·have e:mpx [c,a1] [b0,b1] 0=[c+b0+1,a1+b1]:=rfl
   rw [e,B0d,B0d,B0d,aW o o,aW o o,aW o o,W9,W9,W9]
   simp
   grind
  ·have e:mpx [c,a1] [b0,b1] 1=[c+b0,a1+b1+1]:=rfl
   rw [e,B0d,B0d,B0d,aW o o,aW o o,aW o o,W9,W9,W9]
   simp
   grind
def Pts.val(p:Pts s v u y)(hd:d<=2)(hD:D<=6)(hdD:2*d+2<=D)(F:Nat->Rat)(i k:Nat):A02 (ptV s u y v D) F v d i k=sm s fun l=>u l*phi F y v l*(bB (ptV s u y v D) y v d l i*bB (ptV s u y v D) y v d l k):=by
 have c:=p.lt (d:=d) o (ptV s u y v D) i
 have a:=p.lt (d:=d) o (ptV s u y v D) k
 obtain ⟨m,g⟩:=Ka p.v1 p.v2 (show d<=6 from o) c
 obtain ⟨f,q⟩:=Ka p.v1 p.v2 (show d<=6 from o) a
 have e:∀ j,j<v->F j*ptV s u y v D (mi3 (bdr (ptV s u y v D) v d i) (bdr (ptV s u y v D) v d k) j)=sm s fun l=>F j*y l j*(u l*(bB (ptV s u y v D) y v d l i*bB (ptV s u y v D) y v d l k)):=fun j b=>by
  have n:=mu3 p.v1 p.v2 hd hD o c a b
  rw [show ptV s u y v D (mi3 (bdr (ptV s u y v D) v d i) (bdr (ptV s u y v D) v d k) j)=sm s fun l=>u l*mvl (y l) (mpx (bdr (ptV s u y v D) v d i) (bdr (ptV s u y v D) v d k) j) 0 by
   show (sm s fun l=>u l*mvl (y l) (mon v D (mi3 (mon v d ((pvL (ptV s u y v D) v d).getD i 0)) (mon v d ((pvL (ptV s u y v D) v d).getD k 0)) j)) 0)=_
   rw [<- n.eq];rfl,<- J7]
  exact C5 fun l _=>by
   show _*(_*mvl (y l) (mpx (mon v d _) (mon v d _) j) 0)=_
   rw [C0a (y l) (by have:=p.v1;have:=p.v2;omega) m f b g q]
   show _=_*(_*(mvl (y l) (mon v d _) 0*mvl (y l) (mon v d _) 0))
   grind
 show (sm v fun j=>F j*_)=_
 rw [C5 e,T8]
 refine C5 fun l _=>?_
 rw [O9]
 show phi F y v l*_=_
 grind
def Pts.fm(p:Pts s v u y)(hd:d<=2)(hD:D<=6)(hdD:2*d+2<=D)(hs:s<=d+1)(F:Nat->Rat):fmM (ptV s u y v D) F v d=phM s u (phi F y v) (bB (ptV s u y v D) y v d):=by
 unfold fmM phM ivM
 rw [p.rk o hD o hs,p.sq o hD o,show A02 (ptV s u y v D) F v d=fun i k=>sm s fun l=>u l*phi F y v l*(bB (ptV s u y v D) y v d l i*bB (ptV s u y v D) y v d l k) from funext fun i=>funext fun k=>p.val hd hD hdD F i k]
end
def B3j(P:Nat->Prop):∀ c,P c->∃ N,N<=c/\P N/\∀ k,k<N->¬ P k:=by
 intro c
 induction c using Nat.strongRecOn with
 | _ c ih=>
  intro f
  by_cases h:∃ k,k<c/\P k
  ·obtain ⟨k,a,b⟩:=h
   obtain ⟨N,g,d,e⟩:=ih k a b
   exact ⟨N,o,d,e⟩
  ·exact ⟨c,aD _,f,fun k a b=>h ⟨k,a,b⟩⟩
def A52{C:Nat->Nat->Rat}{b:Nat->Rat}{s m:Nat}(hm:1<=m)(hC:∀ i j,i<s->j<s->Sz m (C i j))(hb:∀ i,i<s->Sz m (b i))(j:Nat):Sz (7^s*m) (Qf (fl C s) b s s j):=by
 refine A90 (m:=m) (Qw s m hm) (fun i j a c=>?_) j
 refine (C0s (M:=mtx (Q4 (fl C s) b s) (s+1)) (n:=s) (w:=s+1) (m:=m) (fun i j a c=>?_) hm o (aD _)).1 i j a c
 exact Wz (rows:=s) (fun i a=>hC _ _ (bO a) (cJ _ (by rcases Nat.eq_zero_or_pos s with rfl|h<;>omega))) hb _ (R4 a c)
section
variable {s v d D:Nat} {u:Nat->Rat} {y:Nat->Nat->Rat}
def Jx(c:Nat)(y:Nat->Nat->Rat)(l:Nat):phi (frm c) y 1 l=y l 0/\phi (frm c) y 2 l=y l 0+(c:Rat)*y l 1:=by
 refine ⟨?_,?_⟩
 ·show 0+(1:Rat)*y l 0=_
  grind
 ·show 0+(1:Rat)*y l 0+(c:Rat)*1*y l 1=_
  grind
def B6q{φ:Nat->Rat}(hs:s<=3)(h:¬ Dis s φ):(2<=s/\φ 0=φ 1)\/(3<=s/\φ 0=φ 2)\/(3<=s/\φ 1=φ 2):=by
 refine bW fun b=>h fun k l d c a e=>b ?_
 rcases (show k=0\/k=1\/k=2 from o) with rfl|rfl|rfl<;>rcases (show l=0\/l=1\/l=2 from o) with rfl|rfl|rfl
 ·exact absurd rfl a
 ·exact .inl ⟨o,e⟩
 ·exact .inr (.inl ⟨o,e⟩)
 ·exact .inl ⟨o,e.symm⟩
 ·exact absurd rfl a
 ·exact .inr (.inr ⟨o,e⟩)
 ·exact .inr (.inl ⟨o,e.symm⟩)
 ·exact .inr (.inr ⟨o,e.symm⟩)
 ·exact absurd rfl a
def Pts.dis(p:Pts s v u y):∃ c,c<=3/\Dis s (phi (frm c) y v):=by
 have v1:=p.v1;have v2:=p.v2
 rcases (show v=1\/v=2 from o) with rfl|rfl
 ·refine ⟨0,o,fun k l t z f e=>?_⟩
  rw [(Jx 0 y k).1,(Jx 0 y l).1] at e
  obtain ⟨i,hi,h⟩:=p.dif k l t z f
  obtain rfl:i=0:=o
  exact h e
 ·have A:∀ (c e k l:Nat),c<e->k<s->l<s->k≠l->phi (frm c) y 2 k=phi (frm c) y 2 l->phi (frm e) y 2 k=phi (frm e) y 2 l->False:=fun c e k l w t z f h1 r=>by
   rw [(Jx c y k).2,(Jx c y l).2] at h1
   rw [(Jx e y k).2,(Jx e y l).2] at r
   have hd:(c:Rat)≠(e:Rat):=fun q=>by
    have:=Rat.natCast_inj.1 q
    omega
   have e1:y k 1=y l 1:=by
    have:((c:Rat)-e)*(y k 1-y l 1)=0:=gz0
    grind
   have e0:y k 0=y l 0:=gz0
   obtain ⟨i,hi,h⟩:=p.dif k l t z f
   rcases (show i=0\/i=1 from o) with rfl|rfl
   ·exact h e0
   ·exact h e1
  refine bW fun hn=>?_
  have g:∀ c,c<=3->_:=fun c hc=>B6q p.s3 (φ:=phi (frm c) y 2) fun h=>hn ⟨c,hc,h⟩
  have b0:=g 0 o
  have a:=g 1 o
  have d:=g 2 o
  have b:=g 3 o
  have key:∀ (k l:Nat),k<s->l<s->k≠l->∀ c e,c<e->¬ (phi (frm c) y 2 k=phi (frm c) y 2 l/\phi (frm e) y 2 k=phi (frm e) y 2 l):=fun k l t z f c e w h=>A c e k l w t z f h.1 h.2
  have s3:=p.s3
  by_cases h3:s=3
  ·have j:=key 0 1 o o o
   have n:=key 0 2 o o o
   have m:=key 1 2 o o o
   have L:=j 0 1 o;have H:=j 0 2 o;have V:=j 0 3 o;have S:=j 1 2 o;have T:=j 1 3 o;have E:=j 2 3 o
   have R:=n 0 1 o;have D:=n 0 2 o;have F:=n 0 3 o;have B:=n 1 2 o;have N:=n 1 3 o;have Q:=n 2 3 o
   have M:=m 0 1 o;have W:=m 0 2 o;have C:=m 0 3 o;have X:=m 1 2 o;have G:=m 1 3 o;have O:=m 2 3 o
   clear A key j n m g hn
   rcases b0 with ⟨_,b0⟩|⟨_,b0⟩|⟨_,b0⟩<;>rcases a with ⟨_,a⟩|⟨_,a⟩|⟨_,a⟩<;>rcases d with ⟨_,d⟩|⟨_,d⟩|⟨_,d⟩<;>rcases b with ⟨_,b⟩|⟨_,b⟩|⟨_,b⟩<;>first|exact L ⟨b0,a⟩|exact H ⟨b0,d⟩|exact V ⟨b0,b⟩|exact S ⟨a,d⟩|exact T ⟨a,b⟩|exact E ⟨d,b⟩|exact R ⟨b0,a⟩|exact D ⟨b0,d⟩|exact F ⟨b0,b⟩|exact B ⟨a,d⟩|exact N ⟨a,b⟩|exact Q ⟨d,b⟩|exact M ⟨b0,a⟩|exact W ⟨b0,d⟩|exact C ⟨b0,b⟩|exact X ⟨a,d⟩|exact G ⟨a,b⟩|exact O ⟨d,b⟩
  ·rcases b0 with ⟨r,b0⟩|⟨r,_⟩|⟨r,_⟩
   ·rcases a with ⟨_,a⟩|⟨r,_⟩|⟨r,_⟩
    ·exact key 0 1 o o o 0 1 o ⟨b0,a⟩
    ·omega
    ·omega
   ·omega
   ·omega
end
def B3r:∀ v:Fin 3,∀ d:Fin 3,1<=v.val->∀ i:Fin 6,i.val<nM v d->(mon v d i).all (fun z=>decide (0<=z/\z<=2))=true:=by decide +kernel
def Ls:Sz 1 (1:Rat):=⟨ZB.one (aD _),ZB.one (aD _)⟩
def B8h{f:Nat->Rat}{w m:Nat}(hm:1<=m)(hs:∀ i,i<w->Sz m (f i)):Sz (1+w*(2*m+1)) (sm w f):=by
 have:=Jr (f2:=fun _=>1) hs (fun i _=>Ls.mono hm) w (aD _)
 rwa [C5 (g:=f) fun i _=>aY _] at this
section
variable {s v d D:Nat} {u φ:Nat->Rat} {y:Nat->Nat->Rat}
def C1e(h1:1<=v)(h2:v<=2)(hd:d<=2){l i:Nat}(hy:∀ j,j<v->Sz 2 (y l j))(hi:i<nM v d):Sz 10 (wV y v d l i):=by
 have c:=(A18 ⟨v,o⟩ ⟨d,o⟩ h1).2.2 hd
 change nM v d<=6 at c
 have:=B3r ⟨v,o⟩ ⟨d,o⟩ h1 ⟨i,o⟩ hi
 simp only [bN,decide_eq_true_eq] at this
 have b:=(Ka h1 h2 (show d<=6 from o) hi).1
 unfold wV
 generalize mon v d i=e at *
 rcases (show v=1\/v=2 from o) with rfl|rfl
 ·obtain ⟨a,rfl⟩:=List.length_eq_one_iff.1 b
  have f:=this a (by simp)
  rw [B6r]
  exact ((hy 0 o).pow o a.toNat).mono o
 ·obtain ⟨a,a1,rfl⟩:∃ a a1,e=[a,a1]:=by
   match e,b with
   | [a,a1],_=>exact ⟨a,a1,rfl⟩
  have f:=this a (by simp)
  have g:=this a1 (by simp)
  rw [B0d]
  exact (((hy 0 o).pow o a.toNat).mul ((hy 1 o).pow o a1.toNat)).mono o
def C0e(h1:1<=s)(hs:s<=3)(hd:Dis s φ){x:Nat->Rat}(hx:∀ l,l<s->pvl x s (φ l)=φ l^s)(hf:∀ l,l<s->Sz 47 (φ l)):∀ i,i<s->Sz 300 (x i):=by
 rcases (show s=1\/s=2\/s=3 from o) with rfl|rfl|rfl
 ·have e:=Vs o hd (x:=x) (y:=fun _=>φ 0) (fun l c=>by
   rw [hx l c]
   obtain rfl:l=0:=o
   simp only [pvl,sm]
   grind)
  intro i d
  rw [e i d]
  exact (hf 0 o).mono o
 ·have e:=Vs o hd (x:=x) (y:=fun i=>if i=0 then-(φ 0*φ 1) else φ 0+φ 1) (fun l c=>by
   rw [hx l c]
   simp only [pvl,sm]
   rcases (show l=0\/l=1 from o) with rfl|rfl<;>simp<;>grind)
  intro i d
  rw [e i d]
  have b:=hf 0 o;have a:=hf 1 o
  split
  ·exact (b.mul a).neg.mono o
  ·exact (b.add a).mono o
 ·have e:=Vs o hd (x:=x) (y:=fun i=>if i=0 then φ 0*φ 1*φ 2 else if i=1 then-(φ 0*φ 1+φ 0*φ 2+φ 1*φ 2) else φ 0+φ 1+φ 2) (fun l c=>by
   rw [hx l c]
   simp only [pvl,sm]
   rcases (show l=0\/l=1\/l=2 from o) with rfl|rfl|rfl<;>simp<;>grind)
  intro i d
  rw [e i d]
  have b:=hf 0 o;have a:=hf 1 o;have f:=hf 2 o
  split
  ·exact ((b.mul a).mul f).mono o
  ·split
   ·exact (((b.mul a).add (b.mul f)).add (a.mul f)).neg.mono o
   ·exact ((b.add a).add f).mono o
def C02{P S:Nat->Rat}{deg k m p:Nat}(hk:k<=1000)(hP:∀ i,i<=deg->Sz p (P i))(hS:∀ j,j<k->Sz m (S j))(hm:10<=m):∀ i,i<=k->i<=deg->Sz (1+i*(p+m+1)) (psT P deg S k i):=by
 intro i
 induction i with
 | zero=>intro _ _;exact Sz.zero o
 | succ i ih=>
  intro c d
  have a:=ih o o
  have b:Sz m (if i+1=k then (k:Rat) else S (k-(i+1))):=by
   split
   ·exact (A0e hk).mono hm
   ·exact hS _ o
  have:=a.add ((hP (deg-(i+1)) o).mul b).neg
  rw [<- Rat.sub_eq_add_neg] at this
  refine this.mono ?_
  rw [bU,bK];omega
structure Res (s v d D N:Nat) (u:Nat->Rat) (y:Nat->Nat->Rat):Prop where
 dis:Dis s (phi (frm N) y v)
 deg:Iu (fmM (ptV s u y v D) (frm N) v d) s=s
 min:∀ l,l<s->pvl (B3h (fmM (ptV s u y v D) (frm N) v d) s) s (phi (frm N) y v l)=phi (frm N) y v l^s
 coo:∀ j,j<v->∀ l,l<s->pvl (A8a (ptV s u y v D) v d (fmM (ptV s u y v D) (frm N) v d) j) s (phi (frm N) y v l)=y l j
 wgt:∀ l,l<s->pvl (wgX (ptV s u y v D) v d (fmM (ptV s u y v D) (frm N) v d) (Pz (fmM (ptV s u y v D) (frm N) v d) s) s) s (phi (frm N) y v l)=u l
def Pts.xok(p:Pts s v u y)(hd:d<=2)(hD:D<=6)(hdD:2*d+2<=D)(hs:s<=d+1)(hV:∀ i,i<(mo v D).length->Sz 15 (ptV s u y v D i))(hy:∀ l j,l<s->j<v->Sz 2 (y l j))(hu:∀ l,l<s->Sz 40 (u l)):
 ∃ N,N<=3/\XOk (ptV s u y v D) v d N 100000/\Res s v d D N u y:=by
 have S:=p.s1;have W:=p.s3;have X:=p.v1;have R:=p.v2
 have rk:=p.rk (d:=d) (D:=D) o hD o hs
 have blk:=p.blk (d:=d) (D:=D) o hD o hs
 have b0:∀ l,l<s->bB (ptV s u y v D) y v d l 0=1:=fun l _=>p.b0 o hD o l
 have fm:=p.fm (D:=D) hd hD hdD hs
 have val:=p.val (D:=D) hd hD hdD
 have sq:=p.sq (d:=d) (D:=D) o hD o
 have lt:=p.lt (d:=d) o (ptV s u y v D)
 have sB:∀ l t,l<s->Sz 10 (bB (ptV s u y v D) y v d l t):=fun l t b=>C1e X R hd (fun j q=>hy l j b q) (lt t)
 have p3:3^s<=27:=aS (n:=3) dc W
 have p7:7^s<=343:=aS (n:=7) dc W
 have O:∀ m,3^s*bnd (s+s) m<=27*(1+7*m):=fun m=>aJ p3 (by
  have:(s+s)*m<=6*m:=aF _ o
  unfold bnd;omega)
 have ah:∀ t l,t<s->l<s->Sz 2000 (duM s (bB (ptV s u y v D) y v d) t l):=fun t l ht b=>(A5s (m:=10) o (fun i a=>sB _ _ (bO a)) blk.full t l ht b).mono (aV (O 10) dc)
 have E:∀ F:Nat->Rat,(∀ j,j<v->Sz 11 (F j))->∀ l,l<s->Sz 47 (phi F y v l):=fun F L l b=>(Jr (w:=v) L (fun j q=>(hy l j b q).mono (show 2<=11 from o)) v (aD _)).mono (by
  have:v*(2*11+1)<=2*23:=aF _ R
  omega)
 have sF:∀ c,c<=3->∀ j,j<v->Sz 11 (frm c j):=fun c hc j q=>(A8r o j).mono o
 have sU:∀ k,∀ j,j<v->Sz 11 (uni k j):=fun k j _=>by
  unfold uni
  split
  ·exact Ls.mono o
  ·exact Sz.zero o
 have A:∀ m,s*(2*m+1)<=3*(2*m+1):=fun m=>aF _ W
 have sM:∀ F:Nat->Rat,(∀ j,j<v->Sz 11 (F j))->∀ i k,i<s->k<s->Sz 12004 (phM s u (phi F y v) (bB (ptV s u y v D) y v d) i k):=fun F L i k a f=>by
  rw [blk.ph_eq _ f i a]
  exact (Jr (m:=2000) (w:=s) (fun l b=>ah i l a b) (fun l b=>((E F L l b).mul (sB l k b)).mono o) s (aD _)).mono (by have:=A 2000;omega)
 have sK:∀ F:Nat->Rat,(∀ j,j<v->Sz 11 (F j))->∀ k,k<=s->∀ i,i<s->Sz 12004 (kpw (phM s u (phi F y v) (bB (ptV s u y v D) y v d)) s k i):=fun F L k f i a=>by
  rw [blk.kpw_eq _ S b0 k i a]
  exact (Jr (m:=2000) (w:=s) (fun l b=>ah i l a b) (fun l b=>((E F L l b).pow o k).mono (by have:47*k<=47*3:=aR _ o;omega)) s (aD _)).mono (by have:=A 2000;omega)
 have M:∀ F:Nat->Rat,(∀ j,j<v->Sz 11 (F j))->∀ i k,i<s->k<s->Sz 12004 (A02 (ptV s u y v D) F v d i k):=fun F L i k a f=>by
  refine (Jr (m:=15) (w:=v) (fun j q=>(L j q).mono o) (fun j q=>hV _ (mu3 X R hd hD o (lt i) (lt k) q).lt) v (aD _)).mono ?_
  have:v*(2*15+1)<=2*31:=aF _ R
  omega
 have am:∀ i k,i<s->k<s->Sz 12004 (ivM (ptV s u y v D) v d i k):=fun i k a f=>by
  unfold ivM
  rw [rk]
  have inv:=Vk (V:=ptV s u y v D) (d:=d) (D:=D) X R o hD o
  rw [rk] at inv
  refine (A5s (m:=15) o (fun j q=>?_) inv i k a f).mono (aV (O 15) dc)
  exact hV _ (Q9 X R o hD o (lt _) (lt _)).lt
 have kb:∀ F:Nat->Rat,(∀ j,j<v->Sz 11 (F j))->KB (ptV s u y v D) F v d 100000:=fun F L=>by
  refine ⟨fun i k a f=>?_,fun i k a f=>?_,fun i k a f=>?_,fun k f i a=>?_⟩
  ·rw [rk] at a f;exact (am i k a f).mono o
  ·rw [rk] at a f;exact (M F L i k a f).mono o
  ·rw [rk] at a f;rw [fm];exact (sM F L i k a f).mono o
  ·rw [rk] at a f;rw [fm,rk];exact (sK F L k f i a).mono o
 obtain ⟨c,hc,ac⟩:=p.dis
 obtain ⟨N,hN,yes,no⟩:=B3j (fun c=>Iu (fmM (ptV s u y v D) (frm c) v d) s=s) c (by rw [fm];exact blk.deg S W b0 ac)
 have aa:N<=3:=o
 have B:Iu (phM s u (phi (frm N) y v) (bB (ptV s u y v D) y v d)) s=s:=by rw [<- fm];exact yes
 have dis:=blk.dis S b0 B
 have ag:=sF N aa
 have slv:=fun z=>blk.slv S b0 B z
 have ad:=sK (frm N) ag
 have T:∀ i j,i<s->j<s->Sz 12004 (Ng (kpw (phM s u (phi (frm N) y v) (bB (ptV s u y v D) y v d)) s) i j):=fun i j a q=>ad j o i a
 have big:∀ m,m<=20000->7^s*m<=10000000:=fun m hm=>aV (aJ p7 hm) dc
 have mx:B3h (phM s u (phi (frm N) y v) (bB (ptV s u y v D) y v d)) s=Qf (fl (Ng (kpw (phM s u (phi (frm N) y v) (bB (ptV s u y v D) y v d)) s)) s) (kpw (phM s u (phi (frm N) y v) (bB (ptV s u y v D) y v d)) s s) s s:=by
  unfold B3h;rw [B]
 have G:∀ l,l<s->pvl (B3h (phM s u (phi (frm N) y v) (bB (ptV s u y v D) y v d)) s) s (phi (frm N) y v l)=phi (frm N) y v l^s:=fun l b=>by
  rw [mx,(slv _).2 l b,blk.pow _ S b0 s l b]
 have C:=E (frm N) ag
 have Q:=C0e S W dis G C
 have eP:Pz (phM s u (phi (frm N) y v) (bB (ptV s u y v D) y v d)) s=fun i=>if i=s then (1:Rat) else-B3h (phM s u (phi (frm N) y v) (bB (ptV s u y v D) y v d)) s i:=by
  unfold Pz;rw [B]
 have sP:∀ i,i<=s->Sz 300 (Pz (phM s u (phi (frm N) y v) (bB (ptV s u y v D) y v d)) s i):=fun i a=>by
  rw [eP]
  dsimp only
  split
  ·exact Ls.mono o
  ·exact (Q i o).neg
 have eS:=C2j S W dis G
 rw [<- eP] at eS
 dsimp only at eS
 have sS:∀ k,k<2*s-1->Sz 1200 (ps (Pz (phM s u (phi (frm N) y v) (bB (ptV s u y v D) y v d)) s) s k):=fun k f=>by
  rw [eS k f]
  refine (B8h (m:=189) o (fun l b=>((C l b).pow o k).mono ?_)).mono (by have:=A 189;omega)
  have:47*k<=47*4:=aR _ o
  omega
 have al:∀ j,j<s->ptV s u y v D ((pvL (ptV s u y v D) v d).getD j 0)=sm s fun l=>u l*bB (ptV s u y v D) y v d l j:=fun j _=>by
  have e:=(Q9 X R (show d<=3 from o) hD (show 2*d<=D from o) (lt j) (lt j)).same
  show (sm s fun l=>u l*mvl (y l) (mon v D _) 0)=_
  rw [<- e];rfl
 have af:∀ i,i<s->rgt (ptV s u y v D) v d (phM s u (phi (frm N) y v) (bB (ptV s u y v D) y v d)) i=sm s fun l=>u l*phi (frm N) y v l^i:=fun i a=>by
  unfold rgt rgS
  rw [rk,C5 (g:=fun j=>sm s (fun l=>u l*bB (ptV s u y v D) y v d l j)*kpw (phM s u (phi (frm N) y v) (bB (ptV s u y v D) y v d)) s i j) fun j q=>by rw [al j q],<- U4]
  exact C5 fun l b=>by rw [blk.pow _ S b0 i l b]
 have an: ∀ l m,l<s->m<s->pvl (fun j=>Qf (fl (Ng (kpw (phM s u (phi (frm N) y v) (bB (ptV s u y v D) y v d)) s)) s) (fun t=>duM s (bB (ptV s u y v D) y v d) t m) s s j) s (phi (frm N) y v l)=if l=m then 1 else 0:=fun l m b hm=>by
  have:=(slv fun t=>duM s (bB (ptV s u y v D) y v d) t m).2 l b
  rw [blk.du b hm] at this
  exact this
 have wg:=C3n W dis (fun j m=>Qf (fl (Ng (kpw (phM s u (phi (frm N) y v) (bB (ptV s u y v D) y v d)) s)) s) (fun t=>duM s (bB (ptV s u y v D) y v d) t m) s s j) an (H:=hkl (Pz (phM s u (phi (frm N) y v) (bB (ptV s u y v D) y v d)) s) s) (fun i k a f=>eS (i+k) o) (u:=u) (r:=rgt (ptV s u y v D) v d (phM s u (phi (frm N) y v) (bB (ptV s u y v D) y v d))) af
 have aj:∀ i,i<s->Sz 600 (rgt (ptV s u y v D) v d (phM s u (phi (frm N) y v) (bB (ptV s u y v D) y v d)) i):=fun i a=>by
  rw [af i a]
  refine (Jr (m:=95) (w:=s) (fun l b=>(hu l b).mono o) (fun l b=>((C l b).pow o i).mono ?_) s (aD _)).mono (by have:=A 95;omega)
  have:47*i<=47*2:=aR _ o
  omega
 refine ⟨N,aa,?_,⟨dis,yes,by rw [fm];exact G,fun j q l b=>?_,fun l b=>?_⟩⟩
 rotate_left
 ·unfold A8a
  rw [rk,fm,fm,(slv _).2 l b,blk.mult _ b o,b0 l b,aY]
  show sm v (fun k=>uni j k*y l k)=_
  rw [V4 q fun k _ ai=>by show (if k=j then (1:Rat) else 0)*_=0;rw [iN ai,aZ]]
  show (if j=j then (1:Rat) else 0)*_=_
  rw [iP rfl,bJ]
 ·rw [fm]
  unfold wgX
  rw [rk]
  exact wg.2 l b
 refine { n9:=o,q1:=dc,q2:=dc,sb:=?_,kb:=fun k f=>kb _ (sF k o),ku:=fun j q i k a f=>?_,no:=?_,yes:=?_,min:=?_,minS:=?_,coo:=?_,cooS:=?_,sP:=?_,sS:=?_,sT:=?_,sR:=?_,wok:=?_,wS:=?_ }
 ·intro n hn
  rw [rk] at hn
  have h3:3^n<=27:=aS (n:=3) dc (show n<=3 from o)
  have h7:7^n<=343:=aS (n:=7) dc (show n<=3 from o)
  have hb:bnd (n+1) 100000<=500001:=by unfold bnd;omega
  have:=aJ h3 hb
  exact ⟨o,aV (aF _ h7) dc⟩
 ·rw [rk] at a f
  rw [fm]
  exact ⟨(M _ (sU j) i k a f).mono o,(sM _ (sU j) i 0 a o).mono o⟩
 ·rw [rk];exact no
 ·rw [rk];exact yes
 ·rw [rk,fm];exact (slv _).1
 ·intro i a
  rw [rk] at a
  rw [fm,rk]
  exact (Q i a).mono o
 ·intro j q
  rw [rk,fm,fm];exact (slv _).1
 ·intro j q i a
  unfold A8a
  rw [rk,fm,fm]
  exact (A52 (m:=12004) o T (fun i a=>sM _ (sU j) i 0 a o) i).mono (big _ o)
 ·intro i a
  rw [rk] at a
  rw [fm,rk]
  exact (sP i a).mono o
 ·intro k f
  rw [rk] at f
  rw [fm,rk]
  exact (sS k f).mono o
 ·intro k i f ak ae
  rw [rk] at f ae
  rw [fm,rk]
  refine (C02 (p:=300) (m:=1200) o sP (fun j q=>sS j o) o i ak ae).mono ?_
  have:i*(300+1200+1)<=3*1501:=aF _ o
  omega
 ·intro i n a hn
  rw [rk] at a hn
  rw [fm]
  unfold rgS
  rw [rk]
  refine (Jr (m:=12004) (w:=n) (fun j q=>(hV _ ?_).mono o) (fun j q=>ad i o j o) n (aD _)).mono ?_
  ·have e:=Q9 X R (show d<=3 from o) hD (show 2*d<=D from o) (lt j) (lt 0)
   have ao:∀ v:Fin 3,∀ d:Fin 3,∀ D:Fin 7,d.val<=D.val->nM v d<=(mo v D).length:=by decide +kernel
   have:=ao ⟨v,o⟩ ⟨d,o⟩ ⟨D,o⟩ (by dsimp only;omega)
   have:=lt j
   dsimp only at *
   omega
  ·have:n*(2*12004+1)<=3*24009:=aF _ o
   omega
 ·rw [fm,rk]
  exact wg.1
 ·intro i a
  rw [fm,rk]
  unfold wgX
  rw [rk]
  exact (A52 (m:=1200) o (fun i j a q=>sS (i+j) o) (fun i a=>(aj i a).mono o) i).mono (big _ o)
end
section
set_option maxRecDepth 100000
variable {h:aK} {K:VP}
end
def pmv(x:Nat->Rat)(e:List Int):Nat->Rat
 | 0=>1
 | k+1=>pmv x e k*x k^(e.getD k 0).toNat
def A9s(x:Nat->Rat){e:List Int}{v:Nat}(h1:1<=v)(h2:v<=2)(hl:e.length=v):pmv x e v=mvl x e 0:=by
 rcases (show v=1\/v=2 from o) with rfl|rfl
 ·obtain ⟨a,rfl⟩:=List.length_eq_one_iff.1 hl
  simp [pmv,mvl]
 ·obtain ⟨a,a1,rfl⟩:∃ a a1,e=[a,a1]:=by
   match e,hl with
   | [a,a1],_=>exact ⟨a,a1,rfl⟩
  simp [pmv,mvl]
structure TRm where
 w:QV
 B:Option aL
 n:Nat
 c:Nat
instance:Enc TRm:=⟨⟨fun x=>[.bool x.w.s,.slice x.w.A x.w.n x.w.c,.bool x.w.s2,.slice x.w.A2 x.w.n2 x.w.c2,.slice x.B x.n x.c],5,fun _=>rfl,fun x v hv=>by simp at hv;rcases hv with rfl|rfl|rfl|rfl|rfl<;>rfl⟩⟩
abbrev RTr:aK->TRm->Qq->Prop:=fun h w t=>NQ h w.w (rv t.1)/\w.n=t.2.length/\SlI .i64 h w.B t.2
def A78:Mon RTr:=fun _ _ _ _ l i=>⟨NQ.mono l i.1,i.2.1,i.2.2.mono l⟩
section
variable {h:aK} {K:VP} {A B XA WA:Option aL} {c cc n m v D:Nat} {f:Nat->Rat} {tt:Nat->Qq}
def RowV.rt(r:aM RTr h A n tt){i:Nat}(hi:i<n):∃ a w,A=some a/\RTr h w (tt i)/\h.cell? (aE (aE (aE a (i*5)) 0) 0)=some (.bool w.w.s)/\h.cell? (aE (aE (aE a (i*5)) 0) 1)=some (.slice w.w.A w.w.n w.w.c)/\h.cell? (aE (aE (aE a (i*5)) 0) 2)=some (.bool w.w.s2)/\h.cell? (aE (aE (aE a (i*5)) 0) 3)=some (.slice w.w.A2 w.w.n2 w.w.c2)/\h.cell? (aE (aE a (i*5)) 4)=some (.slice w.B w.n w.c):=by
 obtain ⟨a,w,e,d,b⟩:=r.at dc hi
 have z:=Y7 (aE a (i*5))
 refine ⟨a,w,e,d,?_,?_,?_,?_,b 4 _ rfl⟩
 ·rw [z];exact b 0 _ rfl
 ·rw [z];exact b 1 _ rfl
 ·rw [z];exact b 2 _ rfl
 ·rw [z];exact b 3 _ rfl
def A3c(r:aM RTr h A 1 tt)(hq:rv (tt 0).1≠0)(hc:1<=c)(hK:∀ A' c' h',h.le h'->aM RTr h' A' 1 tt->K (.agg #[I (v:Int),.slice A' 1 c']) h'):aN prog 37 #[I (v:Int),.slice A 1 c] h K:=by
 refine (fnk func37 [(4,[7],[(6,2)],[I 0,I 0,.slice none 0 0]),(7,[9],[(8,4)],[I 0,.bool false,.slice none 0 0,.bool false,.slice none 0 0])] (own:=[4,6,8]) (wr:=[1000000000])) ?_
 refine (fnk func81 [(6,[5,6,7],[],[.slice none 0 0,I 0,I 0])] (os:=[(3,[0,1,2,3,4,6,7,8,9,10,5,11,12,13])])) ?_
 refine C0 (fun _=>?_) (fun no=>o)
 refine ⟨_,_,_,rfl,?_⟩
 refine ⟨fun L C=>∃ (i:Nat) (A':Option aL) (c':Nat),i<=1/\L=[I (i:Int),I (v:Int),.slice A' i c']/\Lst RTr 86 h C A' c' i tt,fun L _=>1-(iAt L 0).toNat,⟨0,_,_,o,rfl,Lst.nil⟩,?_⟩
 rintro z X S E V C ⟨i,A',c',W,j,L⟩
 simp only [aG,aI,aH,true_and,and_true] at j
 obtain ⟨rfl,rfl,rfl,rfl,rfl⟩:=j
 refine C0 (fun H=>?_) (fun G=>?_)
 ·obtain rfl:E=0:=o
  obtain ⟨a,w,e,D,c0,c1,c2,c3,c4⟩:=r.rt (show 0<1 from o)
  have t:=fun {x:aL} {u:aQ} (q:h.cell? x=some u)=>C2 L.le q
  refine ⟨a,e,o,o,_,_,_,_,_,_,_,_,t c0,t c1,t c2,t c3,?_⟩
  refine ⟨fun L F=>L=I 1::qc w.w/\F=C,fun _ _=>0,⟨rfl,rfl⟩,?_⟩
  rintro k l p d m B b g f F ⟨j,rfl⟩
  simp only [aG,aI,true_and] at j
  obtain ⟨rfl,j⟩:=j
  obtain ⟨O,_⟩:=A6t (w:=w.w) (by simpa only [aG,bG,aH,and_true] using j:(.bool l:aQ) :: .slice p d m :: .bool B :: .slice b g f::[]= .bool w.w.s :: .slice w.w.A w.w.n w.w.c :: .bool w.w.s2 :: .slice w.w.A2 w.w.n2 w.w.c2::[])
  obtain ⟨R,N,Q,M⟩:=w
  dsimp only at *
  subst O
  refine C0 (fun no=>o) (fun _=>?_)
  refine Z8 (w:=⟨l,p,d,m,B,b,g,f⟩) (NQ.mono L.le D.1) ⟨_,rfl,D9 (fun _=>?_) (fun q=>absurd (Rat.num_eq_zero.1 (Int.sign_eq_zero_iff_zero.1 q)) hq)⟩
  refine ⟨a,e,o,o,_,_,_,t c4,?_⟩
  refine L.pushG A78 A88 rfl (y:=(⟨⟨l,p,d,m,B,b,g,f⟩,N,Q,M⟩:TRm)) (by rfl) D dc o fun A5 c5 T L5=>?_
  exact ⟨⟨1,_,_,o,rfl,L5⟩,by simp only [R9];omega⟩
 ·obtain rfl:E=1:=o
  exact hK _ _ _ L.le (L.row A78)
def B4w{e:List Int}(hm:1<=m)(hf:∀ k,k<v->Sz m (f k))(he:∀ k,(e.getD k 0).toNat<=6):∀ k,k<=v->Sz (1+k*(m*6+1)) (pmv f e k):=by
 intro k
 induction k with
 | zero=>exact fun _=>Ls.mono o
 | succ k ih=>
  intro c
  have a:=ih o
  have b:=((hf k o).pow hm (e.getD k 0).toNat).mono (show m*(e.getD k 0).toNat+1<=m*6+1 by have:=aR m (he k);omega)
  exact (a.mul b).mono (by rw [bU,bK];omega)
def A6n(r:aM RTr h A 1 tt)(hq:rv (tt 0).1=1)(v1:1<=v)(v2:v<=2)(hl:(tt 0).2.length=v)(he0:∀ z∈(tt 0).2,0<=z/\z<=6)(x:aM NQr h XA v f)(hm1:1<=m)(hm:m<=1000)(hf:∀ k,k<v->Sz m (f k))(hK:∀ w h',h.le h'->NQ h' w (mvl f (tt 0).2 0)->K w.v h'):aN prog 66 #[.agg #[I (v:Int),.slice A 1 c],.slice XA v cc] h K:=by
 refine (fnk func66 [(3,[6],[(5,4)],[I 0,.bool false,.slice none 0 0,.bool false,.slice none 0 0]),(7,[8],[(7,4)],[I 0,.bool false,.slice none 0 0,.bool false,.slice none 0 0])] (own:=[2,4,5,7])) ?_
 have he:∀ k,(((tt 0).2.getD k 0).toNat<=6):=fun k=>by
  by_cases H:k<(tt 0).2.length
  ·have:=he0 _ (Bn H);omega
  ·simp [aX,H]
 have V:∀ k,0<=(tt 0).2.getD k 0:=fun k=>by
  by_cases H:k<(tt 0).2.length
  ·exact (he0 _ (Bn H)).1
  ·simp [aX,H]
 refine ⟨fun L S=>∃ (i:Nat) (s:QV),i<=1/\L=I (i:Int)::qc s/\h.le S/\NQ S s (if i=0 then 0 else mvl f (tt 0).2 0),fun L _=>1-(iAt L 0).toNat,⟨0,S3,o,rfl,B7 _,NQ.zero⟩,?_⟩
 rintro z d0 R F Q d2 E M G S ⟨i,s,hi,B,l,is⟩
 simp only [aG,aI,true_and] at B
 obtain ⟨rfl,B⟩:=B
 obtain ⟨es,_⟩:=A6t (w:=s) (by simpa only [aG,bG,aH,and_true] using B:(.bool d0:aQ) :: .slice R F Q :: .bool d2 :: .slice E M G::[]= .bool s.s :: .slice s.A s.n s.c :: .bool s.s2 :: .slice s.A2 s.n2 s.c2::[])
 subst es
 refine C0 (fun ag=>?_) (fun af=>?_)
 ·obtain rfl:i=0:=o
  obtain ⟨a,w,e,N,c0,c1,c2,c3,c4⟩:=(r.mono A78 l).rt (show 0<1 from o)
  refine ⟨a,e,o,o,_,_,_,_,_,_,_,_,c0,c1,c2,c3,?_⟩
  refine ⟨fun L hx=>∃ (k:Nat) (t:QV),k<=v/\L=I (k:Int)::qc t/\S.le hx/\NQ hx t (pmv f (tt 0).2 k),fun L _=>v-(iAt L 0).toNat,⟨0,w.w,o,rfl,B7 _,by have:=N.1;rw [hq] at this;exact this⟩,?_⟩
  rintro z g0 y p d X C g j hx ⟨k,t,H,B,D,it⟩
  simp only [aG,aI,true_and] at B
  obtain ⟨rfl,B⟩:=B
  obtain ⟨et,_⟩:=A6t (w:=t) (by simpa only [aG,bG,aH,and_true] using B:(.bool g0:aQ) :: .slice y p d :: .bool X :: .slice C g j::[]= .bool t.s :: .slice t.A t.n t.c :: .bool t.s2 :: .slice t.A2 t.n2 t.c2::[])
  subst et
  have sp:=B4w (e:=(tt 0).2) hm1 hf he
  have kb:∀ k,k<=v->k*(m*6+1)<=2*(m*6+1):=fun k H=>aF _ o
  refine C0 (fun ae=>?_) (fun ad=>?_)
  ·have O:k<v:=o
   have cl:=fun {x:aL} {u:aQ} (q:S.cell? x=some u)=>C2 D q
   refine ⟨a,e,o,o,_,_,_,cl c4,?_⟩
   refine (N.2.2.mono D).load N.2.1 o (by rw [N.2.1];omega) ?_
   rw [aC]
   have next:C4 ((k:Int)+1)=((k+1:Nat):Int):=by rw [C1]<;>omega
   refine C0 (fun ac=>?_) (fun hz=>?_)
   ·obtain ⟨a6,w6,e6,n6,q0,q1,q2,q3⟩:=(x.mono Q6 (B0 l D)).qat O
    refine ⟨a6,e6,o,o,_,_,_,_,_,_,_,_,q0,q1,q2,q3,a,e,o,o,_,_,_,cl c4,?_⟩
    refine (N.2.2.mono D).load N.2.1 o (by rw [N.2.1];omega) ?_
    rw [aC]
    have T:(tt 0).2.getD k 0=(((tt 0).2.getD k 0).toNat:Int):=by have:=V k;omega
    rw [T]
    have aa:=he k
    have ah:m*((tt 0).2.getD k 0).toNat<=m*6:=aR m aa
    refine A7l (w:=w6) (m:=m) n6 (hf k O) hm1 o o fun w7 h7 l7 i7=>⟨_,_,_,_,_,_,_,_,rfl,l7,?_⟩
    refine S7 (a:=⟨g0,y,p,d,X,C,g,j⟩) (b:=w7) (m:=100000) (NQ.mono l7 it) i7 ((sp k o).mono (by have:=kb k o;omega)) (((hf k O).pow hm1 _).mono o) o fun w8 h8 l8 W=>⟨_,_,_,_,_,_,_,_,rfl,l8,?_⟩
    rw [next]
    exact ⟨⟨k+1,w8,o,rfl,B0 D (B0 l7 l8),W⟩,by simp only [R9];omega⟩
   ·rw [next]
    have ez:((tt 0).2.getD k 0).toNat=0:=o
    refine ⟨⟨k+1,⟨g0,y,p,d,X,C,g,j⟩,o,rfl,D,?_⟩,by simp only [R9];omega⟩
    show NQ hx _ (pmv f (tt 0).2 k*f k^((tt 0).2.getD k 0).toNat)
    rw [ez,bZ,aY]
    exact it
  ·obtain rfl:k=v:=o
   have e9:=A9s f v1 v2 hl
   rw [e9] at it
   have s9:=sp k o
   rw [e9] at s9
   rw [iP rfl] at is
   refine Ej (a:=⟨d0,R,F,Q,d2,E,M,G⟩) (b:=⟨g0,y,p,d,X,C,g,j⟩) (m:=100000) (NQ.mono D is) it (Sz.zero o) (s9.mono (by have:=kb k o;omega)) o fun w8 h8 l8 W=>⟨_,_,_,_,_,_,_,_,rfl,?_⟩
   rw [Rat.zero_add] at W
   exact ⟨⟨1,w8,o,rfl,B0 l (B0 D l8),by rw [iN o];exact W⟩,by
    show 1-(C4 (((0:Nat):Int)+1)).toNat<1-(((0:Nat):Int)).toNat
    decide⟩
 ·obtain rfl:i=1:=o
  rw [iN o] at is
  exact hK ⟨d0,R,F,Q,d2,E,M,G⟩ S l is
end
section
variable {α β α2 β2:Type} [E:Enc α] [E2:Enc α2] {R:aK->α->β->Prop} {e:bD} {h0 hp:aK} {A:Option aL} {c n:Nat} {f:Nat->β} {R2:aK->α2->β2->Prop}
def Lst.litR(m:Mon R)(m2:Mon R2){P:bV}{t e2:bD}{z:aQ}{bytes:Nat}(st:SliceT P t e2 z E2.default.size bytes)(l:Lst R e h0 hp A c n f){v:aQ}{y:α2}(hv:v.cells=(enc y).toArray)(hsz:E2.default.size<=1000){q:β2}(hR:R2 h0 y q){K:VP}
 (x:∀ b h' g,h0.le g->hp.le h'->Lst R e g h' A c n f->aM R2 g (some ⟨b,0,none⟩) 1 (fun _=>q)->K (.slice (some ⟨b,0,none⟩) 1 1) h'):wpH P (bH t 1 #[(0,v)]) K hp:=by
 obtain ⟨g,o,C,k,s,w,E,r⟩:=l
 have p:(enc y).length=E2.default.size:=E2.default.len y
 have B:v.cells.size=E2.default.size:=by rw [hv,List.size_toArray,p]
 refine Y3 st (vs:=[v]) (fun u j=>by rw [List.mem_singleton.1 j];exact B) rfl (by simp;omega) rfl fun b a=>?_
 have D:g b=none:=by
  cases q:g b with
  | none=>rfl
  | some u=>rw [s.le _ _ q] at a;cases a
 have d:=Heap.le_put (.cells ([v].flatMap fun v=>v.cells.toList).toArray e2) D
 refine x b _ _ (B0 k d) (Heap.le_put _ a) ⟨_,o,C,B7 _,s.vis a _,w,E,r.mono m d⟩ ⟨[y],SlV.new _ _ _ _ _ _ (fun i u j=>by simpa [hv] using j),rfl,fun i F=>⟨y,?_,m2 _ _ _ _ (B0 k d) hR⟩⟩
 obtain rfl:i=0:=oo
 rfl
end
def ofS(w:Nat->Rat)(X:Nat->Nat->Rat)(e:List Int)(k:Nat):Rat:=sm k fun l=>w l*mvl (X l) e 0
def B3s:∀ v:Fin 3,∀ D:Fin 7,1<=v.val->∀ i:Fin 28,i.val<(mo v D).length->(mon v D i).all (fun z=>decide (0<=z/\z<=6))=true:=by decide +kernel
section
variable {h:aK} {K:VP} {A B XA WA:Option aL} {c cc n m v D:Nat} {w f:Nat->Rat} {X:Nat->Nat->Rat}
def C3t(h1:1<=v)(h2:v<=2)(hD:D<=6){i:Nat}(hi:i<(mo v D).length):∀ z∈mon v D i,0<=z/\z<=6:=by
 have a:=(O3 h1 h2 hD).len
 have:=B3s ⟨v,o⟩ ⟨D,o⟩ h1 ⟨i,o⟩ hi
 simpa only [bN,decide_eq_true_eq] using this
def C07{e:List Int}(hl:e.length=v)(h1:1<=v)(h2:v<=2)(he:∀ z∈e,0<=z/\z<=6)(hX:∀ l j,l<n->j<v->Sz 2 (X l j))(hw:∀ l,l<n->Sz 30 (w l)):(∀ l,l<n->Sz 30 (mvl (X l) e 0))/\∀ k,k<=n->Sz (1+k*(2*30+1)) (ofS w X e k):=by
 have c:∀ l,l<n->Sz 30 (mvl (X l) e 0):=fun l b=>by
  rw [<- A9s (X l) h1 h2 hl]
  refine (B4w (m:=2) (v:=v) o (fun k a=>hX l k b a) (fun k=>?_) v (aD _)).mono ?_
  ·by_cases a:k<e.length
   ·have:=he _ (Bn a);omega
   ·simp [aX,a]
  ·have:v*(2*6+1)<=2*13:=aF _ h2
   omega
 exact ⟨c,fun k a=>Jr (w:=n) hw c k a⟩
def A6p(xs:RowsV h XA n v X)(ws:aM NQr h WA n w)(n1:1<=n)(n3:n<=3)(v1:1<=v)(v2:v<=2)(hD:D<=6)(hX:∀ l j,l<n->j<v->Sz 2 (X l j))(hw:∀ l,l<n->Sz 30 (w l))
 (hK:∀ A' c' h',Lst NQr 37 h h' A' c' (mo v D).length (fun i=>ofS w X (mon v D i) n)->K (.agg #[I (v:Int),I (D:Int),.slice A' (mo v D).length c']) h'):aN prog 15 #[.slice XA n c,.slice WA n cc,I (D:Int)] h K:=by
 refine (fnk func15 [(3,[24],[(7,3)],[I 0,I 0,I 0,.slice none 0 0]),(8,[37],[(10,4)],[I 0,.bool false,.slice none 0 0,.bool false,.slice none 0 0])] (os:=[(6,[0,1,3,7,2,4,5,6,8])]) (own:=[6,7,10,11])) ?_
 obtain ⟨a0,s0,e0,q1,_,q3,_⟩:=xs.at (i:=0) o
 rw [q1] at q3
 refine ⟨a0,e0,o,o,_,_,_,q3,?_⟩
 have ay:=(O3 v1 v2 hD).len
 refine Oh (n:=v) (d:=D) o o fun A1 c1 h1 l1 s1=>⟨_,_,_,rfl,?_⟩
 change MoSl h1 A1 (mo v D) at s1
 change ∃ Inv mu,_
 refine ⟨fun L hp=>∃ (i:Nat) (A':Option aL) (c':Nat),i<=(mo v D).length/\L=[I (i:Int),I (v:Int),I (D:Int),.slice A' i c']/\Lst NQr 37 h1 hp A' c' i (fun i=>ofS w X (mon v D i) n),fun L _=>(mo v D).length-(iAt L 0).toNat,⟨0,_,_,o,rfl,Lst.nil⟩,?_⟩
 rintro z p0 p1 pA i pc hp ⟨i0,A',c',hi,N,L⟩
 simp only [aG,aI,aH,true_and,and_true] at N
 obtain ⟨rfl,rfl,rfl,rfl,rfl,rfl⟩:=N
 refine C0 (fun au=>?_) (fun az=>?_)
 ·have O:i<(mo v D).length:=by
   have:((mo v D).length:Int)=((Ul v (D+1)).length:Int):=rfl
   omega
  obtain ⟨a,B1,bc,e,c0,s2⟩:=s1.mon O
  refine ⟨a,e,o,by show (i:Int)<((mo v D).length:Int);omega,_,_,_,by rw [aC];exact C2 L.le c0,?_⟩
  have hl:(mon v D i).length=v:=(Ka v1 v2 hD O).1
  have he:=C3t v1 v2 hD O
  obtain ⟨W,am⟩:=C07 (w:=w) hl v1 v2 he hX hw
  have aw:=B0 l1 L.le
  refine L.call Q6 fun g lg=>Gh o fun w0 h3 l3 i3=>⟨l3,fun h4 l4 L4=>⟨_,_,_,_,_,_,_,_,rfl,l4,?_⟩⟩
  have b3:=B0 lg l3
  refine L4.litR Q6 (R2:=RTr) A78 A88 (y:=(⟨w0,B1,(mon v D i).length,bc⟩:TRm)) (q:=(E8 1,mon v D i)) (by rfl) dc ⟨by show NQ h3 w0 (rv (E8 1));rw [G1];exact i3,rfl,s2.mono b3⟩ fun b h5 g5 ae l5 L5 T=>⟨_,_,_,rfl,l5,?_⟩
  refine L5.call Q6 fun g6 S=>A3c (T.mono A78 S) (by show rv (E8 1)≠0;rw [G1];decide) (aD _) fun A7 c7 h7 l7 V=>⟨l7,fun h8 l8 L8=>⟨_,_,_,_,rfl,l8,?_⟩⟩
  have b7:=B0 b3 (B0 ae (B0 S l7))
  refine ⟨fun L hx=>∃ (l:Nat) (s:QV) (g:aK),l<=n/\L=I (l:Int)::qc s/\h7.le g/\Lst NQr 37 g hx pA pc i (fun i=>ofS w X (mon v D i) n)/\NQ g s (ofS w X (mon v D i) l),fun L _=>n-(iAt L 0).toNat,⟨0,S3,h7,o,rfl,B7 _,L8,NQ.zero⟩,?_⟩
  rintro z d0 H E B d2 C M F hx ⟨l,s,gx,ag,N,t,Lx,is⟩
  simp only [aG,aI,true_and] at N
  obtain ⟨rfl,N⟩:=N
  obtain ⟨es,_⟩:=A6t (w:=s) (by simpa only [aG,bG,aH,and_true] using N:(.bool d0:aQ) :: .slice H E B :: .bool d2 :: .slice C M F::[]= .bool s.s :: .slice s.A s.n s.c :: .bool s.s2 :: .slice s.A2 s.n2 s.c2::[])
  subst es
  have bx:=B0 l1 (B0 b7 t)
  refine C0 (fun ao=>?_) (fun an=>?_)
  ·have f:l<n:=o
   have p:=fun {x:aL} {u:aQ} (q:h.cell? x=some u)=>C2 (B0 bx Lx.le) q
   obtain ⟨a5,w5,e5,n5,c0,c1,c2,c3⟩:=ws.qat f
   obtain ⟨a6,s6,e6,t1,t2,t3,t4⟩:=xs.at f
   rw [t1] at t3
   refine ⟨a5,e5,o,o,_,_,_,_,_,_,_,_,p c0,p c1,p c2,p c3,a6,e6,o,o,_,_,_,p t3,?_⟩
   refine Lx.call Q6 fun g9 G=>A6n (m:=2) (V.mono A78 (B0 t G)) (G1 1) v1 v2 hl he (t4.mono Q6 (B0 bx G)) o o (fun j hj=>hX l j f hj) fun w9 h9 l9 i9=>⟨l9,fun av ad L10=>⟨_,_,_,_,_,_,_,_,rfl,ad,?_⟩⟩
   have b9:=B0 G l9
   refine L10.call Q6 fun aq k=>S7 (a:=w5) (b:=w9) (m:=30) (NQ.mono (B0 bx (B0 b9 k)) n5) (NQ.mono k i9) (hw l f) (W l f) o fun ai a1 aa ah=>⟨aa,fun ax al L12=>⟨_,_,_,_,_,_,_,_,rfl,al,?_⟩⟩
   have Q:=B0 b9 (B0 k aa)
   have kb:l*(2*30+1)<=3*61:=aF _ o
   refine L12.call Q6 fun a3 r=>Ej (a:=⟨d0,H,E,B,d2,C,M,F⟩) (b:=ai) (m:=1000) (NQ.mono (B0 Q r) is) (NQ.mono r ah) ((am l ag).mono o) (((hw l f).mul (W l f)).mono o) o fun ak ac R aj=>⟨R,fun ap af L14=>⟨_,_,_,_,_,_,_,_,rfl,af,?_⟩⟩
   rw [wiS l o]
   exact ⟨⟨l+1,ak,ac,o,rfl,B0 t (B0 Q (B0 r R)),L14,aj⟩,by simp only [R9];omega⟩
  ·obtain rfl:l=n:=o
   refine Lx.push Q6 Un rfl (y:=(⟨d0,H,E,B,d2,C,M,F⟩:QV)) (by rfl) is dc o fun A15 a2 ar L15=>?_
   rw [wiS i o]
   exact ⟨⟨i+1,_,_,o,rfl,L15.weak (B0 b7 t)⟩,by simp only [R9];omega⟩
 ·obtain rfl:i=(mo v D).length:=by
   have:((mo v D).length:Int)=((Ul v (D+1)).length:Int):=rfl
   omega
  exact hK _ _ _ (L.weak l1)
def A0n(xs:RowsV h XA n v X)(ws:aM NQr h WA n w)(n1:1<=n)(n3:n<=3)(v1:1<=v)(v2:v<=2)(hD:D<=6)(hX:∀ l j,l<n->j<v->Sz 2 (X l j))(hw:∀ l,l<n->Sz 30 (w l))
 (hK:∀ A' c' h',h.le h'->aM NQr h' A' (mo v D).length (fun i=>ofS w X (mon v D i) n)->K (.agg #[I (v:Int),I (D:Int),.slice A' (mo v D).length c']) h'):aN prog 15 #[.slice XA n c,.slice WA n cc,I (D:Int)] h K:=
 A6p xs ws n1 n3 v1 v2 hD hX hw fun _ _ _ L=>hK _ _ _ L.le (L.row Q6)
end
section
variable {h:aK} {K:VP} {A:Option aL} {c n m:Nat} {f:Nat->Rat}
def Pq{v D:Int}(r:aM NQr h A n f)(hn:n<=1000000)(hs:∀ i,i<n->Sz m (f i))(hm:m<=1000000)(hK:∀ A' c' h',h.le h'->aM SSr h' A' n (fun i=>E8 (f i))->K (.agg #[I v,I D,.slice A' n c']) h'):aN prog 14 #[.agg #[I v,I D,.slice A n c]] h K:=by
 refine (fnk func14 (own:=[1,2])) ?_
 exact Vh r hn hs oo fun b a o=>⟨_,_,_,rfl,o.le,hK _ _ _ o.le (o.vis E9)⟩
end
structure CS where
 p':Int
 r':Int
 p:Int
 r:Int
def CS.next(s:CS)(a:Int):CS:=⟨s.p,s.r,s.p'+a*s.p,s.r'+a*s.r⟩
structure CSI (s:CS) (q x:Rat):Prop where
 det:s.p*s.r'-s.p'*s.r=1\/s.p*s.r'-s.p'*s.r= -1
 eq:q*(s.r*x+s.r')=s.p*x+s.p'
 r0:0<=s.r/\0<=s.r'/\0<s.r+s.r'
def ab(x:Rat):Rat:=if x<0 then -x else x
section
variable {h:aK} {K:VP} {m:Nat} {a b w:QV} {p q:Rat}
end
section
variable {h:aK} {K:VP} {x y:List UInt8}
end
section
variable {h:aK} {K:VP} {A B:Option aL} {n m a b:Nat} {ls ls2:Nat->List UInt8}
def Lk(x:aM SSr h A n ls)(y:aM SSr h B m ls2)(hn:n<=1000000000)(hK1:n=m->(∀ i,i<n->ls i=ls2 i)->K (.bool true) h)(hK0:¬ (n=m/\∀ i,i<n->ls i=ls2 i)->K (.bool false) h):aN prog 10 #[.slice A n a,.slice B m b] h K:=by
 refine (fnk func10 [(4,[13],[],[I 0])]) ?_
 refine D9 (fun e=>hK0 fun g=>e o) (fun e=>?_)
 have e:n=m:=o
 subst e
 refine ⟨fun L d=>∃ i:Nat,i<=n/\L=[I (i:Int)]/\d=h/\∀ j,j<i->ls j=ls2 j,fun L _=>n-(iAt L 0).toNat,⟨0,o,rfl,rfl,fun j q=>o⟩,?_⟩
 rintro z d ⟨i,w,t,rfl,f⟩
 obtain rfl:=sI1 t
 refine C0 (fun p=>?_) (fun l=>?_)
 ·have c:i<n:=o
  obtain ⟨u,rfl,r⟩:=x.sat c
  obtain ⟨v,rfl,k⟩:=y.sat c
  refine ⟨u,rfl,o,o,_,r,v,rfl,o,o,_,k,?_⟩
  dsimp only;rw [Jl]
  refine Br.not (C0 (fun e=>?_) (fun e=>hK0 fun g=>e (g.2 i c)))
  rw [wiS i o]
  refine ⟨⟨i+1,o,rfl,rfl,fun j q=>?_⟩,by simp only [R9];omega⟩
  by_cases s:j=i
  ·subst s;exact e
  ·exact f j o
 ·have:i=n:=o
  subst this
  exact hK1 rfl f
end
def Ch{α β:Type}[E:Enc α]{R:aK->α->β->Prop}(m:Mon R){P:bV}{t e:bD}{z:aQ}{bytes:Nat}(st:SliceT P t e z E.default.size bytes){h:aK}{n:Nat}{ps:Array (Nat × aQ)}(vs:List aQ)(ys:List α)(hv:vs.map (fun v=>v.cells.toList)=ys.map enc)(hn:n=ys.length)(hlen:n<=1000)(hsz:E.default.size<=1000)(hp:ps.toList=(List.range' 0 vs.length).zip vs){f:Nat->β}(hR:∀ i,i<n->∃ w,ys[i]? = some w/\R h w (f i)){K:VP}
 (x:∀ b h',h.le h'->aM R h' (some ⟨b,0,none⟩) n f->K (.slice (some ⟨b,0,none⟩) n n) h'):wpH P (bH t n ps) K h:=by
 have p:vs.length=ys.length:=by have:=congrArg List.length hv;simpa using this
 have d:vs.flatMap (fun v=>v.cells.toList)=ys.flatMap enc:=by rw [List.flatMap_def,hv,<- List.flatMap_def]
 refine Y3 st (vs:=vs) (fun v a=>?_) o ?_ hp fun b c=>?_
 ·have:v.cells.toList∈ys.map enc:=by rw [<- hv];exact List.mem_map_of_mem a
  obtain ⟨y,_,j⟩:=List.mem_map.1 this
  have:=congrArg List.length j
  rw [E.default.len] at this
  simpa using this.symm
 ·exact aV (aJ hlen hsz) dc
 ·refine x b _ (Heap.le_put _ c) ⟨ys,SlV.new _ _ _ _ _ _ (fun i v hv=>by rw [d];simpa using hv),hn.symm,fun i k=>?_⟩
  obtain ⟨w,g,l⟩:=hR i k
  exact ⟨w,g,m _ _ _ _ (Heap.le_put _ c) l⟩
def exX:Nat->Nat->Rat:=fun l _=>if l=0 then 1 else -1
def exW:Nat->Rat:=fun _=>1
def A5v:Pts 2 1 exW exX:=⟨o,o,o,o,fun k l c b a=>⟨0,o,by
 rcases (show k=0\/k=1 from o) with rfl|rfl<;>rcases (show l=0\/l=1 from o) with rfl|rfl
 ·exact absurd rfl a
 ·decide
 ·decide
 ·exact absurd rfl a⟩,fun _ _=>by show (0:Rat)<1;decide⟩
def C0p:∀ i:Fin 5,(ptV 2 exW exX 1 4 i).num.natAbs<2^15/\(ptV 2 exW exX 1 4 i).den<2^15:=by decide +kernel
def B58:(mo 1 4).length=5:=by decide +kernel
def B59(l j:Nat):Sz 2 (exX l j):=by
 unfold exX
 split
 ·exact ⟨by show _<_;decide,by show _<_;decide⟩
 ·exact ⟨by show _<_;decide,by show _<_;decide⟩
section
variable {h:aK} {K:VP}
def C0l{A:Option aL}{s v D:Nat}{u:Nat->Rat}{y:Nat->Nat->Rat}(v1:1<=v)(v2:v<=2)(hD:D<=6)(hs:∀ i,i<(mo v D).length->Sz 15 (ptV s u y v D i))(r:aM SSr h A (mo v D).length (fun i=>E8 (ptV s u y v D i))):FnV h A v D 15 (ptV s u y v D):=⟨v1,v2,hD,r,hs,o⟩
def B4z{α:Type}(w:α){i:Nat}(hi:i<1):[w][i]? = some w:=by
 obtain rfl:i=0:=o
 rfl
def A1w(gl:Gl h)(hK:∀ h',h.le h'->K (.bool true) h'):aN prog 22 #[] h K:=by
 refine (fnk func22 (own:=[1,2])) ?_
 refine Gh o fun H h1 l1 i1=>⟨_,_,_,_,_,_,_,_,rfl,?_⟩
 refine Ch (n:=1) Q6 Un [H.v] [H] rfl rfl o dc rfl (f:=exX 0) (fun i a=>⟨H,B4z H a,by show NQ h1 H 1;simpa using i1⟩) fun b2 h2 l2 r2=>⟨_,_,_,rfl,?_⟩
 refine Gh o fun C h3 l3 i3=>⟨_,_,_,_,_,_,_,_,rfl,?_⟩
 refine Ch (n:=1) Q6 Un [C.v] [C] rfl rfl o dc rfl (f:=exX 1) (fun i a=>⟨C,B4z C a,by show NQ h3 C (-1);simpa using i3⟩) fun b4 h4 l4 r4=>⟨_,_,_,rfl,?_⟩
 refine Ch (n:=2) (A77 1) B8e [.slice (some ⟨b2,0,none⟩) 1 1,.slice (some ⟨b4,0,none⟩) 1 1] [(⟨some ⟨b2,0,none⟩,1,1⟩:HV),⟨some ⟨b4,0,none⟩,1,1⟩] rfl rfl o dc rfl (f:=exX) (fun i a=>by
  rcases (show i=0\/i=1 from o) with rfl|rfl
  ·exact ⟨_,rfl,rfl,aD _,r2.mono Q6 (B0 l3 l4)⟩
  ·exact ⟨_,rfl,rfl,aD _,r4⟩) fun b5 h5 l5 r5=>⟨_,_,_,rfl,?_⟩
 refine Gh o fun T h6 l6 i6=>⟨_,_,_,_,_,_,_,_,rfl,?_⟩
 refine Gh o fun R h7 l7 i7=>⟨_,_,_,_,_,_,_,_,rfl,?_⟩
 refine Ch (n:=2) Q6 Un [T.v,R.v] [T,R] rfl rfl o dc rfl (f:=exW) (fun i a=>by
  rcases (show i=0\/i=1 from o) with rfl|rfl
  ·exact ⟨_,rfl,by show NQ h7 T 1;simpa using NQ.mono l7 i6⟩
  ·exact ⟨_,rfl,by show NQ h7 R 1;simpa using i7⟩) fun b8 h8 l8 r8=>⟨_,_,_,rfl,?_⟩
 have y:=B0 l6 (B0 l7 l8)
 have V:=B0 l1 (B0 l2 (B0 l3 (B0 l4 (B0 l5 y))))
 refine A0n (v:=1) (D:=4) (RowsV.of (r5.mono (A77 1) y)) r8 o o o o o (fun l j _ _=>B59 l j) (fun _ _=>Ls.mono o) fun A9 c9 h9 l9 r9=>⟨_,_,_,_,_,rfl,?_⟩
 have eV:(fun i=>ofS exW exX (mon 1 4 i) 2)=ptV 2 exW exX 1 4:=rfl
 rw [eV] at r9
 have sV:∀ i,i<(mo 1 4).length->Sz 15 (ptV 2 exW exX 1 4 i):=fun i a=>by
  rw [B58] at a
  exact ⟨(C0p ⟨i,a⟩).1,by show Int.natAbs _<_;rw [Int.natAbs_natCast];exact (C0p ⟨i,a⟩).2⟩
 refine Pq r9 (by rw [B58];omega) sV o fun A10 ak al Q ac=>⟨_,_,_,_,_,rfl,?_⟩
 have k:=B0 V (B0 l9 Q)
 have E:=A5v.rk (d:=2) (D:=4) o o o o
 have r:=A5v.rk (d:=1) (D:=4) o o o o
 refine Uw (gl.mono k) (C0l (D:=4) o o o sV ac) o (aD _) (d:=2) o (fun e=>o) (fun _ _ no=>absurd ⟨by rw [E,r],by rw [E];omega,A5v.psd o o o⟩ no) fun d' ed _ _ _ _=>?_
 obtain rfl:d'=1:=o
 obtain ⟨N,_,X,b⟩:=A5v.xok (d:=1) (D:=4) o o o o sV (fun l j _ _=>B59 l j) (fun _ _=>Ls.mono o)
 refine ⟨N,100000,X,fun FA fc MA mc CA cc WA wc ao ae xt=>⟨_,_,_,_,_,_,_,_,_,_,_,_,_,rfl,D5 (fun _=>?_) (fun e=>absurd rfl e)⟩⟩
 have L:=B0 k ae
 obtain ⟨xf,xm,xc,xw⟩:=xt
 rw [r] at xm xw ⊢
 have m:∀ l,phi (frm N) exX 1 l=exX l 0:=fun l=>(Jx N exX l).1
 have M:=m 0;have S:=m 1
 have p:∀ (f g:Nat->Rat),(∀ l,l<2->pvl f 2 (phi (frm N) exX 1 l)=pvl g 2 (phi (frm N) exX 1 l))->∀ t,t<2->f t=g t:=fun f g=>Vs o b.dis
 have vx:exX 0 0=1/\exX 1 0= -1:=⟨rfl,rfl⟩
 have mm:=p _ (fun i=>if i=0 then 1 else 0) (fun l G=>by
  rw [b.min l G]
  rcases (show l=0\/l=1 from o) with rfl|rfl
  ·rw [M];decide +kernel
  ·rw [S];decide +kernel)
 have w:=p _ (fun i=>if i=0 then 0 else 1) (fun l G=>by
  rw [b.coo 0 o l G]
  rcases (show l=0\/l=1 from o) with rfl|rfl
  ·rw [M];decide +kernel
  ·rw [S];decide +kernel)
 have mw:=p _ (fun i=>if i=0 then 1 else 0) (fun l G=>by
  rw [b.wgt l G]
  rcases (show l=0\/l=1 from o) with rfl|rfl
  ·rw [M];decide +kernel
  ·rw [S];decide +kernel)
 have B:({ data:=#[48] }:ByteArray)=bs (E8 0):=t0
 have s:({ data:=#[49] }:ByteArray)=bs (E8 1):=t1
 have O:({ data:=#[45,49] }:ByteArray)=bs (E8 (-1)):=by decide +kernel
 have tc:trN (A8a (ptV 2 exW exX 1 4) 1 1 (fmM (ptV 2 exW exX 1 4) (frm N) 1 1) 0) 2=2:=by
  unfold trN
  rw [iN (by rw [w 1 o];decide)]
 have tw:trN (wgX (ptV 2 exW exX 1 4) 1 1 (fmM (ptV 2 exW exX 1 4) (frm N) 1 1) (Pz (fmM (ptV 2 exW exX 1 4) (frm N) 1 1) 2) 2) 2=1:=by
  unfold trN
  rw [iP (by rw [mw 1 o];decide)]
  unfold trN
  rw [iN (by rw [mw 0 o];decide)]
 rw [tw] at xw ⊢
 refine Ch (n:=3) E9 H0 [.string _,.string _,.string _] [E8 (-1),E8 0,E8 1] (by rw [O,B,s];rfl) rfl o dc rfl (f:=fun i=>E8 (if i=0 then -1 else if i=1 then 0 else 1)) (fun i a=>by
  rcases (show i=0\/i=1\/i=2 from o) with rfl|rfl|rfl<;>exact ⟨_,rfl,rfl⟩) fun ap aa c ah=>⟨_,_,_,rfl,?_⟩
 refine Lk (xm.mono E9 c) ah o (fun _ _=>?_) (fun no=>absurd ⟨rfl,fun i a=>?_⟩ no)
 rotate_left
 ·unfold Pz
  rw [b.deg]
  rcases (show i=0\/i=1\/i=2 from o) with rfl|rfl|rfl
  ·rw [iN o,mm 0 o];rfl
  ·rw [iN o,mm 1 o];rfl
  ·rw [iP rfl];rfl
 refine ⟨_,rfl,B4k (B4k ?_)⟩
 obtain ⟨a0,ws,rfl,⟨W,u⟩,af⟩:=(xc.mono B0i c).at dc (show 0<1 from o)
 have F:(C2z (ptV 2 exW exX 1 4) 1 1 N 0).1=2:=by
  show trN _ (rkM _ 1 1)=2
  rw [r]
  exact tc
 have W:ws.n=2:=W.trans F
 have u:aM SSr aa ws.A 2 (fun i=>E8 (A8a (ptV 2 exW exX 1 4) 1 1 (fmM (ptV 2 exW exX 1 4) (frm N) 1 1) 0 i)):=by
  have u:=u
  rw [F] at u
  exact u
 have:=af 0 _ rfl
 rw [Y7] at this
 refine ⟨a0,rfl,o,o,_,_,_,this,?_⟩
 rw [W]
 refine Ch (n:=2) E9 H0 [.string _,.string _] [E8 0,E8 1] (by rw [B,s];rfl) rfl o dc rfl (f:=fun i=>E8 (if i=0 then 0 else 1)) (fun i a=>by
  rcases (show i=0\/i=1 from o) with rfl|rfl<;>exact ⟨_,rfl,rfl⟩) fun an ai q ad=>⟨_,_,_,rfl,?_⟩
 refine Lk (u.mono E9 q) ad o (fun _ _=>?_) (fun no=>absurd ⟨rfl,fun i a=>?_⟩ no)
 rotate_left
 ·rw [w i a]
 refine ⟨_,rfl,B4k ?_⟩
 refine Ch (n:=1) E9 H0 [.string _] [E8 1] (by rw [s];rfl) rfl o dc rfl (f:=fun i=>E8 1) (fun i a=>by
  obtain rfl:i=0:=o
  exact ⟨_,rfl,rfl⟩) fun am aj z ag=>⟨_,_,_,rfl,?_⟩
 refine Lk (xw.mono E9 (B0 c (B0 q z))) ag o (fun _ _=>?_) (fun no=>absurd ⟨rfl,fun i a=>?_⟩ no)
 rotate_left
 ·obtain rfl:i=0:=o
  rw [mw 0 o];rfl
 exact ⟨_,rfl,hK _ (B0 L (B0 c (B0 q z)))⟩
end
def C09:∀ v:Fin 3,∀ D:Fin 7,1<=v.val->(bM (mo v D).length).all (fun i=>decide (Ut (mon v D i)=i))=true:=by decide +kernel
structure RnV (h:aK) (A:Option aL) (v D m:Nat) (V:Nat->Rat):Prop where
 v1:1<=v
 v2:v<=2
 d6:D<=6
 row:aM NQr h A (mo v D).length V
 sz:∀ i,i<(mo v D).length->Sz m (V i)
 m1:1<=m
 m15:m<=15
section
variable {h h':aK} {K:VP} {A B:Option aL} {c cc m v d D:Nat} {V:Nat->Rat}
def RnV.mono(l:h.le h')(f:RnV h A v D m V):RnV h' A v D m V:=⟨f.v1,f.v2,f.d6,f.row.mono Q6 l,f.sz,f.m1,f.m15⟩
def A0o{k:Nat}(f:RnV h A v D m V)(hk:k<(mo v D).length)(t:SlI .i64 h B (mon v D k))(hK:∀ w,NQ h w (V k)->K w.v h):aN prog 86 #[.agg #[I (v:Int),I (D:Int),.slice A (mo v D).length c],.slice B (mon v D k).length cc] h K:=by
 refine (fnk func86 (own:=[2,4])) ?_
 obtain ⟨g,i,j⟩:=(O3 f.v1 f.v2 f.d6).val k hk
 refine A3x t ⟨_,_,rfl,?_⟩
 obtain ⟨a,w,e,d,c0,c1,c2,c3⟩:=f.row.qat hk
 have b:=C09 ⟨v,by have:=f.v2;omega⟩ ⟨D,by have:=f.d6;omega⟩ f.v1
 simp only [bN,cK,decide_eq_true_eq] at b
 rw [iP g,b k hk]
 exact ⟨a,e,o,o,_,_,_,_,_,_,_,_,c0,c1,c2,c3,hK w d⟩
def Xn(f:RnV h A v D m V)(hd3:d<=3)(hD:2*d<=D)
 (hK:∀ b h',h.le h'->RowsV h' (some ⟨b,0,none⟩) (nM v d) (nM v d) (Kb V v d)->K (.slice (some ⟨b,0,none⟩) (nM v d) (nM v d)) h'):
 aN prog 74 #[.agg #[I (v:Int),I (D:Int),.slice A (mo v D).length c],I (d:Int)] h K:=by
 have N:=f.v1;have R:=f.v2;have d6:=f.d6
 have nb:=Sg N R hd3
 have e9:(Ul v (d+1)).length=nM v d:=rfl
 refine (fnk func74 [(4,[22],[],[I 0]),(7,[27],[],[I 0])] (own:=[2])) ?_
 refine Oh (n:=v) (d:=d) oo oo fun A1 c1 y W C=>⟨_,_,_,rfl,?_⟩
 change MoSl y A1 (mo v d) at C
 change aN _ _ #[I ((nM v d:Nat):Int),I ((nM v d:Nat):Int)] _ _
 refine Ta oo oo fun h2 g2 o2 S Q l2 t2=>⟨_,_,_,rfl,?_⟩
 change ∃ Inv mu,_
 have f1:=f.mono W
 refine ⟨fun L u=>∃ (i:Nat) (g o:aK),i<=nM v d/\L=[I (i:Int)]/\y.le g/\Mt u g o S Q (nM v d) (nM v d) (fun a b=>if a<i then Kb V v d a b else 0),fun L _=>nM v d-(iAt L 0).toNat,⟨0,g2,o2,oo,rfl,l2,t2.congr fun a b _ _=>by rw [iN oo]⟩,?_⟩
 rintro z u ⟨i,g,o,hi,B,H,t⟩
 obtain rfl:=sI1 B
 refine C0 (fun aa=>?_) (fun X=>?_)
 ·have j:i<nM v d:=oo
  refine ⟨fun L u=>∃ (k:Nat) (g o:aK),k<=nM v d/\L=[I (k:Int)]/\y.le g/\Mt u g o S Q (nM v d) (nM v d) (fun a b=>if a<i\/a=i/\b<k then Kb V v d a b else 0),fun L _=>nM v d-(iAt L 0).toNat,⟨0,g,o,oo,rfl,H,t.congr fun a b _ _=>by
   by_cases x:a<i
   ·rw [iP x,iP (.inl x)]
   ·rw [iN x,iN oo]⟩,?_⟩
  rintro z ad ⟨k,g3,o3,hk,B,e,p⟩
  obtain rfl:=sI1 B
  refine C0 (fun T=>?_) (fun O=>?_)
  ·have l:k<nM v d:=oo
   obtain ⟨a1,B1,bc,e1,x1,y1⟩:=C.mon j
   obtain ⟨a2,B2,ac,e2,x2,y2⟩:=C.mon l
   have M:=B0 e p.sep.le
   refine ⟨a1,e1,oo,oo,_,_,_,C2 M x1,a2,e2,oo,oo,_,_,_,C2 M x2,?_⟩
   have q:=Q9 N R hd3 d6 hD j l
   refine p.sep.call (B05 (y1.mono e) (y2.mono e) (fun no=>by rw [q.pair] at no;cases no) fun _ B4 g4 s G h4 F=>⟨_,_,_,_,rfl,p.sep.le_le F s,?_⟩)
   have r:=p.next F s
   obtain ⟨cr,ae,hh⟩:=r.head j
   refine ⟨_,rfl,oo,oo,_,_,_,r.sep.cell hh,?_⟩
   rw [q.eq] at G ⊢
   refine r.sep.call (A0o (f1.mono (B0 e s)) q.lt G fun w hw h5 E=>⟨_,_,_,_,_,_,_,_,rfl,r.sep.le_le E (B7 _),_,rfl,oo,oo,?_⟩)
   refine (r.next E (B7 _)).store j l hw fun h6 o6 t6 _=>?_
   rw [wiS k oo]
   refine ⟨⟨k+1,g4,o6,oo,rfl,B0 e s,t6.congr fun a b _ _=>?_⟩,by simp only [R9];omega⟩
   show (if a=i/\b=k then Kb V v d i k else if a<i\/a=i/\b<k then Kb V v d a b else 0)=if a<i\/a=i/\b<k+1 then Kb V v d a b else 0
   grind
  ·rw [wiS i oo]
   refine ⟨⟨i+1,g3,o3,oo,rfl,e,p.congr fun a b ha hb=>?_⟩,by simp only [R9];omega⟩
   have:k=nM v d:=oo
   by_cases x:a<i+1
   ·rw [iP x,iP oo]
   ·rw [iN x,iN oo]
 ·have:i=nM v d:=oo
  exact hK _ _ (B0 W (B0 H t.sep.le)) (t.rowsV.congr fun a b ha _=>iP oo)
def RnV.msz(f:RnV h A v D m V)(hd3:d<=3)(hD:2*d<=D):∀ i j,i<nM v d->j<nM v d->Sz m (Kb V v d i j):=fun _ _ b a=>f.sz _ (Q9 f.v1 f.v2 hd3 f.d6 hD b a).lt
def A5k(v1:1<=v)(v2:v<=2)(hd:d<=2):nM v d<=6:=(A18 ⟨v,o⟩ ⟨d,o⟩ v1).2.2 hd
def A6q(f:RnV h A v D m V)(hd:d<=2)(hD:2*d<=D){b:Nat}(rs:RowsV h (some ⟨b,0,none⟩) (nM v d) (nM v d) (Kb V v d))
 (hK:∀ A1 c1 A2 c2 w h',h.le h'->SlF h' A2 (zs (pvL V v d))->K (.tuple #[.slice A1 (nM v d) c1,.slice A2 (rkM V v d) c2,QV.v w]) h'):
 aN prog 75 #[.slice (some ⟨b,0,none⟩) (nM v d) c,I (nM v d:Int)] h K:=by
 have e:=Sg f.v1 f.v2 (show d<=3 from o)
 have p:7^nM v d*m<=117649*15:=aJ (aS (n:=7) dc (A5k f.v1 f.v2 hd)) f.m15
 refine Yr (m:=m) rs e.1 o e.1 o (aD _) f.m1 (f.msz o hD) o ?_
 intro h' u s r j k A' a i l t g q id
 exact hK _ _ _ _ i _ (B0 l t.sep.le) (g.slF t.sep.ole)
def Ru(f:RnV h A v D m V)(hd:d<=2)(hD:2*d<=D)(hK:∀ h',h.le h'->K (I (rkM V v d:Int)) h'):
 aN prog 79 #[.agg #[I (v:Int),I (D:Int),.slice A (mo v D).length c],I (d:Int)] h K:=by
 have p:=Sg f.v1 f.v2 (show d<=3 from o)
 refine (fnk func79 (own:=[2,8])) ?_
 refine Xn f o hD fun b r j g=>⟨_,_,_,rfl,?_⟩
 obtain ⟨a,s,e,k,t,n,_⟩:=g.at (i:=0) p.1
 refine ⟨a,e,o,o,_,_,_,n,?_⟩
 rw [k]
 exact A6q (f.mono j) hd hD g fun A1 c1 A2 c2 w q l _=>⟨_,_,_,_,_,_,_,_,_,_,_,_,_,_,rfl,hK _ (B0 j l)⟩
def A3i(f:RnV h A v D m V)(hd1:1<=d)(hd:d<=2)(hD:2*d<=D)(hK:∀ fb h',h.le h'->(fb=true↔1<=rkM V v d/\rkM V v d=rkM V v (d-1))->K (.bool fb) h'):
 aN prog 32 #[.agg #[I (v:Int),I (D:Int),.slice A (mo v D).length c],I (d:Int)] h K:=by
 refine (fnk func32 (own:=[2])) ?_
 refine Ru f hd hD fun i a=>⟨_,rfl,C0 (fun b=>?_) (fun b=>hK _ _ a ⟨fun x=>by (cases x),fun x=>o⟩)⟩
 rw [show C4 ((d:Int)-1)=((d-1:Nat):Int) by rw [C1]<;>omega]
 refine Ru (f.mono a) o o fun g e=>⟨_,rfl,hK _ _ (B0 a e) ?_⟩
 rw [beq_iff_eq];omega
end
section
variable {h h':aK} {K:VP} {A B:Option aL} {c cc m v d D:Nat} {V:Nat->Rat}
def B6s(v1:1<=v)(v2:v<=2)(hd:d<=2)(d6:D<=6)(hD:2*d+2<=D)(hs:∀ i,i<(mo v D).length->Sz 15 (V i)){j:Nat}(_:j<v):∀ i k,i<rkM V v d->k<rkM V v d->Sz 200000 (ivM V v d i k)/\Sz 200000 (A02 V (uni j) v d i k):=fun i k b c=>by
 have r6:rkM V v d<=6:=aV (A95 V v d) (A5k v1 v2 hd)
 have lt:∀ t,t<rkM V v d->(pvL V v d).getD t 0<nM v d:=fun t a=>Ek V v d a
 constructor
 ·refine (A5s (m:=15) o (fun t a=>?_) (Vk (V:=V) (d:=d) (D:=D) v1 v2 o d6 o) i k b c).mono ?_
  ·exact hs _ (Q9 v1 v2 (show d<=3 from o) d6 o (lt _ (bO a)) (lt _ (cJ _ o))).lt
  ·have e:3^rkM V v d<=729:=aS (n:=3) dc r6
   have:(rkM V v d+rkM V v d)*15<=12*15:=aF _ o
   exact aV (aJ e (show bnd (rkM V v d+rkM V v d) 15<=196 by unfold bnd;omega)) dc
 ·refine (Jr (m:=15) (w:=v) (fun t _=>?_) (fun t a=>hs _ (mu3 v1 v2 hd d6 o (lt i b) (lt k c) a).lt) v (aD _)).mono ?_
  ·unfold uni
   split
   ·exact Ls.mono o
   ·exact Sz.zero o
  ·have:v*(2*15+1)<=2*31:=aF _ v2
   omega
def Yu(gl:Gl h)(f:FnV h A v D m V)(hm1:1<=m)(hm:m<=15)(hd3:d<=3)
 (h3:d<1\/D<2*d->∀ h',h.le h'->K (.tuple #[.slice none 0 0,I 3]) h')
 (h11:1<=d->2*d<=D->¬ (rkM V v d=rkM V v (d-1)/\1<=rkM V v d)->∀ h',h.le h'->K (.tuple #[.slice none 0 0,I 11]) h')
 (hok:∀ d',d=d'+1->2*d<=D->rkM V v d=rkM V v d'->1<=rkM V v d'->∀ BA bc h',h.le h'->aM MIr h' BA (rkM V v d') (bdr V v d')->K (.tuple #[.slice BA (rkM V v d') bc,I 0]) h'):
 aN prog 24 #[.agg #[I (v:Int),I (D:Int),.slice A (mo v D).length c],I (d:Int)] h K:=by
 have u:=f.v2
 refine (fnk func24 (os:=[(1,[0,1,2,8,3,4,5,6,7,9,10])]) (own:=[2,6])) ?_
 refine Dq o fun b t own=>⟨_,_,_,rfl,own.le,?_⟩
 have g:=own.le
 refine Dp (F:=fun _=>0) (m2:=1) (gl.mono g) (f.mono g) hm1 hm hd3 (own.vis E9) (fun _ _=>Sz.zero o) o
  (fun e=>⟨_,_,_,_,_,_,_,_,_,_,_,_,_,_,rfl,B7 _,D9 (fun _=>h3 o _ g) (fun e=>o)⟩)
  (fun k n _ no=>⟨_,_,_,_,_,_,_,_,_,_,_,_,_,_,rfl,B7 _,D9 (fun _=>h11 k n (fun x=>no ⟨x.1,x.2,fun z=>by cases z⟩) _ g) (fun e=>o)⟩) ?_
 intro d' p q _ a i _ BA bc IA w s j l r
 exact ⟨_,_,_,_,_,_,_,_,_,_,_,_,_,_,rfl,j,D9 (fun e=>absurd rfl e) (fun _=>hok d' p q a i _ _ _ (B0 g j) l)⟩
def As{var:Int}(gl:Gl h)(f:FnV h A v D m V)(hm1:1<=m)(hm:m<=15)(hd3:d<=3)
 (h3:d<1\/D<2*d\/var<0\/(v:Int)<=var->∀ h',h.le h'->K (.tuple #[Dx 0 0 none 0 0,I 3]) h')
 (h11:1<=d->2*d<=D->0<=var->var<v->¬ (rkM V v d=rkM V v (d-1)/\1<=rkM V v d)->∀ h',h.le h'->K (.tuple #[Dx 0 0 none 0 0,I 11]) h')
 (hok:∀ d' j,d=d'+1->var=((j:Nat):Int)->j<v->2*d<=D->rkM V v d=rkM V v d'->1<=rkM V v d'->∀ MA mc h',h.le h'->aM SSr h' MA (rkM V v d'*rkM V v d') (K8 (fmM V (uni j) v d') (rkM V v d'))->K (.tuple #[Dx (rkM V v d') (rkM V v d') MA (rkM V v d'*rkM V v d') mc,I 0]) h'):
 aN prog 25 #[.agg #[I (v:Int),I (D:Int),.slice A (mo v D).length c],I (d:Int),I var] h K:=by
 have B:=f.v2
 refine (fnk func25 (os:=[(3,[0,1,2,3,9,4,5,6,7,8,10,11])]) (own:=[3,6,8])) ?_
 refine Ao gl f ⟨_,rfl,B4k (C0 (fun e=>h3 o _ (B7 _)) (fun R=>?_))⟩
 refine Dq o fun b N own=>⟨_,_,_,rfl,own.le,?_⟩
 have l:=own.le
 refine Dp (F:=fun _=>0) (m2:=1) (gl.mono l) (f.mono l) hm1 hm hd3 (own.vis E9) (fun _ _=>Sz.zero o) o
  (fun e=>⟨_,_,_,_,_,_,_,_,_,_,_,_,_,_,rfl,B7 _,D9 (fun _=>h3 o _ l) (fun e=>o)⟩)
  (fun L u M no=>⟨_,_,_,_,_,_,_,_,_,_,_,_,_,_,rfl,B7 _,D9 (fun _=>h11 L u o M (fun x=>no ⟨x.1,x.2,fun z=>by cases z⟩) _ l) (fun e=>o)⟩) ?_
 intro d' G t n g k _ BA O IA Q s p y H
 refine ⟨_,_,_,_,_,_,_,_,_,_,_,_,_,_,rfl,p,D9 (fun e=>absurd rfl e) (fun _=>?_)⟩
 have a:=B0 l p
 have q:Quo s A BA IA v D m d' V:=⟨f.mono a,o,o,k,hm1,hm,y,H⟩
 obtain ⟨j,rfl⟩:∃ j:Nat,var=(j:Int):=⟨var.toNat,o⟩
 refine Qb (mq:=200000) (gl.mono a) q o (B6s f.v1 B o f.d6 o (fun i E=>(f.sz i E).mono hm) o) o o fun A3 c3 C w r=>⟨_,_,_,_,_,_,rfl,?_⟩
 exact hok d' j G rfl o t g k _ _ _ (B0 a w) r
end
section
set_option maxRecDepth 100000
variable {h:aK} {K:VP}
end
section
set_option maxRecDepth 100000
variable {h:aK} {K:VP}
end
def A14{a b:List Int}: ∀ {k:Nat},Y2 a b k=0->∀ i,i<k->a.getD i 0=b.getD i 0
 | 0,_,i,hi=>by omega
 | k+1,e,i,hi=>by
  unfold Y2 at e
  by_cases q:a.getD k 0=b.getD k 0
  ·rw [iN (by simpa using q)] at e
   by_cases hik:i=k
   ·subst hik;exact q
   ·exact A14 e i o
  ·rw [iP q] at e;unfold Ki at e;grind
def B6o{a b:List Int}(hl:a.length=b.length)(e:A72 a b=0):a=b:=by
 unfold A72 at e
 by_cases q:a.sum=b.sum
 ·rw [iN (by simpa using q)] at e
  refine List.ext_getElem hl fun i c d=>?_
  have:=A14 e i c
  simpa [aX,c,d] using this
 ·rw [iP q] at e;unfold Ki at e;grind
def A82{P:bV}{f:FuncId}{args:Array aQ}{h g:aK}{e:bD}{s:Nat}{A:Option aL}{n c:Nat}{xs:List aQ}(p:Priv h g e s A n c xs){K:VP}(x:aN P f args g (fun r h0=>g.le h0/\∀ h',h.le h'->Priv h' h0 e s A n c xs->K r h')):aN P f args h K:=by
 rcases p with ⟨z,a,⟨l,rfl⟩|⟨b,m,B,i,rfl,w⟩⟩
 ·exact x.mono fun r h0 ⟨y,j⟩=>j h0 y ⟨z,a,.inl ⟨l,rfl⟩⟩
 ·exact FCall.frame i x fun r h0 t ⟨y,j⟩=>j _ (fun k u q=>by
   by_cases d:k=b
   ·subst d;rw [C3] at q ⊢;exact q
   ·rw [B9 _ _ d] at q ⊢;exact y _ _ q) ⟨z,a,.inr ⟨b,m,B,t,rfl,w⟩⟩
section
variable {α β:Type} [E:Enc α] {R:aK->α->β->Prop} {e:bD} {h0 h1 hp:aK} {A:Option aL} {c n:Nat} {f:Nat->β}
def LsP(R:aK->α->β->Prop)(e:bD)(h0 hp:aK)(A:Option aL)(c n:Nat)(f:Nat->β):Prop:=∃ g,∃ xs:List α,h0.le g/\PrivF hp g e A c xs/\xs.length=n/\Row R g xs n f
def LsP.nil:LsP R e h0 h0 A 0 0 f:=⟨h0,[],B7 _,PrivF.nil _ _ _,rfl,Row.nil⟩
def LsP.le(l:LsP R e h0 hp A c n f):h0.le hp:=by
 obtain ⟨g,b,a,p,_⟩:=l
 exact B0 a p.le
def LsP.weak(w:h1.le h0)(l:LsP R e h0 hp A c n f):LsP R e h1 hp A c n f:=by
 obtain ⟨g,a,b,r⟩:=l
 exact ⟨g,a,B0 w b,r⟩
def LsP.row(m:Mon R)(l:LsP R e h0 hp A c n f):aM R hp A n f:=by
 obtain ⟨g,a,d,p,b,r⟩:=l
 exact ⟨a,p.sl,b,r.mono m p.le⟩
def LsP.cap(l:LsP R e h0 hp A c n f):n<=c:=by
 obtain ⟨g,a,b,p,rfl,r⟩:=l
 exact p.2.1
def LsP.call(m:Mon R){P:bV}{F:FuncId}{args:Array aQ}{K:VP}(l:LsP R e h0 hp A c n f)(x:∀ g,h0.le g->aN P F args g (fun r g'=>g.le g'/\∀ h',hp.le h'->LsP R e g' h' A c n f->K r h')):aN P F args hp K:=by
 obtain ⟨g,d,q,p,j,r⟩:=l
 refine A82 p ((x g q).mono ?_)
 rintro v g' ⟨a,k⟩
 exact ⟨a,fun h' i b=>k h' i ⟨g',d,B7 _,b,j,r.mono m a⟩⟩
def LsP.push(m:Mon R){P:bV}{t ty:bD}{z:aQ}{bytes k:Nat}(st:SliceT P t e z E.default.size bytes)(l:LsP R e h0 hp A c n f)(hk:k=n){f':Nat->β}(hf:∀ i,i<n->f' i=f i){v:aQ}{y:α}(hv:v.cells=(enc y).toArray)(hR:R h0 y (f' n))(hsz:E.default.size<=1000/\bytes<=1000)
 (hb:n<=1000000) {K:Option aL->Nat->Nat->aK->Prop}
 (x:∀ A' c' h',LsP R e h0 h' A' c' (n+1) f'->K A' (n+1) c' h'):
 wpH P (bH t 1 #[(0,v)]) (fun v' hp'=>∃ (B:Option aL) (m d:Nat),v'= .slice B m d/\Heap.le hp hp'/\wpH P (bI #[t,t] ty #[.slice A k c,.slice B m d]) (fun v1 hp1=>∃ (A':Option aL) (n' c':Nat),v1= .slice A' n' c'/\K A' n' c' hp1) hp') hp:=by
 subst hk
 obtain ⟨g,xs,L,p,j,r⟩:=l
 refine Y3 st (vs:=[v]) (fun u Q=>by rw [List.mem_singleton.1 Q,hv];simp [E.default.len]) rfl gz0 rfl ?_
 intro b a
 have C:[v].flatMap (fun v=>v.cells.toList)=[y].flatMap enc:=by simp [hv]
 rw [C]
 refine ⟨_,_,_,rfl,Heap.le_put _ a,?_⟩
 have D:g b=none:=by
  cases q:g b with
  | none=>rfl
  | some u=>rw [p.le _ _ q] at a;cases a
 have O:PrivF (hp.put b (.cells ([y].flatMap enc).toArray e)) (g.put b (.cells ([y].flatMap enc).toArray e)) e A c xs:=Priv.put p a _
 have s:=Heap.le_put (.cells ([y].flatMap enc).toArray e) D
 rw [<- j]
 refine Ah st O (ys:=[y]) rfl (Zg e hp b [y]) (by rw [j];exact aV (aJ (show 2*(k+1)+192<=3000000 from o) hsz.2) dc) (by rw [j,cC];omega) ?_
 intro A' c' h' G F N
 rw [aP,cC,j]
 refine ⟨_,_,_,rfl,x A' c' h' ⟨G,_,B0 L (B0 s F),N,by rw [aP,j];rfl,?_⟩⟩
 have M:Row R G xs k f':=(r.mono m (B0 s F)).congr fun i S=>(hf i S).symm
 have H:=Row.push (R:=R) (g:=G) (xs:=xs) (f:=f') (by rw [j];exact M) (w:=y) (by rw [j];exact m _ _ _ _ (B0 L (B0 s F)) hR)
 rw [aP,cC,j] at H
 exact H
def LsP.app(m:Mon R){P:bV}{t ty:bD}{z:aQ}{bytes k j d:Nat}(st:SliceT P t e z E.default.size bytes)(l:LsP R e h0 hp A c n f)(hk:k=n){B:Option aL}{g f':Nat->β}(row:aM R h0 B j g)(hf:∀ i,i<n->f' i=f i)(hg:∀ i,i<j->f' (n+i)=g i)(hsz:bytes<=1000)
 (hb:n+j<=1000000) {K:VP}
 (x:∀ A' c' h',LsP R e h0 h' A' c' (n+j) f'->K (.slice A' (n+j) c') h'):
 wpH P (bI #[t,t] ty #[.slice A k c,.slice B j d]) K hp:=by
 subst hk
 obtain ⟨M,N,y,p,q,r⟩:=l
 obtain ⟨F,D,s,G⟩:=row
 rw [<- q]
 refine Ah st p (ys:=F) s.symm (D.mono (B0 y p.le)) (by rw [q,s];exact aV (aJ (show 2*(k+j)+192<=3000000 from o) hsz) dc) (by rw [q,s];omega) ?_
 intro A' c' h' L b H
 rw [aP,q,s]
 refine x A' c' h' ⟨L,_,B0 y b,H,by rw [aP,q,s],fun i O=>?_⟩
 by_cases C:i<k
 ·obtain ⟨u,w,a⟩:=r i C
  exact ⟨u,by rw [cN o];exact w,by rw [hf i C];exact m _ _ _ _ b a⟩
 ·obtain ⟨i,rfl⟩:∃ j0,i=k+j0:=⟨i-k,o⟩
  obtain ⟨u,w,a⟩:=G i o
  exact ⟨u,by rw [cL o,q,bY];exact w,by rw [hg i o];exact m _ _ _ _ (B0 y b) a⟩
end
abbrev QT:=Rat × List Int
def tg(ts:List QT)(i:Nat):QT:=ts.getD i (0,[])
def RPr:aK->TRm->QT->Prop:=fun h w t=>NQ h w.w t.1/\w.n=t.2.length/\SlI .i64 h w.B t.2
def Aa:Mon RPr:=fun _ _ _ _ l i=>⟨NQ.mono l i.1,i.2.1,i.2.2.mono l⟩
def psm(g:List Int->Rat):List QT->Rat
 | []=>0
 | t::ts=>t.1*g t.2+psm g ts
def Sb(g:List Int->Rat)(a b:List QT):psm g (a++b)=psm g a+psm g b:=by
 induction a with
 | nil=>simp only [List.nil_append,psm];grind
 | cons t ts ih=>simp only [List.cons_append,psm,ih];grind
def B37(g:List Int->Rat){a b:List QT}(h:a.Perm b):psm g a=psm g b:=by
 induction h with
 | nil=>rfl
 | cons x _ ih=>simp only [psm,ih]
 | swap x y l=>simp only [psm];grind
 | trans _ _ i1 i2=>rw [i1,i2]
def B6l(g:List Int->Rat)(c:Rat)(a:List QT):psm (fun e=>c*g e) a=c*psm g a:=by
 induction a with
 | nil=>simp only [psm];grind
 | cons t ts ih=>simp only [psm,ih];grind
def Xe{a b:List QT}{i:Nat}(h:i<a.length):tg (a++b) i=tg a i:=by
 simp [tg,aX,cN h]
def Xd{a b:List QT}{i n:Nat}(h:a.length=n):tg (a++b) (n+i)=tg b i:=by
 subst h
 show ((a++b)[a.length+i]?).getD _=_
 rw [cL o,bY];rfl
def Jb{a:List QT}{i:Nat}(h:i<a.length):tg a i∈a:=by
 simp [tg,aX,h]
def Za{a:List QT}{i:Nat}(h:i<a.length):a.drop i=tg a i::a.drop (i+1):=by
 rw [List.drop_eq_getElem_cons h];simp [tg,aX,h]
section
variable {h h' hp:aK} {K:VP} {A B:Option aL} {c cc m n v:Nat} {ts os:List QT}
def RowV.rp(r:aM RPr h A n (tg ts)){i:Nat}(hi:i<n):∃ a w,A=some a/\RPr h w (tg ts i)/\∀ j u,(enc w)[j]? = some u->h.cell? (aE (aE a (i*5)) j)=some u:=r.at dc hi
def Xg{Q:Option aL->Nat->Nat->aK->Prop}{h0:aK}{oA:Option aL}{on oc i:Nat}(L:Lst RPr 86 h0 hp oA oc on (tg os))(ho:os.length=on)(r:aM RPr h0 A n (tg ts))(hi:i<n)(hb:on<=1000000)
 (x:∀ A' c' h',Lst RPr 86 h0 h' A' c' (on+1) (tg (os++[tg ts i]))->Q A' (on+1) c' h'):
 ∃ a,A=some a/\0<=(i:Int)/\(i:Int)<((n:Nat):Int)/\∃ (t620:Bool) (t621A:Option aL) (t621n:Nat) (t621c:Nat) (t622:Bool) (t623A:Option aL) (t623n:Nat) (t623c:Nat) (t624A:Option aL) (t624n:Nat) (t624c:Nat),Heap.cell? hp (aE (aE a ((i:Int).toNat*5)) 0)=some (.bool t620)/\Heap.cell? hp (aE (aE a ((i:Int).toNat*5)) 1)=some (.slice t621A t621n t621c)/\Heap.cell? hp (aE (aE a ((i:Int).toNat*5)) 2)=some (.bool t622)/\Heap.cell? hp (aE (aE a ((i:Int).toNat*5)) 3)=some (.slice t623A t623n t623c)/\Heap.cell? hp (aE (aE a ((i:Int).toNat*5)) 4)=some (.slice t624A t624n t624c)/\wpH prog (bH 78 1 #[(0,.agg #[.bool t620,.slice t621A t621n t621c,.bool t622,.slice t623A t623n t623c,.slice t624A t624n t624c])]) (fun v hp3=>∃ (t63A:Option aL) (t63n:Nat) (t63c:Nat),v= .slice t63A t63n t63c/\wpH prog (bI #[78,78] 78 #[.slice oA on oc,.slice t63A t63n t63c]) (fun v1 hp4=>∃ (t64A:Option aL) (t64n:Nat) (t64c:Nat),v1= .slice t64A t64n t64c/\Q t64A t64n t64c hp4) hp3) hp:=by
 obtain ⟨a,w,e,c,d⟩:=r.rp hi
 have b:=fun j u q=>C2 L.le (d j u q)
 refine ⟨a,e,o,o,_,_,_,_,_,_,_,_,_,_,_,b 0 _ rfl,b 1 _ rfl,b 2 _ rfl,b 3 _ rfl,b 4 _ rfl,?_⟩
 refine (L.congr (f':=tg (os++[tg ts i])) fun j f=>(Xe o).symm).push Aa A88 rfl (y:=w) (by rfl) ?_ dc hb x
 rw [show on=on+0 from rfl,Xd ho]
 exact c
def Xm:∀ (N:Nat) {h:aK} {K:VP} {A:Option aL} {c n:Nat} {ts:List QT},n<=N->ts.length=n->n<=c->n<=1000->aM RPr h A n (tg ts)->(∀ t∈ts,t.2.length=v/\ExB t.2)->(∀ A' c' ts' h',h.le h'->n<=c'->ts'.Perm ts->aM RPr h' A' n (tg ts')->K (.slice A' n c') h')->aN prog 81 #[.slice A n c] h K:=by
 intro N
 induction N with
 | zero=>
  intro h K A c n ts hn hl C _ r _ F
  refine (fnk func81 [(6,[5,6,7],[],[.slice none 0 0,I 0,I 0])] (os:=[(3,[0,1,2,3,4,6,7,8,9,10,5,11,12,13])])) ?_
  exact C0 (fun _=>F _ _ _ _ (B7 _) C (cM _) r) (fun no=>o)
 | succ N ih=>
  intro h K A c n ts hn hl C V r G F
  refine (fnk func81 [(6,[5,6,7],[],[.slice none 0 0,I 0,I 0])] (os:=[(3,[0,1,2,3,4,6,7,8,9,10,5,11,12,13])])) ?_
  refine C0 (fun _=>F _ _ _ _ (B7 _) C (cM _) r) (fun m=>?_)
  have e2:C4 (Int.tdiv (n:Int) 2)=((n/2:Nat):Int):=by
   rw [bF o,C1 o o];omega
  rw [e2]
  refine ⟨⟨o,o⟩,⟨o,o⟩,?_⟩
  simp only [aC,Nat.sub_zero]
  have ra:aM RPr h (T9 A c 0 5) (n/2) (tg (ts.take (n/2))):=(r.cut (c:=c) (l:=0) (k:=n/2) o C).congr fun i H=>by
   simp [tg,aX,List.getElem?_take,H]
  have rb:aM RPr h (T9 A c (n/2) 5) (n-n/2) (tg (ts.drop (n/2))):=(r.cut (c:=c) (l:=n/2) (k:=n-n/2) o C).congr fun i H=>by
   simp [tg,aX,List.getElem?_drop]
  refine ih (ts:=ts.take (n/2)) o (by rw [List.length_take];omega) o o ra (fun t f=>G t (List.mem_of_mem_take f)) fun A1 c1 a h1 l1 ae pa u=>⟨_,_,_,rfl,l1,?_⟩
  refine ih (ts:=ts.drop (n/2)) o (by rw [List.length_drop];omega) o o (rb.mono Aa l1) (fun t f=>G t (List.mem_of_mem_drop f)) fun A2 c2 b m X ad T W=>⟨_,_,_,rfl,X,?_⟩
  have la:a.length=n/2:=by rw [pa.length_eq,List.length_take];omega
  have lb:b.length=n-n/2:=by rw [T.length_eq,List.length_drop];omega
  have u:=u.mono Aa X
  have Ea:∀ t∈a,t.2.length=v/\ExB t.2:=fun t f=>G t (List.mem_of_mem_take (pa.mem_iff.1 f))
  have Eb:∀ t∈b,t.2.length=v/\ExB t.2:=fun t f=>G t (List.mem_of_mem_drop (T.mem_iff.1 f))
  have w:(a++b).Perm ts:=by
   have:=pa.append T
   rwa [List.take_append_drop] at this
  refine ⟨fun L hp=>∃ (i k:Nat) (os:List QT) (A':Option aL) (c':Nat),i<=n/2/\k<=n-n/2/\L=[.slice A' (i+k) c',I (i:Int),I (k:Int)]/\Lst RPr 86 m hp A' c' (i+k) (tg os)/\os.length=i+k/\(os++(a.drop i++b.drop k)).Perm (a++b),fun L _=>n-((iAt L 1).toNat+(iAt L 2).toNat),⟨0,0,[],none,0,o,o,rfl,Lst.nil,rfl,cM _⟩,?_⟩
  rintro D on E z z2 hp ⟨i,k,os,A',c',H,hk,eL,L,p,j⟩
  simp only [aG,aH,aI,true_and,and_true] at eL
  obtain ⟨⟨rfl,rfl,rfl⟩,rfl,rfl⟩:=eL
  have y:i<n/2->∀ A' c' h',Lst RPr 86 m h' A' c' (i+k+1) (tg (os++[tg a i]))->(∃ (i' k':Nat) (os:List QT) (A'':Option aL) (c'':Nat),i'<=n/2/\k'<=n-n/2/\([.slice A' (i+k+1) c',I (C4 ((i:Int)+1)),I (k:Int)]:List aQ)=[.slice A'' (i'+k') c'',I (i':Int),I (k':Int)]/\Lst RPr 86 m h' A'' c'' (i'+k') (tg os)/\os.length=i'+k'/\(os++(a.drop i'++b.drop k')).Perm (a++b))/\n-((iAt [.slice A' (i+k+1) c',I (C4 ((i:Int)+1)),I (k:Int)] 1).toNat+(iAt [.slice A' (i+k+1) c',I (C4 ((i:Int)+1)),I (k:Int)] 2).toNat)<n-((iAt [.slice D (i+k) E,I (i:Int),I (k:Int)] 1).toNat+(iAt [.slice D (i+k) E,I (i:Int),I (k:Int)] 2).toNat):=fun e A' c' h' L'=>by
   rw [wiS i o]
   have g:i+k+1=i+1+k:=o
   rw [g] at L' ⊢
   refine ⟨⟨i+1,k,_,_,_,o,hk,rfl,L',by rw [aP,p];exact g,?_⟩,by simp [iAt];omega⟩
   rw [List.append_assoc]
   rw [Za o] at j
   exact j
  have B:k<n-n/2->∀ A' c' h',Lst RPr 86 m h' A' c' (i+k+1) (tg (os++[tg b k]))->(∃ (i' k':Nat) (os:List QT) (A'':Option aL) (c'':Nat),i'<=n/2/\k'<=n-n/2/\([.slice A' (i+k+1) c',I (i:Int),I (C4 ((k:Int)+1))]:List aQ)=[.slice A'' (i'+k') c'',I (i':Int),I (k':Int)]/\Lst RPr 86 m h' A'' c'' (i'+k') (tg os)/\os.length=i'+k'/\(os++(a.drop i'++b.drop k')).Perm (a++b))/\n-((iAt [.slice A' (i+k+1) c',I (i:Int),I (C4 ((k:Int)+1))] 1).toNat+(iAt [.slice A' (i+k+1) c',I (i:Int),I (C4 ((k:Int)+1))] 2).toNat)<n-((iAt [.slice D (i+k) E,I (i:Int),I (k:Int)] 1).toNat+(iAt [.slice D (i+k) E,I (i:Int),I (k:Int)] 2).toNat):=fun s A' c' h' L'=>by
   rw [wiS k o]
   have g:i+k+1=i+(k+1):=o
   rw [g] at L' ⊢
   refine ⟨⟨i,k+1,_,_,_,H,o,rfl,L',by rw [aP,p];exact g,?_⟩,by simp [iAt];omega⟩
   rw [Za (a:=b) o] at j
   refine List.Perm.trans ?_ j
   rw [List.append_assoc]
   refine List.Perm.append_left os ?_
   show (tg b k::(a.drop i++b.drop (k+1))).Perm _
   exact List.perm_middle.symm
  refine C0 (fun Q=>?_) (fun M=>?_)
  ·have e:i<n/2:=o
   refine D5 (fun s=>Xg L p u e o (y e)) (fun s=>C0 (fun _=>?_) (fun no=>absurd Q no))
   have d:k<n-n/2:=o
   obtain ⟨a1,w1,g,x1,R⟩:=u.rp e
   obtain ⟨a2,w2,O,x2,S⟩:=W.rp d
   refine ⟨a1,g,o,o,_,_,_,C2 L.le (R 4 _ rfl),a2,O,o,o,_,_,_,C2 L.le (S 4 _ rfl),?_⟩
   have m1:=Ea _ (Jb (i:=i) o)
   have m2:=Eb _ (Jb (i:=k) o)
   rw [x1.2.1,x2.2.1]
   exact Rs (by rw [m1.1,m2.1]) m1.2 m2.2 (x1.2.2.mono L.le) (x2.2.2.mono L.le) ⟨_,rfl,B7 _,C0 (fun _=>Xg L p u e o (y e)) (fun _=>Xg L p W d o (B d))⟩
  ·refine C0 (fun ac=>?_) (fun aa=>?_)
   ·have d:k<n-n/2:=o
    exact D5 (fun q=>o) (fun _=>C0 (fun q=>absurd q M) (fun _=>Xg L p W d o (B d)))
   ·obtain rfl:i=n/2:=o
    obtain rfl:k=n-n/2:=o
    have en:n/2+(n-n/2)=n:=o
    have cap:=L.cap
    have rL:=L.row Aa
    rw [en] at rL cap ⊢
    refine F _ _ os _ (B0 l1 (B0 X L.le)) cap ?_ rL
    have ea:a.drop (n/2)=[]:=cR o
    have eb:b.drop (n-n/2)=[]:=cR o
    rw [ea,eb,List.append_nil,List.append_nil] at j
    exact j.trans w
end
def Rng(E:Nat)(e:List Int):Prop:=(∀ z∈e,0<=z)/\e.sum<=(E:Int)
def Rng.at{E:Nat}{e:List Int}(r:Rng E e){z:Int}(hz:z∈e):0<=z/\z<=(E:Int):=⟨r.1 z hz,Int.le_trans (B0n r.1 hz) r.2⟩
def TOk(v E m:Nat)(ts:List QT):Prop:=∀ t∈ts,t.2.length=v/\Rng E t.2/\Sz m t.1
def TOk.exb{v E m:Nat}{ts:List QT}(o:TOk v E m ts)(hv:v<=6)(hE:E<=1000):∀ t∈ts,t.2.length=v/\ExB t.2:=fun t c=>by
 obtain ⟨a,b,_⟩:=o t c
 exact ⟨a,oo,fun x d=>by have:=b.at d;omega⟩
section
variable {h h' hp:aK} {K:VP} {A B:Option aL} {c cc m n v E:Nat} {ts os:List QT}
def Ei(r:aM RPr h A n (tg ts))(hl:ts.length=n)(hc:n<=c)(hn:n<=1000)(o:TOk v E m ts)(hv:v<=6)(hE:E<=1000)(hm:n*(m+1)+m<=400000000)
 (hK:∀ A' c' n' ts' h',h.le h'->aM RPr h' A' n' (tg ts')->ts'.length=n'->n'<=n->n'<=c'->TOk v E (n*(m+1)) ts'->(∀ g,psm g ts'=psm g ts)->K (.agg #[I (v:Int),.slice A' n' c']) h'):
 aN prog 37 #[I (v:Int),.slice A n c] h K:=by
 refine (fnk func37 [(4,[7],[(6,2)],[I 0,I 0,.slice none 0 0]),(7,[9],[(8,4)],[I 0,.bool false,.slice none 0 0,.bool false,.slice none 0 0])] (own:=[4,6,8]) (wr:=[1000000000])) ?_
 refine Xm (v:=v) n (aD _) hl hc hn r (o.exb hv hE) fun A1 c1 f D l1 au pm r1=>⟨_,_,_,rfl,?_⟩
 have ls:f.length=n:=by rw [pm.length_eq,hl]
 have os:TOk v E m f:=fun t V=>o t (pm.mem_iff.1 V)
 refine ⟨fun L hp=>∃ (i j:Nat) (p:List QT) (A':Option aL) (c':Nat),i<=n/\j<=i/\L=[I (i:Int),I (v:Int),.slice A' j c']/\Lst RPr 86 D hp A' c' j (tg p)/\p.length=j/\TOk v E (n*(m+1)) p/\(∀ g,psm g p+psm g (f.drop i)=psm g f),fun L _=>n-(iAt L 0).toNat,⟨0,0,[],none,0,oo,oo,rfl,Lst.nil,rfl,fun t V=>(by cases V),fun g=>by rw [List.drop_zero];show 0+_=_;grind⟩,?_⟩
 rintro z p0 R F S hp ⟨i,j,p,A',c',hi,hj,eL,L,hq,oq,eq⟩
 simp only [aG,aI,aH,true_and,and_true] at eL
 obtain ⟨rfl,rfl,rfl,rfl,rfl⟩:=eL
 refine C0 (fun ak=>?_) (fun ap=>?_)
 ·have ag:i<n:=oo
  obtain ⟨a,w,e,hw,af⟩:=r1.rp ag
  have mi:=os _ (Jb (i:=i) oo)
  have z0:=Y7 (aE a (i*5))
  have cl:=fun {H:aK} (l:D.le H) j u q=>C2 l (af j u q)
  have cz:=fun {H:aK} (l:D.le H) j u q=>(show H.cell? (aE (aE (aE a (i*5)) 0) j)=some u by rw [z0];exact cl l j u q)
  refine ⟨a,e,oo,oo,_,_,_,_,_,_,_,_,cz L.le 0 _ rfl,cz L.le 1 _ rfl,cz L.le 2 _ rfl,cz L.le 3 _ rfl,?_⟩
  refine ⟨fun L2 hx=>∃ (k:Nat) (d:QV) (q:Rat) (g0:aK),i<k/\k<=n/\L2=[I (k:Int),.bool d.s,.slice d.A d.n d.c,.bool d.s2,.slice d.A2 d.n2 d.c2]/\D.le g0/\Lst RPr 86 g0 hx R S F (tg p)/\NQ g0 d q/\Sz ((k-i)*(m+1)) q/\(∀ g,q*g (tg f i).2+psm g (f.drop k)=psm g (f.drop i)),fun L2 _=>n-(iAt L2 0).toNat,⟨i+1,w.w,(tg f i).1,D,oo,oo,?_,B7 _,L,hw.1,mi.2.2.mono (by rw [bY,bK];omega),fun g=>by rw [Za (i:=i) oo];rfl⟩,?_⟩
  ·rw [wiS i oo]
  rintro z1 d0 ao am aj d2 al aq an hx ⟨k,d,q,g0,ar,hk,T,C,L2,iq,sq,Q⟩
  simp only [aG,aI,aH,bG,true_and,and_true] at T
  obtain ⟨rfl,rfl,⟨rfl,rfl,rfl⟩,rfl,⟨rfl,rfl,rfl⟩⟩:=T
  have kn:(k-i)*(m+1)<=n*(m+1):=aF _ oo
  have W:aN prog 19 #[d.v] hx (fun r3 M=>∃ (t53:Int),r3=I t53/\Br (t53 != (0:Int)) (∃ a4,A1=some a4/\0<=(i:Int)/\(i:Int)<((n:Nat):Int)/\∃ (t62A:Option aL) (t62n:Nat) (t62c:Nat),Heap.cell? M (aE (aE a4 ((i:Int).toNat*5)) 4)=some (.slice t62A t62n t62c)/\wpH prog (bH 78 1 #[(0,.agg #[.bool d.s,.slice d.A d.n d.c,.bool d.s2,.slice d.A2 d.n2 d.c2,.slice t62A t62n t62c])]) (fun v1 ac=>∃ (t64A:Option aL) (t64n:Nat) (t64c:Nat),v1= .slice t64A t64n t64c/\Heap.le M ac/\wpH prog (bI #[78,78] 78 #[.slice R F S,.slice t64A t64n t64c]) (fun v2 ae=>∃ (t65A:Option aL) (t65n:Nat) (t65c:Nat),v2= .slice t65A t65n t65c/\(∃ (i' j:Nat) (p:List QT) (A':Option aL) (c':Nat),i'<=n/\j<=i'/\[I (k:Int),I (v:Int),.slice t65A t65n t65c]=[I (i':Int),I (v:Int),.slice A' j c']/\Lst RPr 86 D ae A' c' j (tg p)/\p.length=j/\TOk v E (n*(m+1)) p/\(∀ g,psm g p+psm g (f.drop i')=psm g f))/\n-(iAt [I (k:Int),I (v:Int),.slice t65A t65n t65c] 0).toNat<n-(iAt [I (i:Int),I (v:Int),.slice R F S] 0).toNat) ac) M) ((∃ (i' j:Nat) (p:List QT) (A':Option aL) (c':Nat),i'<=n/\j<=i'/\[I (k:Int),I (v:Int),.slice R F S]=[I (i':Int),I (v:Int),.slice A' j c']/\Lst RPr 86 D M A' c' j (tg p)/\p.length=j/\TOk v E (n*(m+1)) p/\(∀ g,psm g p+psm g (f.drop i')=psm g f))/\n-(iAt [I (k:Int),I (v:Int),.slice R F S] 0).toNat<n-(iAt [I (i:Int),I (v:Int),.slice R F S] 0).toNat)):=by
   refine Z8 (NQ.mono L2.le iq) ⟨_,rfl,D9 (fun _=>?_) (fun e0=>?_)⟩
   ·refine ⟨a,e,oo,oo,_,_,_,cl (B0 C L2.le) 4 _ rfl,?_⟩
    refine (L2.congr (f':=tg (p++[(q,(tg f i).2)])) fun l hl=>(Xe oo).symm).pushG Aa A88 rfl (y:=(⟨d,w.B,w.n,w.c⟩:TRm)) (by rfl) ?_ dc oo fun A3 c3 h3 L3=>?_
    ·rw [show F=F+0 from rfl,Xd hq]
     exact ⟨iq,hw.2.1,hw.2.2.mono C⟩
    ·refine ⟨⟨k,F+1,_,_,_,hk,oo,rfl,L3.weak C,by rw [aP,hq];rfl,fun t V=>?_,fun g=>?_⟩,by simp only [R9];omega⟩
     ·rcases List.mem_append.1 V with D|D
      ·exact oq t D
      ·obtain rfl:t=(q,(tg f i).2):=by simpa using D
       exact ⟨mi.1,mi.2.1,sq.mono kn⟩
     ·rw [Sb]
      show psm g p+(q*g (tg f i).2+0)+_=_
      have:=eq g;have:=Q g
      grind
   ·have q0:q=0:=by
     have:q.num.sign=0:=e0
     simpa [Int.sign_eq_zero_iff_zero] using this
    refine ⟨⟨k,F,p,_,_,hk,oo,rfl,L2.weak C,hq,oq,fun g=>?_⟩,by simp only [R9];omega⟩
    have:=eq g;have:=Q g
    rw [q0] at this
    grind
  refine C0 (fun ai=>?_) (fun ah=>W)
  have ad:k<n:=oo
  obtain ⟨a2,w2,e2,N,aa⟩:=r1.rp ad
  have mk:=os _ (Jb (i:=k) oo)
  have X:=B0 C L2.le
  refine ⟨a,e,oo,oo,_,_,_,cl X 4 _ rfl,a2,e2,oo,oo,_,_,_,C2 X (aa 4 _ rfl),?_⟩
  have eb:=os.exb hv hE
  have xi:=eb _ (Jb (i:=i) oo)
  have xk:=eb _ (Jb (i:=k) oo)
  rw [hw.2.1,N.2.1]
  refine Rs (by rw [xi.1,xk.1]) xi.2 xk.2 (hw.2.2.mono X) (N.2.2.mono X) ⟨_,rfl,B7 _,D5 (fun eo=>?_) (fun _=>W)⟩
  have ee:(tg f i).2=(tg f k).2:=B6o (by rw [xi.1,xk.1]) eo
  have z2:=Y7 (aE a2 (k*5))
  have G:=fun j u q=>(show hx.cell? (aE (aE (aE a2 (k*5)) 0) j)=some u by rw [z2];exact C2 X (aa j u q))
  refine ⟨a2,e2,oo,oo,_,_,_,_,_,_,_,_,G 0 _ rfl,G 1 _ rfl,G 2 _ rfl,G 3 _ rfl,?_⟩
  refine L2.call Aa fun g4 O=>Ej (a:=d) (b:=w2.w) (m:=n*(m+1)+m) (NQ.mono O iq) (NQ.mono (B0 C O) N.1) (sq.mono oo) (mk.2.2.mono oo) hm fun w5 h5 l5 i5=>⟨l5,fun h6 l6 L6=>⟨_,_,_,_,_,_,_,_,rfl,l6,?_⟩⟩
  rw [wiS k oo]
  refine ⟨⟨k+1,w5,_,_,oo,oo,rfl,B0 C (B0 O l5),L6,i5,(sq.add mk.2.2).mono ?_,fun g=>?_⟩,by simp only [R9];omega⟩
  ·rw [show k+1-i=(k-i)+1 from oo,bU,bK];omega
  ·have:=Q g
   rw [Za (i:=k) oo] at this
   rw [<- this,ee]
   show _=q*g (tg f k).2+((tg f k).1*g (tg f k).2+_)
   grind
 ·obtain rfl:i=n:=oo
  refine hK _ _ _ p _ (B0 l1 L.le) (L.row Aa) hq hj L.cap oq fun g=>?_
  have:=eq g
  rw [<- ls,List.drop_length] at this
  rw [<- B37 g pm,<- this]
  show _=_+(0:Rat)
  grind
end
