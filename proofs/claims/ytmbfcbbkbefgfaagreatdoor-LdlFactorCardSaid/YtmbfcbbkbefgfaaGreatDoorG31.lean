/- A part. -/
import Derived.Test.YtmbfcbbkbefgfaaGreatDoorG29
import Derived.Test.YtmbfcbbkbefgfaaGreatDoorG30
open Go.Proofs.Tryz
set_option linter.all false
open _root_.Go.Addr renaming add->aF
open _root_.Go.Addr.mk renaming injEq->cY
open _root_.Go.Builtin renaming append_->bY
open Classical renaming byContradiction->aQ
open _root_.Go.Instr renaming storeAt->aZ,buildSlice->cO
open Int renaming toNat_natCast->aE,natCast_mul->aM,tmod->cK,sign_eq_zero_iff_zero->cX
open List renaming length_append->aD,replicate->aI,length_replicate->aK,not_mem_nil->bL,length_set->bN,getElem?_replicate->bU,mem_cons->bX,getD_eq_getElem?_getD->cC,getElem?_eq_getElem->cF,length_nil->cH,range->cU,getElem?_append_right->cV,getElem?_append_left->cW
open List.cons renaming injEq->cR
open Nat renaming le_refl->aC,mul_le_mul_right->aG,div_lt_of_lt_mul->aJ,mul_le_mul->aL,add_mul_mod_self_right->aO,mul_comm->aR,zero_add->aS,add_mul->aT,add_mul_div_right->aW,zero_mul->aY,mod_eq_of_lt->bC,div_eq_of_lt->bD,one_mul->bF,mod_lt->bJ,not_lt_zero->bM,add_comm->bV,lt_irrefl->bW,le_trans->bZ,add_assoc->cL
open Option.some renaming injEq->bI
open Rat renaming add_zero->aN,zero_mul->aX,sub_eq_add_neg->bG,intCast_mul->bH,mul_zero->bK,mul_inv_cancel->bO,mul_comm->cG,mul_nonneg->cI,div_def->cJ,divInt->cM,divInt_eq_div->cN,one_mul->cP,intCast_add->cQ
open _root_.Go.Value renaming agg->cZ
open _root_.Go renaming Addr->aP,Value->cT
open _root_.Go.Proofs.YtmbfcbbkbefgfaaGreatDoor renaming Heap->aH,RowV->aU,FCall->aV,OwnSl->bB,RowsV->cD
namespace Go.Proofs.YtmbfcbbkbefgfaaGreatDoor
set_option maxRecDepth 20000
open Go
def Sep.storeRaw{P:Program}{t:TypeId}{m:Nat}(one:P.cellsOf t=m/\(P.info? t).isSome=true){v:cT}{vs:List cT}(hv:v.cells=vs.toArray)(hl:vs.length=m)(h1:∀ x∈vs,A5c x=true){h g o:aH}(s:Sep h g o){b:Nat}{arr:List cT}{e:TypeId}(hb:o b=some (.cells arr.toArray e)){off:Nat}(hoff:off+m<=arr.length){K:Unit->aH->Prop}
 (x:∀ h' o',o'=o.put b (.cells (L4 arr off vs).toArray e)->Sep h' g o'->K () h'):wpH P (aZ t (.pointer (some ⟨b,off,none⟩)) v) K h:=by
 obtain ⟨f,c⟩:=Option.isSome_iff_exists.1 one.2
 have i:f.size=m:=by simpa [Program.cellsOf,c] using one.1
 have a:(h.without b).put b (.cells arr.toArray e)=h:=N2 (s.own b _ hb)
 unfold aZ
 simp only [C8,Instr.sureAddr,H1,storeVar,M0 c,i,hv,List.size_toArray,hl,ne_eq,not_true_eq_false,if_false]
 rw [<- a]
 refine J8 vs off 0 _ (by omega) h1 ?_
 rw [Nat.add_zero]
 have d:(h.without b).put b (.cells (L4 arr off vs).toArray e)=h.put b (.cells (L4 arr off vs).toArray e):=by
  rw [<- a,Ji,a]
 rw [d]
 exact x _ _ rfl (s.upd hb _)
def B2p:prog.cellsOf F9=1/\(prog.info? F9).isSome=true:=⟨by kernel_rfl,by kernel_rfl⟩
def B2o:prog.cellsOf T8=1/\(prog.info? T8).isSome=true:=⟨by kernel_rfl,by kernel_rfl⟩
def QB(g o:aH)(b n:Nat)(f:Nat->Rat):Prop:=∃ xs:List QV,RowX o b xs/\xs.length=n/\Row RQr g xs n f
def onT(T:Tb)(x:Nat):Prop:=x=T.bt\/x=T.bE\/x=T.bS
section
variable {g o:aH} {b n:Nat} {f:Nat->Rat}
def QB.ko(q:QB g o b n f){g' o':aH}(l:g.le g')(e:o' b=o b):QB g' o' b n f:=by
 obtain ⟨a,r,d,i⟩:=q
 exact ⟨a,r.keep fun x c=>by rw [e];exact c,d,i.mono I8 l⟩
def QB.congr(q:QB g o b n f){f':Nat->Rat}(e:∀ i,i<n->f i=f' i):QB g o b n f':=by
 obtain ⟨a,r,c,d⟩:=q
 exact ⟨a,r,c,d.congr e⟩
def QB.at(q:QB g o b n f){i:Nat}(hi:i<n):∃ w:QV,RQ g w (f i)/\o.cell? (aF (aF ⟨b,0,none⟩ (i*4)) 0)=some (.bool w.s)/\o.cell? (aF (aF ⟨b,0,none⟩ (i*4)) 1)=some (.slice w.A w.n w.c)/\o.cell? (aF (aF ⟨b,0,none⟩ (i*4)) 2)=some (.bool w.s2)/\o.cell? (aF (aF ⟨b,0,none⟩ (i*4)) 3)=some (.slice w.A2 w.n2 w.c2):=by
 obtain ⟨d,r,u,t⟩:=q
 obtain ⟨w,e,p⟩:=t i hi
 have a:i<d.length:=by omega
 have cell:∀ k v,(enc d[i])[k]? = some v->o.cell? (aF (aF ⟨b,0,none⟩ (i*4)) k)=some v:=by
  intro k v m
  rw [E6,E6,aS]
  exact r.rowB.cell (i:=i) a (j:=k) m
 rw [cF a] at e
 have l:=Option.some.inj e
 rw [l] at cell
 exact ⟨w,p,cell 0 _ rfl,cell 1 _ rfl,cell 2 _ rfl,cell 3 _ rfl⟩
def QB.rowV(q:QB g o b n f){h:aH}(s:Sep h g o):aU RQr h (some ⟨b,0,none⟩) n f:=by
 obtain ⟨a,r,c,d⟩:=q
 exact ⟨a,r.rowB.slF s.ole,c,d.mono I8 s.le⟩
def QB.store(q:QB g o b n f){h:aH}(s:Sep h g o){i:Nat}(hi:i<n){w:QV}{z:Rat}(hw:RQ g w z){K:Unit->aH->Prop}
 (k:∀ h' o',Sep h' g o'->QB g o' b n (fun a=>if a=i then z else f a)->(∀ y,y≠b->o' y=o y)->K () h'):wpH prog (aZ G2 (.pointer (some (aF ⟨b,0,none⟩ (i*4)))) w.v) K h:=by
 obtain ⟨j,r,p,t⟩:=q
 have c:i<j.length:=by omega
 refine Ag Nf (y:=w) rfl s r (i:=i) c ?_
 intro h' o' u d m l
 exact k h' o' m ⟨_,l,by rw [bN];exact p,Row.upd t c hw⟩ (fun y e=>by rw [d,B9 _ _ e])
end
structure El (h g o:aH) (be:Nat) (T:Tb) (M:Nat->Nat->Int) (S:Nat->Rat) (n k:Nat) (w:IV) (z:Int) (L D:cT):Prop where
 t:Tab h g o T M S
 rows:T.rows=n
 cols:T.cols=n
 hd:∃ e,o be=some (.cells (List.toArray [I (n:Int),I (k:Int),.pointer (some ⟨T.bt,0,none⟩),.bool w.s,.slice w.A w.n w.c,L,D]) e)
 off:¬ onT T be
 last:ZIr g w z
section
variable {h g o:aH} {be:Nat} {T:Tb} {M:Nat->Nat->Int} {S:Nat->Rat} {n k:Nat} {w:IV} {z:Int} {L D:cT} {K:VP} {m:Nat}
def El.cell(X:El h g o be T M S n k w z L D){i:Nat}{v:cT}(hv:[I (n:Int),I (k:Int),.pointer (some ⟨T.bt,0,none⟩),.bool w.s,.slice w.A w.n w.c,L,D][i]? = some v):h.cell? ⟨be,i,none⟩=some v:=by
 obtain ⟨e,a⟩:=X.hd
 refine X.t.sep.cell ?_
 unfold Heap.cell?
 simp only [a]
 simpa using hv
def El.c0(X:El h g o be T M S n k w z L D):h.cell? (aF ⟨be,0,none⟩ 0)=some (I (n:Int)):=by rw [E6];exact X.cell rfl
def El.c1(X:El h g o be T M S n k w z L D):h.cell? (aF ⟨be,0,none⟩ 1)=some (I (k:Int)):=by rw [E6];exact X.cell rfl
def El.c2(X:El h g o be T M S n k w z L D):h.cell? (aF ⟨be,0,none⟩ 2)=some (.pointer (some ⟨T.bt,0,none⟩)):=by rw [E6];exact X.cell rfl
def El.c3(X:El h g o be T M S n k w z L D):h.cell? (aF (aF ⟨be,0,none⟩ 3) 0)=some (.bool w.s):=by rw [E6,E6];exact X.cell rfl
def El.c4(X:El h g o be T M S n k w z L D):h.cell? (aF (aF ⟨be,0,none⟩ 3) 1)=some (.slice w.A w.n w.c):=by rw [E6,E6];exact X.cell rfl
def El.c5(X:El h g o be T M S n k w z L D):h.cell? (aF ⟨be,0,none⟩ 5)=some L:=by rw [E6];exact X.cell rfl
def El.c6(X:El h g o be T M S n k w z L D):h.cell? (aF ⟨be,0,none⟩ 6)=some D:=by rw [E6];exact X.cell rfl
def El.next(X:El h g o be T M S n k w z L D){h' g':aH}(s:Sep h' g' o)(l:g.le g'):El h' g' o be T M S n k w z L D:=⟨X.t.next s l,X.rows,X.cols,X.hd,X.off,Fz _ _ _ _ l X.last⟩
def Tab.away(t:Tab h g o T M S){h' o':aH}(s:Sep h' g o'){b:Nat}(hb:¬ onT T b)(ko:∀ y,y≠b->o' y=o y):Tab h' g o' T M S:=t.keep s (B5 _) (fun k x e c=>by rw [ko k (fun a=>hb (a▸c))];exact e)
def El.away(X:El h g o be T M S n k w z L D){h' o':aH}(s:Sep h' g o'){b:Nat}(hb:¬ onT T b)(hbe:be≠b)(ko:∀ y,y≠b->o' y=o y):El h' g o' be T M S n k w z L D:=by
 obtain ⟨e,a⟩:=X.hd
 exact ⟨X.t.away s hb ko,X.rows,X.cols,⟨e,by rw [ko _ hbe];exact a⟩,X.off,X.last⟩
def El.set(X:El h g o be T M S n k w z L D){t:TypeId}{q off:Nat}{v:cT}{vs:List cT}(one:prog.cellsOf t=q/\(prog.info? t).isSome=true)(hv:v.cells=vs.toArray)(hl:vs.length=q)(h1:∀ x∈vs,A5c x=true)(hoff:off+q<=7){n' k':Nat}{w':IV}{z':Int}{L' D':cT}(hn:n'=n)(hw:ZIr g w' z')
 (hs:L4 [I (n:Int),I (k:Int),.pointer (some ⟨T.bt,0,none⟩),.bool w.s,.slice w.A w.n w.c,L,D] off vs=[I (n':Int),I (k':Int),.pointer (some ⟨T.bt,0,none⟩),.bool w'.s,.slice w'.A w'.n w'.c,L',D'])
 {K:Unit->aH->Prop} (x:∀ h' o',El h' g o' be T M S n' k' w' z' L' D'->(∀ y,y≠be->o' y=o y)->K () h'):wpH prog (aZ t (.pointer (some (aF ⟨be,0,none⟩ off))) v) K h:=by
 obtain ⟨e,b⟩:=X.hd
 rw [E6,aS]
 refine X.t.sep.storeRaw one hv hl h1 b hoff ?_
 intro h' o' a d
 have ko:∀ y,y≠be->o' y=o y:=fun y f=>by rw [a,B9 _ _ f]
 subst hn
 exact x h' o' ⟨X.t.away d X.off ko,X.rows,X.cols,⟨e,by rw [a,C2,hs]⟩,X.off,hw⟩ ko
def B4k(X:El h g o be T M S n k w z L D)(gl:Gl g){i j:Nat}(hi:i<n)(hj:j<n)(bm:ZB m (M i j))(bz:ZB m z)(bs:Sz m (S i))(hd:Sz m (cM (M i j) z))(hm1:1<=m)(hm:m<=6400000000)
 (hK:∀ w' h' g',g.le g'->Sep h' g' o->h.le h'->RQ g' w' (cM (M i j) z/S i)->K w'.v h'):aV prog B08 #[.pointer (some ⟨be,0,none⟩),I (i:Int),I (j:Int)] h K:=by
 have a:i<T.rows:=by rw [X.rows];exact hi
 have f:j<T.cols:=by rw [X.cols];exact hj
 refine C4v _ _ _ ?_
 unfold EAt
 obtain ⟨N,is,q,u,F,B⟩:=X.t.sat a
 obtain ⟨J,y,l,s⟩:=X.t.at a f
 refine ⟨_,rfl,_,X.c2,_,rfl,_,_,_,_,X.c3,X.c4,_,rfl,_,X.c2,_,rfl,_,_,_,X.t.c2,_,rfl,by omega,by omega,_,_,_,_,_,_,_,_,q,u,F,B,?_⟩
 refine O4 X.t a ⟨_,_,_,rfl,B5 _,_,rfl,by omega,by omega,_,_,_,_,l,s,?_⟩
 refine X.t.sep.call (T0 gl.tz y X.last bm bz hm ?_)
 intro O G c p H b
 refine ⟨_,_,_,_,_,_,_,_,rfl,X.t.sep.le_le b c,?_⟩
 refine b.call (Jr (gl.mono c).tz p (I8 _ _ _ _ c is) hd bs hm1 hm ?_)
 intro C r e A E d
 exact ⟨_,_,_,_,_,_,_,_,rfl,b.le_le d e,hK C E r (B0 c e) d (B0 (X.t.sep.le_le b c) (b.le_le d e)) A⟩
def A3k(X:El h g o be T M S n k w z L D)(hk:k<n)(hn:n<=10000)
 (hK1:∀ i:Nat,k<i->i<n->M i k≠0->K (.tuple #[I (i:Int),.bool true]) h) (hK0:(∀ j,k<j->j<n->M j k=0)->K (.tuple #[I 0,.bool false]) h):aV prog Kb #[.pointer (some ⟨be,0,none⟩)] h K:=by
 refine A7e _ ?_
 unfold A98
 refine ⟨_,rfl,_,X.c1,?_⟩
 rw [wiS k (by omega)]
 refine ⟨fun L' p=>∃ i:Nat,k<i/\i<=n/\L'=[I (i:Int)]/\p=h/\∀ j,k<j->j<i->M j k=0,fun L' _=>n-(iAt L' 0).toNat,⟨k+1,by omega,by omega,rfl,rfl,fun j _ _=>by omega⟩,?_⟩
 rintro y p ⟨i,l,A,u,rfl,q⟩
 obtain rfl:=sI1 u
 refine ⟨_,rfl,_,X.c0,B8 (fun r=>?_) (fun E=>hK0 fun j a b=>q j a (by omega))⟩
 have f:i<n:=by omega
 have d:i<T.rows:=by rw [X.rows];exact f
 have m:k<T.cols:=by rw [X.cols];exact hk
 refine ⟨_,rfl,_,X.c2,_,rfl,_,X.c1,?_⟩
 obtain ⟨F,B,s,C⟩:=X.t.at d m
 refine O4 X.t d ⟨_,_,_,rfl,B5 _,_,rfl,by omega,by omega,_,_,_,_,s,C,?_⟩
 refine F5 (B.mono X.t.sep.le) ⟨_,rfl,B5 _,Br.not (B8 (fun e=>?_) (fun e=>hK1 i l f e))⟩
 rw [wiS i (by omega)]
 refine ⟨⟨i+1,by omega,by omega,rfl,rfl,fun j a b=>?_⟩,by simp only [U9];omega⟩
 by_cases c:j=i
 ·rw [c];exact e
 ·exact q j a (by omega)
def Rz(X:El h g o be T M S n k w z L D)(hk:k<n)(hn:n<=10000)(hz:z≠0)(hM:∀ a b,k<=a->a<n->b<n->ZB m (M a b))(bz:ZB m z)(hm1:1<=m)(hm:2*m+1<=100000000)
 (hK:∀ h' g' o' w',g.le g'->El h' g' o' be T (fun a b=>if k<a then (M k k*M a b-M a k*M k b).tdiv z else M a b) S n (k+1) w' (M k k) L D->(∀ b,¬ onT T b->b≠be->o' b=o b)->K (.tuple #[]) h'):aV prog Cp #[.pointer (some ⟨be,0,none⟩)] h K:=by
 refine A7f _ ?_
 unfold A99
 refine ⟨_,rfl,_,X.c1,?_⟩
 rw [wiS k (by omega)]
 refine ⟨fun L' Q=>∃ (i:Nat) (r J:aH),k<i/\i<=n/\L'=[I (i:Int)]/\g.le r/\El Q r J be T (fun a b=>if k<a/\a<i then (M k k*M a b-M a k*M k b).tdiv z else M a b) S n k w z L D/\(∀ b,¬ onT T b->b≠be->J b=o b),fun L' _=>n-(iAt L' 0).toNat,⟨k+1,g,o,by omega,by omega,rfl,B5 _,⟨X.t.congr (fun a b _ _=>by rw [iN (by omega)]) (fun _ _=>rfl),X.rows,X.cols,X.hd,X.off,X.last⟩,fun _ _ _=>rfl⟩,?_⟩
 rintro y Q ⟨i,r,J,ac,aa,eL,N,X1,ko⟩
 obtain rfl:=sI1 eL
 refine ⟨_,rfl,_,X1.c0,B8 (fun ab=>?_) (fun ad=>?_)⟩
 ·have B:i<n:=by omega
  refine ⟨_,rfl,_,X1.c2,_,rfl,_,_,_,_,X1.c3,X1.c4,?_⟩
  have er:=X.rows
  have ec:=X.cols
  refine Yy (m:=m) X1.t (i:=i) (p:=k) (c:=k) (by omega) (by omega) (by omega) (by omega) X1.last hz hm1 hm (fun b f=>by rw [iN (by omega)];exact hM i b (by omega) B (by omega)) (fun b f=>by rw [iN (by omega)];exact hM k b (aC _) hk (by omega)) bz ?_
  intro h2 g2 R O t2 ko2
  rw [wiS i (by omega)]
  have G:be≠T.bE:=fun e=>X.off (.inr (.inl e))
  obtain ⟨e,Z⟩:=X1.hd
  refine ⟨rfl,⟨i+1,g2,R,by omega,by omega,rfl,B0 N O,⟨t2.congr (fun a b _ _=>?_) (fun _ _=>rfl),er,ec,⟨e,by rw [ko2 _ G];exact Z⟩,X.off,Fz _ _ _ _ O X1.last⟩,fun b f d=>by rw [ko2 b (fun e=>f (.inr (.inl e)))];exact ko b f d⟩,by simp only [U9];omega⟩
  by_cases c:a=i
  ·have V:¬ (k<k/\k<i):=by omega
   have q2:¬ (k<i/\i<i):=by omega
   simp only [iN V,iN q2]
   rw [iP c,iP (show k<a/\a<i+1 by omega),c]
  ·rw [iN c]
   by_cases c2:k<a/\a<i
   ·rw [iP c2,iP (by omega)]
   ·rw [iN c2,iN (show ¬ (k<a/\a<i+1) by omega)]
 ·have u:i=n:=by omega
  subst u
  have q:k<T.rows:=by rw [X.rows];exact hk
  have E:k<T.cols:=by rw [X.cols];exact hk
  refine ⟨_,rfl,_,X1.c2,?_⟩
  obtain ⟨j,C,W,e1⟩:=X1.t.at q E
  rw [iN (by omega)] at C
  refine O4 X1.t q ⟨_,_,_,rfl,_,rfl,by omega,by omega,_,_,_,_,W,e1,?_⟩
  refine ⟨_,rfl,?_⟩
  refine X1.set (n':=i) (k':=k) (w':=j) (z':=M k k) (L':=L) (D':=D) (vs:=[.bool j.s,.slice j.A j.n j.c]) Ua rfl rfl (by intro x l;simp only [bX,bL,or_false] at l;rcases l with rfl|rfl<;>rfl) (by omega) rfl C rfl ?_
  intro h3 o3 X3 F
  refine ⟨_,rfl,_,X3.c1,_,rfl,?_⟩
  rw [wiS k (by omega)]
  refine X3.set (n':=i) (k':=k+1) (w':=j) (z':=M k k) (L':=L) (D':=D) (vs:=[I ((k+1:Nat):Int)]) B2p rfl rfl (by intro x l;simp only [bX,bL,or_false] at l;subst l;rfl) (by omega) rfl C rfl ?_
  intro h4 o4 X4 H
  refine hK h4 r o4 j N ⟨X4.t.congr (fun a b ha f=>?_) (fun _ _=>rfl),X4.rows,X4.cols,X4.hd,X4.off,X4.last⟩ (fun b f d=>by rw [H b d,F b d];exact ko b f d)
  have:a<i:=by rw [<- X.rows];exact ha
  by_cases c:k<a
  ·rw [iP ⟨c,this⟩,iP c]
  ·rw [iN (fun x=>c x.1),iN c]
end
def C5x{l s r:Rat}(hl:l≠0)(hs:s≠0):l*(s*r)/l/s=r:=by
 have a:=bO _ hl
 have b:=bO _ hs
 rw [cJ,cJ]
 grind
section
variable {E:Nat->Rat} {n k:Nat}
def B3x(sy:A5d n (mtx E n))(hk:k<=n)(ok:∀ m,m<k->Pn (mtx E n) n m):LdR n k (mtx E n) (elE E n n k):=LdR.run sy k hk ok
def B9n(hk:k<n):Sj n k (elP E n n k)=Fv n k (elE E n n k):=(A8i E (Nat.le_of_lt hk)).row hk
def A8h(sy:A5d n (mtx E n))(hk:k<n)(ok:∀ m,m<=k->Pn (mtx E n) n m)(e:ldA (mtx E n) k k k=0):elP E n n (k+1)=elP E n n k:=by
 have r:=B9n (E:=E) hk
 rw [(B3x sy (by omega) fun m a=>ok m (by omega)).none hk e (ok k (aC _))] at r
 show Dz n k (elP E n n k)=_
 unfold Dz
 rw [r,iN (bW n)]
def A8g(sy:A5d n (mtx E n))(hk:k<n)(ok:∀ m,m<k->Pn (mtx E n) n m)(e:ldA (mtx E n) k k k≠0):
 (∀ i j,k<i->i<n->(elP E n n (k+1)).M i j=((elP E n n k).M k k*(elP E n n k).M i j-(elP E n n k).M i k*(elP E n n k).M k j).tdiv (elP E n n k).last)/\(elP E n n (k+1)).last=(elP E n n k).M k k/\∀ i,k<i->(elP E n n (k+1)).S i=(elP E n n k).S i:=by
 have R:=B3x sy (by omega) ok
 have r:=B9n (E:=E) hk
 rw [R.row hk e] at r
 have f:=R.len
 rw [<- C3u E (Nat.le_of_lt hk)] at f
 have b:elP E n n (k+1)=Dz n k (elP E n n k):=rfl
 unfold Dz at b
 rw [r,iP hk] at b
 generalize elP E n n k=s at *
 have d:=Ah s.cs.length k
 have c:∀ i,k<i->xch s.cs.length k i=i:=fun i a=>by unfold xch;rw [iN (by omega),iN (by omega)]
 rw [b]
 refine ⟨fun i j a _=>?_,rfl,fun i a=>?_⟩
 ·show clr (fun i=>s.M (xch s.cs.length k i)) s.cs.length k s.last i j=_
  unfold clr
  rw [iN (by omega)]
  show (s.M (xch s.cs.length k s.cs.length) k*s.M (xch s.cs.length k i) j-s.M (xch s.cs.length k i) k*s.M (xch s.cs.length k s.cs.length) j).tdiv s.last=_
  rw [d,c i a]
 ·show s.S (xch s.cs.length k i)=_
  rw [c i a]
def C7r(sy:A5d n (mtx E n)):∀ k,k<=n->(∀ m,m<k->Pn (mtx E n) n m)->∀ i,k<=i->i<n->(elP E n n k).S i=Tz E n i:=by
 intro k
 induction k with
 | zero=>intro _ _ i _ _;rfl
 | succ k ih=>
  intro c ok i f b
  have a:=ih (by omega) (fun m d=>ok m (by omega)) i (by omega) b
  by_cases e:ldA (mtx E n) k k k=0
  ·rw [A8h sy c (fun m d=>ok m (by omega)) e];exact a
  ·rw [(A8g sy c (fun m d=>ok m (by omega)) e).2.2 i (by omega)];exact a
structure LdF (E:Nat->Rat) (n k Q:Nat):Prop where
 val:∀ i j,k<=i->i<n->j<n->((elP E n n k).M i j:Rat)=(elP E n n k).last*(Tz E n i*ldA (mtx E n) k i j)
 last:(elP E n n k).last≠0
 zM:∀ a b,a<n->b<n->ZB Q ((elP E n n k).M a b)
 zl:ZB Q (elP E n n k).last
 zS:∀ a,a<n->Sz Q (Tz E n a)
 zA:∀ i j,k<=i->i<n->j<n->Sz Q (ldA (mtx E n) k i j)
def ldF{m Q:Nat}(hs:∀ i,i<n*n->Sz m (E i))(hQ1:3^n*bnd n m+bnd n m<=Q)(sy:A5d n (mtx E n))(hk:k<=n)(ok:∀ m,m<k->Pn (mtx E n) n m):LdF E n k Q:=by
 have rel:=A8i E (rows:=n) (cols:=n) hk
 have R:=B3x sy hk ok
 have p:=R.len
 have z:=B3w (E:=E) (rows:=n) (cols:=n) (c:=k) hs hk
 have g:1<=bnd n m:=by unfold bnd;omega
 have r:3^(elP E n n k).cs.length*bnd n m<=3^n*bnd n m:=aG _ (Nat.pow_le_pow_right (by decide) z.len)
 have t:=C7r sy k hk ok
 have val:∀ i j,k<=i->i<n->j<n->((elP E n n k).M i j:Rat)=(elP E n n k).last*(Tz E n i*ldA (mtx E n) k i j):=fun i j o d f=>by
  rw [rel.val i j d f,iN (by omega),R.low i j o d f,t i o d]
 have q:∀ a,a<n->Sz (bnd n m) (Tz E n a):=fun a l=>A07 fun j f=>hs _ (O2 l f)
 refine ⟨val,rel.last,fun a b l s=>(z.M a b l s).mono (by omega),z.last.mono (by omega),fun a l=>(q a l).mono (by omega),fun i j o d f=>?_⟩
 have e:ldA (mtx E n) k i j=cM ((elP E n n k).M i j) (elP E n n k).last/Tz E n i:=by
  have u:=Nd E n i
  rw [cN,val i j o d f,C5x (J6 rel.last) (by grind)]
 rw [e]
 exact ((U3 rel.last (z.M i j d f) z.last).div (q i d) g).mono (by omega)
end
def A2h(A:Nat->Nat->Rat)(n k:Nat):Nat->Rat:=fun t=>if t%n<k then ldL A (t/n) (t%n) else 0
def A2i(A:Nat->Nat->Rat)(k:Nat):Nat->Rat:=fun j=>if j<k then ldD A j else 0
structure Ld (h g o:aH) (be bl bd:Nat) (T:Tb) (E:Nat->Rat) (n k:Nat) (M:Nat->Nat->Int) (w:IV) (Lf Df:Nat->Rat):Prop where
 e:El h g o be T M (Tz E n) n k w (elP E n n k).last (.slice (some ⟨bl,0,none⟩) (n*n) (n*n)) (.slice (some ⟨bd,0,none⟩) n n)
 m:∀ i j,k<=i->i<n->j<n->M i j=(elP E n n k).M i j
 l:QB g o bl (n*n) Lf
 d:QB g o bd n Df
 tl:¬ onT T bl
 td:¬ onT T bd
 el:be≠bl
 ed:be≠bd
 ld:bl≠bd
section
variable {h g o:aH} {be bl bd:Nat} {T:Tb} {E:Nat->Rat} {n k:Nat} {M:Nat->Nat->Int} {w:IV} {Lf Df:Nat->Rat} {K:VP} {Q:Nat}
def Ld.next(X:Ld h g o be bl bd T E n k M w Lf Df){h' g':aH}(s:Sep h' g' o)(l:g.le g'):Ld h' g' o be bl bd T E n k M w Lf Df:=⟨X.e.next s l,X.m,X.l.ko l rfl,X.d.ko l rfl,X.tl,X.td,X.el,X.ed,X.ld⟩
def Ld.congr(X:Ld h g o be bl bd T E n k M w Lf Df){Lf' Df':Nat->Rat}(e1:∀ i,i<n*n->Lf i=Lf' i)(e2:∀ i,i<n->Df i=Df' i):Ld h g o be bl bd T E n k M w Lf' Df':=⟨X.e,X.m,X.l.congr e1,X.d.congr e2,X.tl,X.td,X.el,X.ed,X.ld⟩
def Ld.storeL(X:Ld h g o be bl bd T E n k M w Lf Df){i:Nat}(hi:i<n*n){v:QV}{z:Rat}(hv:RQ g v z){K:Unit->aH->Prop}
 (x:∀ h' o',Ld h' g o' be bl bd T E n k M w (fun a=>if a=i then z else Lf a) Df->K () h'):wpH prog (aZ G2 (.pointer (some (aF ⟨bl,0,none⟩ (i*4)))) v.v) K h:=by
 refine X.l.store X.e.t.sep hi hv ?_
 intro h' o' b q ko
 exact x h' o' ⟨X.e.away b X.tl X.el ko,X.m,q,X.d.ko (B5 _) (ko _ X.ld.symm),X.tl,X.td,X.el,X.ed,X.ld⟩
def Ld.storeD(X:Ld h g o be bl bd T E n k M w Lf Df){i:Nat}(hi:i<n){v:QV}{z:Rat}(hv:RQ g v z){K:Unit->aH->Prop}
 (x:∀ h' o',Ld h' g o' be bl bd T E n k M w Lf (fun a=>if a=i then z else Df a)->K () h'):wpH prog (aZ G2 (.pointer (some (aF ⟨bd,0,none⟩ (i*4)))) v.v) K h:=by
 refine X.d.store X.e.t.sep hi hv ?_
 intro h' o' b q ko
 exact x h' o' ⟨X.e.away b X.td X.ed ko,X.m,X.l.ko (B5 _) (ko _ X.ld),q,X.tl,X.td,X.el,X.ed,X.ld⟩
def Ld.at(X:Ld h g o be bl bd T E n k M w Lf Df)(gl:Gl g)(F:LdF E n k Q){i j:Nat}(hk:k<=i)(hi:i<n)(hj:j<n)(hQ1:1<=Q)(hQ:Q<=6400000000)
 (hK:∀ w' h' g',g.le g'->Sep h' g' o->h.le h'->RQ g' w' (ldA (mtx E n) k i j)->K w'.v h'):aV prog B08 #[.pointer (some ⟨be,0,none⟩),I (i:Int),I (j:Int)] h K:=by
 have a:=X.m i j hk hi hj
 have f:=Nd E n i
 refine B4k (m:=Q) X.e gl hi hj (by rw [a];exact F.zM i j hi hj) F.zl (F.zS i hi) (by rw [a];exact U3 F.last (F.zM i j hi hj) F.zl) hQ1 hQ ?_
 intro w' h' g' d s c b
 refine hK w' h' g' d s c ?_
 rw [a,cN,F.val i j hk hi hj,C5x (J6 F.last) (by grind)] at b
 exact b
def Ld.partner(X:Ld h g o be bl bd T E n k M w Lf Df)(F:LdF E n k Q)(hk:k<n)(hn:n<=10000):aV prog Kb #[.pointer (some ⟨be,0,none⟩)] h (fun r h'=>h'=h/\∃ (a:Nat) (b:Bool),r= .tuple #[I (a:Int),.bool b]/\(b=true->k<a/\a<n/\ldA (mtx E n) k a k≠0)/\(b=false->∀ j,k<j->j<n->ldA (mtx E n) k j k=0)):=by
 have key:∀ i,k<=i->i<n->(M i k=0↔ldA (mtx E n) k i k=0):=fun i d t=>by
  have c:=F.val i k d t hk
  have q:=J6 F.last
  have y:Tz E n i≠0:=by have:=Nd E n i;grind
  rw [X.m i k d t hk]
  constructor
  ·intro e
   rw [e] at c
   have u:((0:Int):Rat)=0:=rfl
   rw [u] at c
   rcases Rat.mul_eq_zero.1 c.symm with p|p
   ·exact absurd p q
   ·rcases Rat.mul_eq_zero.1 p with l|l
    ·exact absurd l y
    ·exact l
  ·intro e
   rw [e,bK,bK] at c
   exact_mod_cast c
 refine A3k X.e hk hn (fun i s f q=>⟨rfl,i,true,rfl,fun _=>⟨s,f,fun e=>q ((key i (by omega) f).2 e)⟩,fun e=>by cases e⟩) (fun z=>⟨rfl,0,false,rfl,(fun e=>by cases e),fun _ j s f=>(key j (by omega) f).1 (z j s f)⟩)
end
def Yh{q:Rat}:q.num.sign<0↔q<0:=by
 have d:q.num.sign<0↔q.num<0:=by
  rcases Int.lt_trichotomy q.num 0 with c|c|c
  ·rw [Int.sign_eq_neg_one_of_neg c];exact ⟨fun _=>c,fun _=>by decide⟩
  ·rw [c];exact ⟨fun h=>by simp at h,fun h=>by omega⟩
  ·rw [Int.sign_eq_one_of_pos c];exact ⟨fun h=>by omega,fun h=>by omega⟩
 have a:=Rat.num_nonneg (q:=q)
 rw [d]
 constructor
 ·intro h
  refine aQ fun b=>?_
  have:0<=q:=by grind
  have:=a.2 this
  omega
 ·intro h
  refine aQ fun b=>?_
  have:=a.1 (by omega)
  grind
def Ot{n i j:Nat}(hj:j<n):(i*n+j)/n=i/\(i*n+j)%n=j:=by
 refine ⟨?_,?_⟩
 ·rw [aR,Nat.mul_add_div (by omega),bD hj,Nat.add_zero]
 ·rw [aR,Nat.mul_add_mod,bC hj]
def C1h(A:Nat->Nat->Rat)(n k i:Nat):Nat->Rat:=fun t=>if t%n=k/\t/n<i then ldL A (t/n) k else A2h A n k t
def A80(A:Nat->Nat->Rat){n k i:Nat}(h:i=n\/ldA A k k k=0/\k<i):∀ t,t<n*n->C1h A n k i t=A2h A n (k+1) t:=by
 intro t a
 unfold C1h A2h
 have d:t/n<n:=aJ a
 by_cases c:t%n=k
 ·rw [iP (show t%n<k+1 by omega),c]
  by_cases c2:t/n<i
  ·rw [iP ⟨rfl,c2⟩]
  ·rw [iN (fun x=>c2 x.2),iN (bW k)]
   rcases h with h|⟨b,e⟩
   ·omega
   ·unfold ldL
    rw [iN (by omega),iN (by omega),iP b]
 ·rw [iN (fun x=>c x.1)]
  by_cases c2:t%n<k
  ·rw [iP c2,iP (by omega)]
  ·rw [iN c2,iN (by omega)]
def B48(A:Nat->Nat->Rat)(k:Nat):(fun a=>if a=k then ldA A k k k else A2i A k a)=A2i A (k+1):=by
 funext a
 unfold A2i ldD
 by_cases c:a=k
 ·rw [iP c,iP (by omega),c]
 ·rw [iN c]
  by_cases c2:a<k
  ·rw [iP c2,iP (by omega)]
  ·rw [iN c2,iN (by omega)]
section
variable {h:aH} {A:Option aP} {E:Nat->Rat} {n cap m Q:Nat} {K:VP}
def Xm(gl:Gl h)(rq:aU RQr h A (n*n) E)(hcap:n*n<=cap)(hn1:1<=n)(hn:n<=64)(sy:A5d n (mtx E n))(hs:∀ i,i<n*n->Sz m (E i))(hQ1:3^n*bnd n m+bnd n m<=Q)(hQ:2*Q+1<=100000000)
 (hK1:(∀ k,k<n->Pn (mtx E n) n k)->∀ h' g' o' be bl bd T M w,h.le h'->h.le g'->Ld h' g' o' be bl bd T E n n M w (A2h (mtx E n) n n) (A2i (mtx E n) n)->K (.tuple #[.pointer (some ⟨be,0,none⟩),.bool true]) h')
 (hK0:∀ k,k<n->(∀ k',k'<k->Pn (mtx E n) n k')->¬ Pn (mtx E n) n k->∀ h' g' o' be bl bd T M w,h.le h'->h.le g'->Ld h' g' o' be bl bd T E n k M w (A2h (mtx E n) n k) (A2i (mtx E n) k)->K (.tuple #[.pointer (some ⟨be,0,none⟩),.bool false]) h'):aV prog Ip #[.slice A (n*n) cap,I (n:Int)] h K:=by
 have ah:n*n<=64*64:=aL hn hn
 have bp:1<=n*n:=Nat.mul_pos hn1 hn1
 have C:bnd n m<=Q:=by omega
 have bg:bnd n m=1+n*m+m:=rfl
 refine A2d _ _ _ _ ?_
 unfold Zw
 refine Dx _ _ _ _ ?_
 unfold Dl
 refine Fy (m:=m) gl rq hcap hn1 (by omega) hn1 (by omega) hs (by omega) ?_
 intro h1 g1 o1 T ao t1 er ec
 refine ⟨_,rfl,?_⟩
 refine t1.sep.call (Cv (by decide) (by decide) ?_)
 intro W A2 n2 c2 g2 l2 i2 h2 az
 have t2:=t1.next az l2
 refine ⟨_,_,_,_,rfl,Wa ?_⟩
 intro be u
 have fr:∀ {R gg V:aH} {k x b},Sep R gg V->V k=some x->R b=none->k≠b:=by
  rintro R gg V k x b s e C rfl
  rw [s.own k x e] at C;cases C
 obtain ⟨⟨y1,z1⟩,⟨y2,z2⟩,⟨y3,z3⟩⟩:=t2.own
 have p:∀ {R gg V:aH} {b},Tab R gg V T (A08 E n) (Tz E n)->R b=none->¬ onT T b:=by
  intro R gg V b t C g
  obtain ⟨⟨y1,z1⟩,⟨y2,z2⟩,⟨y3,z3⟩⟩:=t.own
  rcases g with rfl|rfl|rfl
  ·exact fr t.sep z1 C rfl
  ·exact fr t.sep z2 C rfl
  ·exact fr t.sep z3 C rfl
 have s3:=t2.sep.new u (.cells (cZ #[I (n:Int),I (0:Int),.pointer (some ⟨T.bt,0,none⟩),.bool W,.slice A2 n2 c2,.slice none 0 0,.slice none 0 0]).cells Fq)
 have X3:El _ g2 _ be T (A08 E n) (Tz E n) n 0 ⟨W,A2,n2,c2⟩ 1 (.slice none 0 0) (.slice none 0 0):=⟨t2.keep s3 (B5 _) (fun k x e _=>by rw [B9 _ _ (fr t2.sep e u)];exact e),er,ec,⟨Fq,C2 _ _ _⟩,p t2 u,i2⟩
 refine ⟨_,rfl,_,rfl,?_⟩
 clear t1
 have bm:h.le (h2.put be (.cells (cZ #[I (n:Int),I (0:Int),.pointer (some ⟨T.bt,0,none⟩),.bool W,.slice A2 n2 c2,.slice none 0 0,.slice none 0 0]).cells Fq)):=B0 ao (B0 l2 X3.t.sep.le)
 generalize (h2.put be (.cells (cZ #[I (n:Int),I (0:Int),.pointer (some ⟨T.bt,0,none⟩),.bool W,.slice A2 n2 c2,.slice none 0 0,.slice none 0 0]).cells Fq))=h3 at *
 generalize (o1.put be (.cells (cZ #[I (n:Int),I (0:Int),.pointer (some ⟨T.bt,0,none⟩),.bool W,.slice A2 n2 c2,.slice none 0 0,.slice none 0 0]).cells Fq))=o3 at *
 have a4:h.le g2:=B0 ao l2
 have au:B7 ((n:Int)*(n:Int))=((n*n:Nat):Int):=by rw [<- aM];exact K3 (by omega)
 rw [au]
 have B:∀ {R gg V M k w z L D},El R gg V be T M (Tz E n) n k w z L D->∃ x,V be=some x:=fun X=>by obtain ⟨e,he⟩:=X.hd;exact ⟨_,he⟩
 refine Q3 A9g (zx:=As) rfl (by omega) (by omega) (by omega) (by omega) ?_
 intro bl O
 simp only [aE]
 refine ⟨_,_,_,rfl,_,rfl,?_⟩
 have H:be≠bl:=by obtain ⟨x,g⟩:=B X3;exact fr X3.t.sep g O
 have X4:=X3.away (X3.t.sep.new O (.cells ((aI (n*n) As).flatMap enc).toArray G2)) (p X3.t O) H (fun y hy=>B9 _ _ hy)
 have q4:QB g2 (o3.put bl (.cells ((aI (n*n) As).flatMap enc).toArray G2)) bl (n*n) (fun _=>0):=⟨_,RowX.mk,aK,fun i hi=>⟨As,by rw [bU,iP hi],RQ.zero⟩⟩
 have tl:=p X3.t O
 refine X4.set (n':=n) (k':=0) (w':=⟨W,A2,n2,c2⟩) (z':=1) (L':=.slice (some ⟨bl,0,none⟩) (n*n) (n*n)) (D':=.slice none 0 0) (vs:=[.slice (some ⟨bl,0,none⟩) (n*n) (n*n)]) B2o rfl rfl (by intro x g;simp only [bX,bL,or_false] at g;subst g;rfl) (by omega) rfl X4.last rfl ?_
 intro h5 o5 X5 aj
 have q5:=q4.ko (B5 _) (aj _ H.symm)
 refine Q3 A9g (zx:=As) rfl (by omega) (by omega) (by omega) (by omega) ?_
 intro bd N
 simp only [aE]
 refine ⟨_,_,_,rfl,_,rfl,?_⟩
 have ai:be≠bd:=by obtain ⟨x,g⟩:=B X5;exact fr X5.t.sep g N
 have am:bl≠bd:=by obtain ⟨xs,⟨e,g⟩,_⟩:=q5;exact fr X5.t.sep g N
 have td:=p X5.t N
 have X6:=X5.away (X5.t.sep.new N (.cells ((aI n As).flatMap enc).toArray G2)) td ai (fun y hy=>B9 _ _ hy)
 have d6:QB g2 (o5.put bd (.cells ((aI n As).flatMap enc).toArray G2)) bd n (fun _=>0):=⟨_,RowX.mk,aK,fun i hi=>⟨As,by rw [bU,iP hi],RQ.zero⟩⟩
 have q6:=q5.ko (o':=o5.put bd (.cells ((aI n As).flatMap enc).toArray G2)) (B5 _) (B9 _ _ am)
 refine X6.set (n':=n) (k':=0) (w':=⟨W,A2,n2,c2⟩) (z':=1) (L':=.slice (some ⟨bl,0,none⟩) (n*n) (n*n)) (D':=.slice (some ⟨bd,0,none⟩) n n) (vs:=[.slice (some ⟨bd,0,none⟩) n n]) B2o rfl rfl (by intro x g;simp only [bX,bL,or_false] at g;subst g;rfl) (by omega) rfl X6.last rfl ?_
 intro h7 o7 X7 ad
 have X0:Ld h7 g2 o7 be bl bd T E n 0 (A08 E n) ⟨W,A2,n2,c2⟩ (A2h (mtx E n) n 0) (A2i (mtx E n) 0):=⟨X7,fun _ _ _ _ _=>rfl,(q6.ko (B5 _) (ad _ H.symm)).congr (fun i _=>by unfold A2h;rw [iN (by omega)]),(d6.ko (B5 _) (ad _ ai.symm)).congr (fun i _=>by unfold A2i;rw [iN (by omega)]),tl,td,H,ai,am⟩
 clear X7 X6 X5 X4 X3 q6 d6 q5 q4 ad aj
 have G:1<=Q:=by omega
 have ix:∀ {i j:Nat},i<n->j<n->B7 (B7 ((i:Int)*(n:Int))+(j:Int))=((i*n+j:Nat):Int):=fun {i j} hi hj=>by
  have:=O2 hi hj
  rw [<- aM,K3 (by omega)]
  exact K3 (n:=i*n+j) (by omega)
 have ac:∀ {i:Nat},i<n->B7 ((i:Int)+1)=((i+1:Nat):Int):=fun {i} hi=>by rw [C0]<;>omega
 refine ⟨fun L hq=>∃ (k:Nat) (g' o':aH) (M:Nat->Nat->Int) (w:IV),k<=n/\L=[.bool true,I (k:Int)]/\h.le g'/\(∀ k',k'<k->Pn (mtx E n) n k')/\Ld hq g' o' be bl bd T E n k M w (A2h (mtx E n) n k) (A2i (mtx E n) k),fun L _=>n-(iAt L 1).toNat,⟨0,g2,o7,_,_,by omega,rfl,a4,fun k' aa=>by omega,X0⟩,?_⟩
 clear X0
 rintro ba z5 hq ⟨k,g',o',M,w,hk,eL,lg,ok,X⟩
 simp only [cR,Value.bool.injEq,Value.int.injEq,true_and,and_true] at eL
 obtain ⟨rfl,rfl⟩:=eL
 refine B8 (fun ak=>?_) (fun bh=>by
  have:k=n:=by omega
  subst this
  exact hK1 ok hq g' o' be bl bd T M w (B0 lg X.e.t.sep.le) lg X)
 have f:k<n:=by omega
 have F:=ldF hs hQ1 sy hk ok
 refine X.at (gl.mono lg) F (aC _) f f G (by omega) ?_
 intro w1 h1 g1 l1 s1 bf i1
 refine ⟨_,_,_,_,_,_,_,_,rfl,?_⟩
 have X1:=X.next s1 l1
 have o:h.le g1:=B0 lg l1
 refine FCall.mono (X1.partner F f (by omega)) ?_
 rintro r J ⟨rfl,a,b,rfl,a5,a1⟩
 have aq:RQ J w1 (ldA (mtx E n) k k k):=I8 _ _ _ _ s1.le i1
 refine ⟨_,_,rfl,fun L g=>L=[.bool true]/\g=J/\Pn (mtx E n) n k,?_,?_⟩
 ·refine Uc aq ⟨_,rfl,B8 (fun an=>?_) (fun ar=>?_)⟩
  ·have ax:=Yh.1 an
   exact hK0 k f ok (fun x=>absurd x.1 (by grind)) J g1 o' be bl bd T M w (B0 o s1.le) o X1
  ·have ah:0<=ldA (mtx E n) k k k:=by
    have:¬ ldA (mtx E n) k k k<0:=fun c=>ar (Yh.2 c)
    grind
   refine Rm aq ⟨_,rfl,B8 (fun e0=>?_) (fun S=>⟨rfl,rfl,ah,fun e=>absurd e S⟩)⟩
   cases b with
   | true=>
    obtain ⟨b1,b2,b3⟩:=a5 rfl
    exact hK0 k f ok (fun x=>b3 (x.2 e0 a b1 b2)) J g1 o' be bl bd T M w (B0 o s1.le) o X1
   | false=>exact ⟨rfl,rfl,ah,fun _ j c1 c2=>a1 rfl j c1 c2⟩
 rintro p1 g ⟨eL,rfl,a8⟩
 simp only [cR,Value.bool.injEq,and_true] at eL
 subst eL
 have ab: ∀ k',k'<=k->Pn (mtx E n) n k':=fun k' aa=>by
  by_cases c:k'=k
  ·rw [c];exact a8
  ·exact ok k' (by omega)
 refine ⟨_,rfl,_,_,_,X1.e.c5,?_⟩
 refine s1.call (Tv (by omega) ?_)
 intro w2 g3 l3 i3 h4 s4
 refine ⟨_,_,_,_,_,_,_,_,rfl,s1.le_le s4 l3,_,rfl,?_⟩
 rw [ix f f]
 have X2:=X1.next s4 l3
 have ay:=O2 f f
 refine ⟨by omega,by omega,?_⟩
 refine X2.storeL ay (z:=1) i3 ?_
 intro h5 o5 X5
 refine ⟨_,rfl,_,_,_,X5.e.c6,_,rfl,by omega,by omega,?_⟩
 have af:RQ g3 w1 (ldA (mtx E n) k k k):=I8 _ _ _ _ l3 i1
 refine X5.storeD f af ?_
 intro h6 o6 X6
 have X7:Ld h6 g3 o6 be bl bd T E n k M w (C1h (mtx E n) n k (k+1)) (A2i (mtx E n) (k+1)):=X6.congr (fun t ht=>by
  show (if t=k*n+k then 1 else A2h (mtx E n) n k t)=_
  unfold C1h
  have dm:=Nat.div_add_mod t n
  by_cases c:t=k*n+k
  ·obtain ⟨d1,d2⟩:=Ot (i:=k) f
   rw [iP c,c,d1,d2,iP ⟨rfl,by omega⟩,B37]
  ·rw [iN c]
   by_cases c2:t%n=k/\t/n<k+1
   ·rw [iP c2]
    have ak:t/n<k:=by
     refine aQ fun bq=>c ?_
     have:t/n=k:=by omega
     rw [c2.1,this,aR] at dm
     exact dm.symm
    rw [B38 ak]
    unfold A2h
    rw [iN (by omega)]
   ·rw [iN c2]) (fun t _=>by rw [<- B48])
 clear X6 X5 X2 X1
 have ap:h.le g3:=B0 o l3
 refine Rm (I8 _ _ _ _ X7.e.t.sep.le af) ⟨_,rfl,B8 (fun e0=>?_) (fun S=>?_)⟩
 ·refine ⟨_,rfl,_,X7.e.c1,_,rfl,?_⟩
  rw [ac f]
  refine X7.e.set (n':=n) (k':=k+1) (w':=w) (z':=(elP E n n k).last) (L':=.slice (some ⟨bl,0,none⟩) (n*n) (n*n)) (D':=.slice (some ⟨bd,0,none⟩) n n) (vs:=[I ((k+1:Nat):Int)]) B2p rfl rfl (by intro x g;simp only [bX,bL,or_false] at g;subst g;rfl) (by omega) rfl X7.e.last rfl ?_
  intro h8 o8 Y ko
  have es:=A8h sy f ab e0
  refine ⟨⟨k+1,g3,o8,M,w,by omega,rfl,ap,fun k' aa=>ab k' (by omega),⟨by rw [es];exact Y,fun i j a b c=>by rw [es];exact X7.m i j (by omega) b c,(X7.l.ko (B5 _) (ko _ X7.el.symm)).congr (A80 _ (.inr ⟨e0,by omega⟩)),X7.d.ko (B5 _) (ko _ X7.ed.symm),X7.tl,X7.td,X7.el,X7.ed,X7.ld⟩⟩,?_⟩
  show n-((k+1:Nat):Int).toNat<n-((k:Nat):Int).toNat
  omega
 rw [ac f]
 refine ⟨fun L g=>∃ (i:Nat) (g4 o4:aH),k<i/\i<=n/\L=[I (i:Int)]/\g3.le g4/\Ld g g4 o4 be bl bd T E n k M w (C1h (mtx E n) n k i) (A2i (mtx E n) (k+1)),fun L _=>n-(iAt L 0).toNat,⟨k+1,g3,o6,by omega,by omega,rfl,B5 _,X7⟩,?_⟩
 clear X7
 rintro z6 g ⟨i,g4,o4,bn,bo,eL,l4,X8⟩
 obtain rfl:=sI1 eL
 have ae:h.le g4:=B0 ap l4
 refine B8 (fun bb=>?_) (fun bc=>?_)
 ·have q:i<n:=by omega
  refine ⟨_,rfl,_,_,_,X8.e.c5,?_⟩
  refine X8.at (gl.mono ae) F (by omega) q f G (by omega) ?_
  intro w9 h9 g9 Z s9 a3 i9
  refine ⟨_,_,_,_,_,_,_,_,rfl,a3,?_⟩
  refine s9.call (Jr (m:=Q) (gl.mono (B0 ae Z)).tz i9 (I8 _ _ _ _ (B0 l4 Z) af) (F.zA i k (by omega) q f) (F.zA k k (aC _) f f) G (by omega) ?_)
  intro bj a6 ag av bi al
  refine ⟨_,_,_,_,_,_,_,_,rfl,s9.le_le al ag,_,rfl,?_⟩
  rw [ix q f]
  have a0:=O2 q f
  refine ⟨by omega,by omega,?_⟩
  refine ((X8.next s9 Z).next al ag).storeL a0 av ?_
  intro bk aw X11
  rw [ac q]
  refine ⟨⟨i+1,a6,aw,by omega,by omega,rfl,B0 l4 (B0 Z ag),X11.congr (fun t ht=>?_) (fun _ _=>rfl)⟩,by simp only [U9];omega⟩
  show (if t=i*n+k then ldA (mtx E n) k i k/ldA (mtx E n) k k k else C1h (mtx E n) n k i t)=_
  unfold C1h
  have dm:=Nat.div_add_mod t n
  by_cases c:t=i*n+k
  ·obtain ⟨d1,d2⟩:=Ot (i:=i) f
   rw [iP c,c,d1,d2,iP ⟨rfl,by omega⟩]
   unfold ldL
   rw [iN (by omega),iN (by omega),iN S]
  ·rw [iN c]
   by_cases c2:t%n=k/\t/n<i
   ·rw [iP c2,iP ⟨c2.1,by omega⟩]
   ·rw [iN c2,iN]
    rintro ⟨c3,c4⟩
    have:t/n=i:=by
     have:¬ t/n<i:=fun x=>c2 ⟨c3,x⟩
     omega
    rw [c3,this,aR] at dm
    exact c dm.symm
 ·have a2:i=n:=by omega
  subst a2
  refine Rz (m:=Q) X8.e f (by omega) F.last (fun a b ka ha C=>by rw [X8.m a b ka ha C];exact F.zM a b ha C) F.zl G hQ ?_
  intro h9 g9 o9 w9 Z Y ko
  obtain ⟨a7,a9,_⟩:=A8g sy f ok S
  refine ⟨rfl,⟨k+1,g9,o9,_,w9,by omega,rfl,B0 ae Z,fun k' aa=>ab k' (by omega),⟨by rw [a9,<- X8.m k k (aC _) f f];exact Y,fun i j a b c=>?_,(X8.l.ko Z (ko _ X8.tl X8.el.symm)).congr (A80 _ (.inl rfl)),X8.d.ko Z (ko _ X8.td X8.ed.symm),X8.tl,X8.td,X8.el,X8.ed,X8.ld⟩⟩,?_⟩
  ·rw [iP (show k<i by omega),a7 i j (by omega) b,X8.m k k (aC _) f f,X8.m i j (by omega) b c,X8.m i k (by omega) b f,X8.m k j (aC _) f c]
  ·show i-((k+1:Nat):Int).toNat<i-((k:Nat):Int).toNat
   omega
end
def ns(f:Nat->Nat):Nat->Nat
 | 0=>0
 | n+1=>ns f n+f n
def C7t(A:Nat->Nat->Rat)(n k:Nat)(v:Nat->Rat):Prop:=
 (v k=1/\(∀ i,k<i->i<n->v i=0)/\ldA A k k k<0)\/
 (∃ p,k<p/\p<n/\v p=1/\(∀ i,k<i->i<n->i≠p->v i=0)/\ldA A k k k=0/\ldA A k p k≠0/\v k=(ldA A k p p+1)/(ldA A k p k * -2))
def C7n(n k Q:Nat):Nat:=(n-k)*(2*Q+2)+4*Q+10
structure Wv (E:Nat->Rat) (n k Q t:Nat) (v:Nat->Rat) (s:Nat->Nat):Prop where
 seed:C7t (mtx E n) n k v
 low:∀ i,i<t->v i=0
 zero:∀ m,t<=m->m<k->sm n (fun i=>ldL (mtx E n) i m*v i)=0
 sz:∀ i,i<n->Sz (s i) (v i)
 tot:ns (fun i=>if i<t then 0 else 2*Q+1+s i) n+(2*Q+2)<=2^(k-t)*C7n n k Q
def C29:Sz 1 (1:Rat):=(⟨ZB.one (aC 1),ZB.one (aC 1)⟩:Sz 1 1)
def B36{E:Nat->Rat}{n Q m:Nat}(F:LdF E n m Q)(hm:m<n)(hQ:1<=Q){i:Nat}(hi:i<n):Sz (2*Q) (ldL (mtx E n) i m):=by
 unfold ldL
 by_cases c:i=m
 ·rw [iP c];exact C29.mono (by omega)
 ·rw [iN c]
  by_cases c2:i<m
  ·rw [iP c2];exact (Sz.zero (aC 1)).mono (by omega)
  ·rw [iN c2]
   split
   ·exact (Sz.zero (aC 1)).mono (by omega)
   ·exact ((F.zA i m (by omega) hi hm).div (F.zA m m (aC _) hm hm) hQ).mono (by omega)
section
variable {h g o:aH} {be bl bd bv:Nat} {T:Tb} {E:Nat->Rat} {n k Q W m:Nat} {M:Nat->Nat->Int} {w:IV} {K:VP}
structure Lv (h g o:aH) (be bl bd bv:Nat) (T:Tb) (E:Nat->Rat) (n k:Nat) (M:Nat->Nat->Int) (w:IV) (v:Nat->Rat):Prop where
 x:Ld h g o be bl bd T E n k M w (A2h (mtx E n) n k) (A2i (mtx E n) k)
 q:QB g o bv n v
 t:¬ onT T bv
 e:be≠bv
 l:bl≠bv
 d:bd≠bv
end
def SymT(q:Nat)(ls:Nat->List UInt8):Prop:=∀ i j,i<q->j<i->ls (i*q+j)=ls (j*q+i)
def SqOk(r c:Int)(n:Nat)(ls:Nat->List UInt8)(q:Nat):Prop:=MOk r c n ls q q/\SymT q ls
def SqE(r c:Int)(n:Nat)(ls:Nat->List UInt8)(e:Int):Prop:=(¬ Mx r c n ls/\e=1)\/(Mx r c n ls/\(¬ ∃ q,SqOk r c n ls q)/\e=4)
def SymT.symm{q:Nat}{ls:Nat->List UInt8}(h:SymT q ls):A5d q (mtx (rvs ls) q):=fun i j a b=>by
 show rv (ls (i*q+j))=rv (ls (j*q+i))
 rcases Nat.lt_trichotomy i j with c|c|c
 ·rw [h j i b c]
 ·rw [c]
 ·rw [h i j a c]
section
variable {h:aH} {K:VP} {A:Option aP} {n cap m:Nat} {r c:Int} {ls:Nat->List UInt8}
def MOk.sq{q q':Nat}(mk:MOk r c n ls q q')(e:r=c):q=q':=by have:=mk.er;have:=mk.ec;omega
def Qr(gl:Gl h)(rv':aU SSr h A n ls)(hn:n<=1000000)(hl:LL n ls)
 (hK1:∀ q,SqOk r c n ls q->∀ b h',Own RQr h h' b (q*q) (rvs ls)->K (.tuple #[.slice (some ⟨b,0,none⟩) (q*q) (q*q),I 0]) h')
 (hK0:∀ e,SqE r c n ls e->∀ h',h.le h'->K (.tuple #[.slice none 0 0,I e]) h'):aV prog Vm #[Hb r c A n cap] h K:=by
 refine B8w _ _ _ _ _ ?_
 unfold C4w
 refine V3 gl rv' hn hl ?_ (fun C k V=>⟨_,_,_,_,rfl,hK0 1 (.inl ⟨C,rfl⟩) k V⟩)
 intro q q' mk b k own
 refine ⟨_,_,_,_,rfl,?_⟩
 show Br _ _ _
 refine I4 (fun f=>hK0 4 (.inr ⟨⟨_,_,mk⟩,(fun ⟨a,x,_⟩=>f (by have:=x.er;have:=x.ec;omega)),rfl⟩) k own.le) (fun t=>?_)
 obtain rfl:=mk.sq t
 have:=mk.r2
 obtain ⟨rfl,rfl,_,_,_,_,rfl,E⟩:=id mk
 have M:aU SSr k A (q*q) ls:=rv'.mono O3 own.le
 have W:q*q<=64*64:=aL (by omega) (by omega)
 have J:∀ {i j:Nat},i<q->j<q->B7 (B7 ((i:Int)*(q:Int))+(j:Int))=((i*q+j:Nat):Int):=fun {i j} m l=>by
  have:=O2 m l
  rw [<- aM,K3 (by omega)]
  exact K3 (n:=i*q+j) (by omega)
 have w:∀ {i j:Nat},i<q->j<i->ls (i*q+j)≠ls (j*q+i)->¬ ∃ a,SqOk (q:Int) (q:Int) (q*q) ls a:=by
  rintro i j m l f ⟨a,x,y⟩
  obtain rfl:a=q:=by have:=x.er;omega
  exact f (y i j m l)
 refine ⟨fun L o=>∃ i:Nat,i<=q/\L=[I (i:Int)]/\o=k/\∀ a b,a<i->b<a->ls (a*q+b)=ls (b*q+a),fun L _=>q-(iAt L 0).toNat,⟨0,by omega,rfl,rfl,fun a b O=>by omega⟩,?_⟩
 rintro z o ⟨i,m,B,rfl,F⟩
 obtain rfl:=sI1 B
 refine B8 (fun T=>?_) (fun Z=>hK1 q ⟨mk,fun a b O g=>F a b (by omega) g⟩ b o own)
 have d:i<q:=by omega
 refine ⟨fun L p=>∃ j:Nat,j<=i/\L=[I (j:Int)]/\p=o/\∀ b,b<j->ls (i*q+b)=ls (b*q+i),fun L _=>i-(iAt L 0).toNat,⟨0,by omega,rfl,rfl,fun b g=>by omega⟩,?_⟩
 rintro z2 p ⟨j,l,B,rfl,D⟩
 obtain rfl:=sI1 B
 refine B8 (fun G=>?_) (fun N=>?_)
 ·have s:j<i:=by omega
  have Q:=O2 d (show j<q by omega)
  have S:=O2 (show j<q by omega) d
  obtain ⟨u,rfl,R⟩:=M.sat Q
  obtain ⟨u',H,X⟩:=M.sat S
  simp only [bI] at H
  subst H
  rw [J d (show j<q by omega),J (show j<q by omega) d]
  refine ⟨_,rfl,by omega,by omega,_,R,_,rfl,by omega,by omega,_,X,?_⟩
  rw [Ow]
  refine Br.not (B8 (fun e=>?_) (fun e=>hK0 4 (.inr ⟨⟨_,_,mk⟩,w d s e,rfl⟩) p own.le))
  rw [wiS j (by omega)]
  refine ⟨⟨j+1,by omega,rfl,rfl,fun b g=>?_⟩,by simp only [U9];omega⟩
  by_cases c:b=j
  ·rw [c];exact e
  ·exact D b (by omega)
 ·rw [wiS i (by omega)]
  refine ⟨⟨i+1,by omega,rfl,rfl,fun a b O g=>?_⟩,by simp only [U9];omega⟩
  by_cases c:a=i
  ·rw [c];exact D b (by omega)
  ·exact F a b (by omega) g
def Ie(rv':aU SSr h A n ls)(hn:n<=1000000)(hl:LL n ls)
 (hK1:∀ q,SqOk r c n ls q->∀ bo cp h',h.le h'->q<=cp->cD h' (some ⟨bo,0,none⟩) q q (mtx (rvs ls) q)->K (.tuple #[.slice (some ⟨bo,0,none⟩) q cp,I 0]) h')
 (hK0:∀ e,SqE r c n ls e->∀ h',h.le h'->K (.tuple #[.slice none 0 0,I e]) h'):aV prog In #[Hb r c A n cap] h K:=by
 refine B13 _ _ _ _ _ ?_
 unfold B5u
 refine B07 rv' hn hl ?_ (fun D l g=>⟨_,_,_,_,rfl,hK0 1 (.inl ⟨D,rfl⟩) l g⟩)
 intro q q' mk bo l g W
 refine ⟨_,_,_,_,rfl,?_⟩
 show Br _ _ _
 refine I4 (fun f=>hK0 4 (.inr ⟨⟨_,_,mk⟩,(fun ⟨a,x,_⟩=>f (by have:=x.er;have:=x.ec;omega)),rfl⟩) l g) (fun w=>?_)
 obtain rfl:=mk.sq w
 have:=mk.r2
 obtain ⟨rfl,rfl,_,_,_,_,rfl,F⟩:=id mk
 have N:aU SSr l A (q*q) ls:=rv'.mono O3 g
 have X:q*q<=64*64:=aL (by omega) (by omega)
 have M:∀ {i j:Nat},i<q->j<q->B7 (B7 ((i:Int)*(q:Int))+(j:Int))=((i*q+j:Nat):Int):=fun {i j} o m=>by
  have:=O2 o m
  rw [<- aM,K3 (by omega)]
  exact K3 (n:=i*q+j) (by omega)
 have B:∀ {i j:Nat},i<q->j<i->ls (i*q+j)≠ls (j*q+i)->¬ ∃ a,SqOk (q:Int) (q:Int) (q*q) ls a:=by
  rintro i j o m f ⟨a,x,y⟩
  obtain rfl:a=q:=by have:=x.er;omega
  exact f (y i j o m)
 refine ⟨fun L p=>∃ i:Nat,i<=q/\L=[I (i:Int)]/\p=l/\∀ a b,a<i->b<a->ls (a*q+b)=ls (b*q+a),fun L _=>q-(iAt L 0).toNat,⟨0,by omega,rfl,rfl,fun a b Q=>by omega⟩,?_⟩
 rintro z p ⟨i,o,C,rfl,G⟩
 obtain rfl:=sI1 C
 refine B8 (fun V=>?_) (fun aa=>hK1 q ⟨mk,fun a b Q k=>G a b (by omega) k⟩ bo _ p g (aC _) W)
 have d:i<q:=by omega
 refine ⟨fun L s=>∃ j:Nat,j<=i/\L=[I (j:Int)]/\s=p/\∀ b,b<j->ls (i*q+b)=ls (b*q+i),fun L _=>i-(iAt L 0).toNat,⟨0,by omega,rfl,rfl,fun b k=>by omega⟩,?_⟩
 rintro z2 s ⟨j,m,C,rfl,E⟩
 obtain rfl:=sI1 C
 refine B8 (fun H=>?_) (fun O=>?_)
 ·have t:j<i:=by omega
  have R:=O2 d (show j<q by omega)
  have T:=O2 (show j<q by omega) d
  obtain ⟨u,rfl,S⟩:=N.sat R
  obtain ⟨u',J,Z⟩:=N.sat T
  simp only [bI] at J
  subst J
  rw [M d (show j<q by omega),M (show j<q by omega) d]
  refine ⟨_,rfl,by omega,by omega,_,S,_,rfl,by omega,by omega,_,Z,?_⟩
  rw [Ow]
  refine Br.not (B8 (fun e=>?_) (fun e=>hK0 4 (.inr ⟨⟨_,_,mk⟩,B d t e,rfl⟩) s g))
  rw [wiS j (by omega)]
  refine ⟨⟨j+1,by omega,rfl,rfl,fun b k=>?_⟩,by simp only [U9];omega⟩
  by_cases c:b=j
  ·rw [c];exact e
  ·exact E b (by omega)
 ·rw [wiS i (by omega)]
  refine ⟨⟨i+1,by omega,rfl,rfl,fun a b Q k=>?_⟩,by simp only [U9];omega⟩
  by_cases c:a=i
  ·rw [c];exact E b (by omega)
  ·exact G a b (by omega) k
structure FacV (h:aH) (q:Nat) (A1:Option aP) (A2:Option aP) (E:Nat->Rat):Prop where
 l:aU SSr h A1 (q*q) (fun t=>K9 (A2h (mtx E q) q q t))
 d:aU SSr h A2 q (fun t=>K9 (A2i (mtx E q) q t))
def It{Q:Nat}(gl:Gl h)(rv':aU SSr h A n ls)(hn:n<=1000000)(hl:LL n ls)(hs:∀ i,i<n->Sz m (rv (ls i)))(hb:∀ q,MOk r c n ls q q->3^q*bnd q m+bnd q m<=Q)(hQ:Q<=20000000)
 (hK1:∀ q,SqOk r c n ls q->(∀ k,k<q->Pn (mtx (rvs ls) q) q k)->∀ b1 b2 h',h.le h'->FacV h' q (some ⟨b1,0,none⟩) (some ⟨b2,0,none⟩) (rvs ls)->K (.tuple #[.agg #[I r,I c,.slice (some ⟨b1,0,none⟩) (q*q) (q*q),.slice (some ⟨b2,0,none⟩) q q],.bool true,I 0]) h')
 (hK2:∀ q,SqOk r c n ls q->(¬ ∀ k,k<q->Pn (mtx (rvs ls) q) q k)->∀ h',h.le h'->K (.tuple #[.agg #[I 0,I 0,.slice none 0 0,.slice none 0 0],.bool false,I 0]) h')
 (hK0:∀ e,SqE r c n ls e->∀ h',h.le h'->K (.tuple #[.agg #[I 0,I 0,.slice none 0 0,.slice none 0 0],.bool false,I e]) h'):aV prog Ez #[Hb r c A n cap] h K:=by
 refine B16 _ _ _ _ _ ?_
 unfold B64
 refine Qr gl rv' hn hl ?_ (fun e E J Z=>⟨_,_,_,_,rfl,I4 (fun _=>hK0 e E J Z) (fun e0=>by rcases E with ⟨_,x⟩|⟨_,_,x⟩<;>omega)⟩)
 intro q sq b J own
 obtain ⟨mk,D⟩:=id sq
 have g:=hb q mk
 have:=mk.r1;have:=mk.r2
 obtain ⟨rfl,rfl,_,_,_,_,rfl,G⟩:=id mk
 refine ⟨_,_,_,_,rfl,I4 (fun C=>absurd rfl C) (fun _=>?_)⟩
 refine Xm (Q:=Q) (gl.mono own.le) (own.vis I8) (aC _) (by omega) (by omega) D.symm hs g (by omega) ?_ ?_
 ·intro ok z H N W S bd T M w p L X
  have aa:q*q<=64*64:=aL (by omega) (by omega)
  have s:1<=Q:=by unfold bnd at g;omega
  have F:=fun k (u:k<=q)=>ldF hs g D.symm u fun m y=>ok m (by omega)
  have O:Gl H:=gl.mono (B0 own.le L)
  refine ⟨_,_,rfl,?_⟩
  show Br false _ _
  refine ⟨_,rfl,_,_,_,X.e.c5,?_⟩
  have o:Gl z:=gl.mono (B0 own.le p)
  refine Ht (m:=2*Q) o (X.l.rowV X.e.t.sep) (by omega) (fun i j=>?_) (by omega) ?_
  ·unfold A2h
   have y:i%q<q:=bJ _ (by omega)
   rw [iP y]
   exact B36 (F _ (by omega)) y s (aJ j)
  intro V h3 a
  refine ⟨_,_,_,rfl,a.le,_,rfl,_,_,_,C1 a.le X.e.c6,?_⟩
  refine Ht (m:=Q) (o.mono a.le) ((X.d.rowV X.e.t.sep).mono I8 a.le) (by omega) (fun i j=>?_) (by omega) ?_
  ·unfold A2i ldD
   rw [iP j]
   exact (F i (by omega)).zA i i (aC _) j j
  intro R h4 f
  exact ⟨_,_,_,rfl,f.le,hK1 q sq ok V R h4 (B0 (B0 own.le p) (B0 a.le f.le)) ⟨(a.vis O3).mono O3 f.le,f.vis O3⟩⟩
 ·intro k u ok B z H N W S bd T M w p L X
  refine ⟨_,_,rfl,?_⟩
  show Br true _ _
  exact hK2 q sq (fun x=>B (x k u)) z (B0 own.le p)
end
def Kt{X Y:Prop}(x:X):Br true X Y:=x
def Br.no{X Y:Prop}(y:Y):Br false X Y:=y
def C51:K9 0=[48]:=B1m
def C7o:K9 (1/2)=[49,47,50]:=by
 have a:O9 1=[49]:=by decide +kernel
 have b:O9 2=[50]:=by decide +kernel
 have c:(1/2:Rat).den=2:=by decide +kernel
 have d:(1/2:Rat).num=1:=by decide +kernel
 simp [K9,Mz,a,b,c,d]
abbrev E4:Nat->Rat:=fun i=>([4,2,2,1]:List Rat).getD i 0
abbrev E0:Nat->Rat:=fun i=>([0,1,1,0]:List Rat).getD i 0
def aw4:ldA (mtx E4 2) 0 0 0=4/\ldA (mtx E4 2) 1 1 1=0:=by decide +kernel
def aw5:∀ t,t<4->A2h (mtx E4 2) 2 2 t=([1,0,1/2,1]:List Rat).getD t 0:=by decide +kernel
def aw6:∀ t,t<2->A2i (mtx E4 2) 2 t=([4,0]:List Rat).getD t 0:=by decide +kernel
def aw7:ldA (mtx E0 2) 0 0 0=0/\ldA (mtx E0 2) 0 1 0≠0:=by decide +kernel
def C6a:∀ k,k<2->Pn (mtx E4 2) 2 k:=by
 intro k b
 have h:=aw4
 by_cases c:k=0
 ·subst c
  exact ⟨by rw [h.1];decide +kernel,fun e=>by rw [h.1] at e;exact absurd e (by decide +kernel)⟩
 ·have:k=1:=by omega
  subst this
  exact ⟨by rw [h.2];exact Rat.le_refl,fun _ i a d=>by omega⟩
def C6b:¬ ∀ k,k<2->Pn (mtx E0 2) 2 k:=fun x=>aw7.2 ((x 0 (by omega)).2 aw7.1 1 (by omega) (by omega))
def B34(l:List Rat)(hl:∀ q∈l,(K9 q).length<=1){i:Nat}(hi:i<(l.map K9).length):((l.map K9).getD i []).length<=1:=by
 rw [cC,cF hi]
 have a:i<l.length:=by simpa using hi
 simp only [List.getElem_map,Option.getD_some]
 exact hl _ (List.getElem_mem a)
def Us(l:List Rat){i:Nat}(hi:i<l.length):(l.map K9).getD i []=K9 (l.getD i 0):=by
 rw [cC,cC,List.getElem?_map,cF hi]
 rfl
def C6k(l:List Rat)(hl:l.length=4):MOk 2 2 4 (fun i=>(l.map K9).getD i []) 2 2:=by
 refine MOk.of (r:=2) (c:=2) ⟨by omega,by omega,by omega,by omega,by omega⟩ fun i a=>⟨l.getD i 0,Us l (by omega)⟩
def C38(l:List Rat)(hl:l.length=4)(e:l.getD 2 0=l.getD 1 0):SymT 2 (fun i=>(l.map K9).getD i []):=fun i j c d=>by
 have a:i=1:=by omega
 have b:j=0:=by omega
 subst a
 subst b
 show (l.map K9).getD 2 []=(l.map K9).getD 1 []
 rw [Us l (by omega),Us l (by omega),e]
def A6w{h:aH}{K:VP}(gl:Gl h)(hK:∀ h',h.le h'->K (.bool true) h'):aV prog Oe #[] h K:=by
 refine B5b ?_
 unfold C06
 have L:∀ q,MOk 2 2 4 (fun i=>(([4,2,2,1]:List Rat).map K9).getD i []) q q->3^q*bnd q 4+bnd q 4<=1000:=fun q mk=>by
  have:=mk.er
  have:q=2:=by omega
  subst this
  decide
 have T:∀ q,MOk 2 2 4 (fun i=>(([0,1,1,0]:List Rat).map K9).getD i []) q q->3^q*bnd q 4+bnd q 4<=1000:=fun q mk=>by
  have:=mk.er
  have:q=2:=by omega
  subst this
  decide
 have g:=C6k [4,2,2,1] rfl
 have j:=C6k [0,1,1,0] rfl
 have p:=C38 [4,2,2,1] rfl rfl
 have n:=C38 [0,1,1,0] rfl rfl
 have s:∀ e,¬ SqE 2 2 4 (fun i=>(([4,2,2,1]:List Rat).map K9).getD i []) e:=fun e x=>by
  rcases x with ⟨x,_⟩|⟨_,x,_⟩
  ·exact x ⟨_,_,g⟩
  ·exact x ⟨2,g,p⟩
 have r:∀ e,¬ SqE 2 2 4 (fun i=>(([0,1,1,0]:List Rat).map K9).getD i []) e:=fun e x=>by
  rcases x with ⟨x,_⟩|⟨_,x,_⟩
  ·exact x ⟨_,_,j⟩
  ·exact x ⟨2,j,n⟩
 have z:∀ {i:Nat},i<4->((([4,2,2,1]:List Rat).map K9).getD i []).length<=1:=fun {i} a=>B34 _ (by simp [C35,C6i,C5j]) (by simpa using a)
 have y:∀ {i:Nat},i<4->((([0,1,1,0]:List Rat).map K9).getD i []).length<=1:=fun {i} a=>B34 _ (by simp [C35,C51]) (by simpa using a)
 refine A0p Dn (ls:=[4,2,2,1].map K9) rfl (by simp) (by rw [show ([4,2,2,1]:List Rat).map K9=[[52],[50],[50],[49]] by simp [C35,C6i,C5j]];rfl) ?_
 intro b1 h1 u H
 have M:=Hz H
 refine ⟨_,_,_,rfl,?_⟩
 refine It (m:=4) (Q:=1000) (gl.mono u) M (by simp) (fun i a=>bZ (z (by simpa using a)) (by omega)) (fun i a=>B24 (k:=1) (z (by simpa using a)) (by omega)) L (by omega) ?_ (fun q sq b _ _=>?_) (fun e o _ _=>absurd o (s e))
 rotate_left
 ·obtain rfl:q=2:=by have:=sq.1.er;omega
  rw [A0d] at b
  exact absurd C6a b
 intro q sq N c1 c2 h2 S B
 obtain rfl:q=2:=by have:=sq.1.er;omega
 have E:=B.l
 have w:=B.d
 rw [A0d] at E w
 refine ⟨_,_,_,_,_,_,_,_,_,_,rfl,?_⟩
 refine A0p Dn (ls:=[0,1,1,0].map K9) rfl (by simp) (by rw [show ([0,1,1,0]:List Rat).map K9=[[48],[49],[49],[48]] by simp [C35,C51]];rfl) ?_
 intro b3 h3 A R
 have J:=Hz R
 have c:=B0 u (B0 S A)
 refine ⟨_,_,_,rfl,?_⟩
 refine It (m:=4) (Q:=1000) (gl.mono c) J (by simp) (fun i a=>bZ (y (by simpa using a)) (by omega)) (fun i a=>B24 (k:=1) (y (by simpa using a)) (by omega)) T (by omega) (fun q sq ok _ _ _ _ _=>?_) ?_ (fun e o _ _=>absurd o (r e))
 ·obtain rfl:q=2:=by have:=sq.1.er;omega
  rw [A0d] at ok
  exact absurd ok C6b
 intro q W _ h4 D
 refine ⟨_,_,_,_,_,_,_,_,_,_,rfl,Kt (Kt ?_)⟩
 refine A0p Dn (ls:=[4,0].map K9) rfl (by simp) (by rw [show ([4,0]:List Rat).map K9=[[52],[48]] by simp [C5j,C51]];rfl) ?_
 intro b5 h5 t X
 have F:=Hz X
 refine ⟨_,_,_,rfl,?_⟩
 have f:=B0 A (B0 D t)
 refine Cb (w.mono O3 f) F (by omega) (fun _ _=>⟨_,rfl,Kt ?_⟩) (fun b=>absurd ⟨by simp,fun i a=>?_⟩ b)
 rotate_left
 ·rw [Us _ (by simpa using a),aw6 i a]
 refine A0p Dn (ls:=[1,0,1/2,1].map K9) rfl (by simp) (by rw [show ([1,0,1/2,1]:List Rat).map K9=[[49],[48],[49,47,50],[49]] by simp only [List.map_cons,List.map_nil,C35,C51,C7o]];rfl) ?_
 intro Z V C G
 have O:=Hz G
 refine ⟨_,_,_,rfl,?_⟩
 refine Cb (E.mono O3 (B0 f C)) O (by omega) (fun _ _=>⟨_,rfl,Kt (Kt ?_)⟩) (fun b=>absurd ⟨by simp,fun i a=>?_⟩ b)
 rotate_left
 ·rw [Us _ (by simpa using a),aw5 i a]
 exact hK V (B0 c (B0 D (B0 t C)))
section
variable {h:aH} {A:Option aP} {n cap:Nat} {r c:Int} {ls:Nat->List UInt8}
end
section
variable {h:aH} {K:VP} {A:Option aP} {n cap m w:Nat} {r c:Int} {ls:Nat->List UInt8} {R:Nat->Nat->Rat}
def Gc(hn:n<=10000)(hw:w<=10000)
 (hK:∀ h' g' o' bo rb,h.le g'->Mt h' g' o' bo rb n w (fun _ _=>0)->K (.slice (some ⟨bo,0,none⟩) n n) h'):aV prog On #[I (n:Int),I (w:Int)] h K:=by
 refine B62 _ _ ?_
 unfold C0k
 refine Q3 B6w (zx:=(⟨none,0,0⟩:HV)) rfl (by omega) (by omega) (by omega) (by omega) ?_
 intro bo u
 simp only [aE]
 refine ⟨_,_,_,rfl,fun L B=>∃ (k:Nat) (g o:aH) (l:List HV) (rb:Nat->Nat),k<=n/\L=[I (k:Int)]/\h.le g/\Sep B g o/\RowX o bo l/\l.length=n/\(∀ i,i<k->l[i]? = some ⟨some ⟨rb i,0,none⟩,w,w⟩)/\(∀ i,i<k->rb i≠bo)/\(∀ i j,i<k->j<k->rb i=rb j->i=j)/\(∀ i,i<k->RowX o (rb i) (aI w As)),fun L _=>n-(iAt L 0).toNat,
  ⟨0,h,U1.put bo _,aI n ⟨none,0,0⟩,fun _=>0,by omega,rfl,B5 _,Cu u,RowX.mk,aK,fun i a=>by omega,fun i a=>by omega,fun i j a=>by omega,fun i a=>by omega⟩,?_⟩
 rintro z B ⟨k,g,o,l,rb,W,S,M,s,C,O,H,D,G,E⟩
 obtain rfl:=sI1 S
 refine B8 (fun R=>?_) (fun V=>?_)
 ·have Q:k<n:=by omega
  refine Q3 Sg (zx:=As) rfl (by omega) (by omega) (by omega) (by omega) ?_
  intro b c
  simp only [aE]
  have m:∀ q x,o q=some x->q≠b:=by
   rintro q x e rfl
   rw [s.own q x e] at c;cases c
  have f:bo≠b:=by obtain ⟨e,t⟩:=C;exact m _ _ t
  have d:∀ i,i<k->rb i≠b:=fun i a=>by obtain ⟨e,t⟩:=E i a;exact m _ _ t
  refine ⟨_,_,_,rfl,_,rfl,by omega,by omega,?_⟩
  refine Ag Ta (y:=(⟨some ⟨b,0,none⟩,w,w⟩:HV)) rfl (s.new c _) (C.other f _) (i:=k) (by omega) ?_
  intro Z N X p T F
  rw [wiS k (by omega)]
  refine ⟨⟨k+1,g,N,_,fun i=>if i=k then b else rb i,by omega,rfl,M,T,F,by rw [bN];exact O,fun i a=>?_,fun i a=>?_,fun i j a J e=>?_,fun i a=>?_⟩,by simp only [U9];omega⟩
  ·show (l.set k _)[i]? = some (⟨some ⟨if i=k then b else rb i,0,none⟩,w,w⟩:HV)
   by_cases e:i=k
   ·subst e
    rw [iP rfl,List.getElem?_set_self (by omega)]
   ·rw [iN e,List.getElem?_set_ne (fun x=>e x.symm)]
    exact H i (by omega)
  ·show (if i=k then b else rb i)≠bo
   by_cases e:i=k
   ·rw [iP e];exact f.symm
   ·rw [iN e];exact D i (by omega)
  ·change (if i=k then b else rb i)=(if j=k then b else rb j) at e
   by_cases A:i=k
   ·by_cases r:j=k
    ·omega
    ·rw [iP A,iN r] at e
     exact absurd e.symm (d j (by omega))
   ·by_cases r:j=k
    ·rw [iN A,iP r] at e
     exact absurd e (d i (by omega))
    ·rw [iN A,iN r] at e
     exact G i j (by omega) (by omega) e
  ·show RowX N (if i=k then b else rb i) _
   by_cases e:i=k
   ·rw [iP e,p]
    exact RowX.mk.other f.symm _
   ·rw [iN e,p]
    exact ((E i (by omega)).other (d i (by omega)) _).other (D i (by omega)) _
 ·have:k=n:=by omega
  subst this
  refine hK B g o bo rb M ⟨s,⟨l,C.rowB,O,fun i a=>⟨w,H i a,aC _⟩⟩,D,G,fun i a=>⟨_,(E i a).rowB,aK,fun j J=>⟨As,by rw [bU,iP J],NQ.zero⟩⟩⟩
def A9b(R:Nat->Nat->Rat)(i k:Nat):Nat->Nat->Rat:=fun a b=>if b<i\/(b=i/\a<k) then R b a else 0
def A6h(rs:cD h A n w R)(hn1:1<=n)(hn:n<=10000)(hw:w<=10000)
 (hK:∀ h' g' o' bo rb,h.le g'->Mt h' g' o' bo rb w n (fun a b=>R b a)->K (.slice (some ⟨bo,0,none⟩) w w) h'):aV prog Vj #[.slice A n cap] h K:=by
 refine B8s _ _ _ ?_
 unfold C4r
 obtain ⟨a,sv,Z,M,e2,Q,_⟩:=rs.at (i:=0) (by omega)
 refine ⟨a,Z,by omega,by omega,_,_,_,Q,?_⟩
 rw [M]
 refine Gc hw hn ?_
 intro h1 G o1 bo rb X t1
 refine ⟨_,_,_,rfl,fun L r=>∃ (i:Nat) (g o:aH),i<=n/\L=[I (i:Int)]/\h.le g/\Mt r g o bo rb w n (A9b R i 0),fun L _=>n-(iAt L 0).toNat,⟨0,G,o1,by omega,rfl,X,t1.congr fun a b _ _=>by unfold A9b;rw [iN (by omega)]⟩,?_⟩
 rintro z r ⟨i,g,o,hi,eL,B,t⟩
 obtain rfl:=sI1 eL
 refine B8 (fun T=>?_) (fun aa=>?_)
 ·have l:i<n:=by omega
  obtain ⟨D,s1,j,f1,f2,q,row⟩:=rs.at l
  refine ⟨fun L r=>∃ (k:Nat) (g o:aH),k<=w/\L=[I (k:Int)]/\h.le g/\Mt r g o bo rb w n (A9b R i k),fun L _=>w-(iAt L 0).toNat,⟨0,g,o,by omega,rfl,B,t⟩,?_⟩
  rintro z N ⟨k,y,F,hk,u,c,d⟩
  obtain rfl:=sI1 u
  have p:=B0 c d.sep.le
  refine ⟨D,j,by omega,by omega,_,_,_,C1 p q,?_⟩
  rw [f1]
  refine B8 (fun C=>?_) (fun E=>?_)
  ·have f:k<w:=by omega
   obtain ⟨cc,W,J⟩:=d.head f
   obtain ⟨O,w5,e5,S,c0,c1,s,c3⟩:=(row.mono V8 c).qat f
   refine ⟨_,rfl,by omega,by omega,_,_,_,d.sep.cell J,D,j,by omega,by omega,_,_,_,C1 p q,O,e5,by omega,by omega,_,_,_,_,_,_,_,_,C1 d.sep.le c0,C1 d.sep.le c1,C1 d.sep.le s,C1 d.sep.le c3,_,rfl,by omega,by omega,?_⟩
   refine d.store f l S ?_
   intro h6 o6 V _
   rw [wiS k (by omega)]
   refine ⟨⟨k+1,y,o6,by omega,rfl,c,V.congr fun a b _ _=>?_⟩,by simp only [U9];omega⟩
   unfold A04 A9b
   by_cases e:a=k/\b=i
   ·rw [iP e,iP (by omega),e.1,e.2]
   ·rw [iN e]
    by_cases m:b<i\/(b=i/\a<k)
    ·rw [iP m,iP (by omega)]
    ·rw [iN m,iN (by omega)]
  ·have:k=w:=by omega
   subst this
   rw [wiS i (by omega)]
   refine ⟨⟨i+1,y,F,by omega,rfl,c,d.congr fun a b ha _=>?_⟩,by simp only [U9];omega⟩
   unfold A9b
   by_cases m:b<i\/(b=i/\a<k)
   ·rw [iP m,iP (by omega)]
   ·rw [iN m,iN (by omega)]
 ·have:i=n:=by omega
  subst this
  exact hK r g o bo rb B (t.congr fun a b _ H=>by unfold A9b;rw [iP (.inl H)])
def Yq(rs:cD h A n w R)(hn1:1<=n)(hn:n<=10000)(hw:w<=10000)
 (hK:∀ bo h',h.le h'->cD h' (some ⟨bo,0,none⟩) w n (fun a b=>R b a)->K (.slice (some ⟨bo,0,none⟩) w w) h'):aV prog Vj #[.slice A n cap] h K:=A6h rs hn1 hn hw fun h' c e bo d l t=>hK bo h' (B0 l t.sep.le) t.rowsV
def Rb{α:Type}[E:Enc α]{o:aH}{b:Nat}{e:TypeId}{c:Nat}{zx:α}:bB (o.put b (.cells ((aI c zx).flatMap enc).toArray e)) e (some ⟨b,0,none⟩) c ([]:List α):=
 ⟨Nat.zero_le _,.inr ⟨b,_,rfl,C2 _ _ _,by rw [L8,aK],by simp⟩⟩
end
def Br.nt{X Y:Prop}(y:Y):Br (!true) X Y:=y
def A2g{X Y:Prop}(x:X):Br (!false) X Y:=x
def RowX.qcells{o:aH}{b:Nat}{ys:List QV}(r:RowX o b ys){i:Nat}(hi:i<ys.length):o.cell? (aF (aF ⟨b,0,none⟩ (i*4)) 0)=some (.bool ys[i].s)/\o.cell? (aF (aF ⟨b,0,none⟩ (i*4)) 1)=some (.slice ys[i].A ys[i].n ys[i].c)/\o.cell? (aF (aF ⟨b,0,none⟩ (i*4)) 2)=some (.bool ys[i].s2)/\o.cell? (aF (aF ⟨b,0,none⟩ (i*4)) 3)=some (.slice ys[i].A2 ys[i].n2 ys[i].c2):=by
 obtain ⟨x,e,a⟩:=SlF.at (by decide) (r.rowB.slF (B5 o)) hi
 simp only [bI] at e
 subst e
 exact ⟨a 0 _ rfl,a 1 _ rfl,a 2 _ rfl,a 3 _ rfl⟩
structure MOut where
 r:Int
 c:Int
 n:Nat
 f:Nat->List UInt8
 e:Int
def noM(e:Int):MOut:=⟨0,0,0,fun _=>[],e⟩
def C4y(r c:Int)(n:Nat)(la:Nat->List UInt8)(r2 c2:Int)(n2:Nat)(lb:Nat->List UInt8)(q:Rat)(o:MOut):Prop:=
 (¬ (Mx r c n la/\Mx r2 c2 n2 lb)/\o=noM 1)\/(Mx r c n la/\Mx r2 c2 n2 lb/\(r≠r2\/c≠c2)/\o=noM 4)\/(Mx r c n la/\Mx r2 c2 n2 lb/\r=r2/\c=c2/\o=⟨r,c,n,fun k=>K9 (rv (la k)+q*rv (lb k)),0⟩)
section
variable {h:aH} {K:VP} {A B:Option aP} {n n2 cap cap2 m w:Nat} {r c r2 c2:Int} {la lb:Nat->List UInt8}
def Xh(gl:Gl h)(ra:aU SSr h A n la)(rb:aU SSr h B n2 lb)(hn:n<=1000000)(hn2:n2<=1000000)(hl:LL n la)(hl2:LL n2 lb)(hs:∀ i,i<n->Sz m (rv (la i)))(hs2:∀ i,i<n2->Sz m (rv (lb i)))(hm:2*m+1<=40000000)
 (hK:∀ o,C4y r c n la r2 c2 n2 lb (-1) o->∀ A' cap' h',h.le h'->aU SSr h' A' o.n o.f->K (.tuple #[Hb o.r o.c A' o.n cap',I o.e]) h'):aV prog Qn #[Hb r c A n cap,Hb r2 c2 B n2 cap2,.func (.func A89) #[] #[]] h K:=by
 refine A50 _ _ _ _ _ _ _ _ _ _ ?_
 unfold A51
 have E:¬ (Mx r c n la/\Mx r2 c2 n2 lb)->∀ h',h.le h'->K (.tuple #[Hb 0 0 none 0 0,I 1]) h':=fun X h' l=>hK (noM 1) (.inl ⟨X,rfl⟩) none 0 h' l RowV.nil
 refine V3 gl ra hn hl (fun N O mk b1 h1 own=>?_) (fun w h1 T=>⟨_,_,_,_,rfl,?_⟩)
 ·obtain ⟨g1,o1,xs,j,s1,Q,X,R⟩:=own.ex
  refine ⟨_,_,_,_,rfl,s1.call (V3 (gl.mono j) (rb.mono O3 j) hn2 hl2 ?_ ?_)⟩
  ·intro q t d b2 V p D S
   refine ⟨_,_,_,_,rfl,Br.nt (Br.nt ?_)⟩
   have u:=p.le
   have G:=B0 j (B0 u S.le)
   refine I4 (fun e=>hK (noM 4) (.inr (.inl ⟨⟨_,_,mk⟩,⟨_,_,d⟩,.inl e,rfl⟩)) none 0 D G RowV.nil) (fun er=>I4 (fun e=>hK (noM 4) (.inr (.inl ⟨⟨_,_,mk⟩,⟨_,_,d⟩,.inr e,rfl⟩)) none 0 D G RowV.nil) (fun ec=>?_))
   have H:=hK ⟨r,c,n,fun k=>K9 (rv (la k)+(-1)*rv (lb k)),0⟩ (.inr (.inr ⟨⟨_,_,mk⟩,⟨_,_,d⟩,er,ec,rfl⟩))
   have en:n2=n:=by
    have e1:q=N:=by have:=mk.er;have:=d.er;omega
    have e2:t=O:=by have:=mk.ec;have:=d.ec;omega
    rw [mk.len,d.len,e1,e2]
   have ov:=p.vis I8
   refine ⟨fun L hp=>∃ (k:Nat) (g o:aH) (F:List QV),k<=n/\L=[I (k:Int)]/\V.le g/\Sep hp g o/\RowX o b1 F/\F.length=n/\Row RQr g F n (fun i=>if i<k then rv (la i)+(-1)*rv (lb i) else rv (la i)),fun L _=>n-(iAt L 0).toNat,⟨0,V,o1,xs,by omega,rfl,B5 _,S,Q,X,(R.mono I8 u).congr fun i _=>by rw [iN (bM i)]⟩,?_⟩
   rintro z hp ⟨k,g,o,F,hk,eL,J,s,Q,hy,R⟩
   obtain rfl:=sI1 eL
   refine B8 (fun ab=>?_) (fun ac=>?_)
   ·have M:k<n:=by omega
    obtain ⟨c0,c1,aa,c3⟩:=Q.qcells (i:=k) (by omega)
    obtain ⟨a2,w2,e2,i2,d0,d1,d2,d3⟩:=(ov.mono I8 J).qat (i:=k) (by omega)
    have iq:=R.get (i:=k) M (by omega)
    rw [iN (bW k)] at iq
    refine ⟨_,rfl,by omega,by omega,_,_,_,_,_,_,_,_,s.cell c0,s.cell c1,s.cell aa,s.cell c3,a2,e2,by omega,by omega,_,_,_,_,_,_,_,_,C1 s.le d0,C1 s.le d1,C1 s.le d2,C1 s.le d3,?_⟩
    refine s.call (A9l (a:=F[k]) (b:=w2) (gl.mono (B0 j (B0 u J))).tz iq i2 (hs k M) (hs2 k (by omega)) (by omega) ?_)
    intro w6 g6 l6 i6 h6 s6
    refine ⟨_,_,_,_,_,_,_,_,rfl,_,rfl,by omega,by omega,?_⟩
    refine Ag Nf (y:=w6) rfl s6 Q (i:=k) (by omega) ?_
    intro h7 o7 x7 eo s7 W
    rw [wiS k (by omega)]
    refine ⟨⟨k+1,g6,o7,_,by omega,rfl,B0 J l6,s7,W,by rw [bN];exact hy,((R.mono I8 l6).upd (by omega) i6).congr fun i _=>?_⟩,by simp only [U9];omega⟩
    show (if i=k then _ else _)=_
    by_cases e:i=k
    ·subst e
     rw [iP rfl,iP (Nat.lt_succ_self i)]
     rw [bG,Rat.neg_mul,cP]
    ·rw [iN e]
     by_cases e3:i<k
     ·rw [iP e3,iP (by omega)]
     ·rw [iN e3,iN (by omega)]
   ·have:k=n:=by omega
    subst this
    have rq:aU RQr hp (some ⟨b1,0,none⟩) k (fun i=>rv (la i)+(-1)*rv (lb i)):=⟨F,Q.rowB.slF s.ole,hy,(R.mono I8 s.le).congr fun i Z=>by rw [iP Z]⟩
    have q1:Sz 1 (-1):=⟨by unfold ZB;decide +kernel,by unfold ZB;decide +kernel⟩
    refine Lb (m:=m+(1+m)+1) (gl.mono (B0 j (B0 u (B0 J s.le)))) rq hn (fun i Z=>(hs i Z).add (q1.mul (hs2 i (by omega)))) (by omega) ?_
    intro b9 h9 C
    exact ⟨_,_,_,_,_,rfl,H _ _ h9 (B0 j (B0 u (B0 J (B0 s.le C.le)))) (C.vis O3)⟩
  ·intro w V l2 D S
   exact ⟨_,_,_,_,rfl,Br.nt (A2g (E (fun x=>w x.2) D (B0 j (B0 l2 S.le))))⟩
 ·refine V3 (gl.mono T) (rb.mono O3 T) hn2 hl2 (fun q t d b2 D p=>⟨_,_,_,_,rfl,A2g (E (fun x=>w x.1) D (B0 T p.le))⟩) (fun _ D l2=>⟨_,_,_,_,rfl,A2g (E (fun x=>w x.1) D (B0 T l2))⟩)
end
structure VV where
 A:Option aP
 n:Nat
 c:Nat
 s:Bool
 B:Option aP
 bn:Nat
 bc:Nat
abbrev VV.v(w:VV):cT:=.agg #[.slice w.A w.n w.c,.bool w.s,.slice w.B w.bn w.bc]
instance:Enc VV:=⟨⟨fun w=>[.slice w.A w.n w.c,.bool w.s,.slice w.B w.bn w.bc],3,fun _=>rfl,fun w v hv=>by
 simp only [bX,bL,or_false] at hv
 rcases hv with rfl|rfl|rfl<;>rfl⟩⟩
def VQr(w:Nat):aH->VV->(Nat->Rat)->Prop:=fun h v f=>v.n=w/\ZI h v.s v.B v.bn v.bc (Bv f w:Int)/\aU ZIr h v.A w (fun j=>scl (f j) (Bv f w:Int))
def A9y(w:Nat):Mon (VQr w):=fun _ _ _ _ l i=>⟨i.1,i.2.1.mono l,i.2.2.mono Fz l⟩
section
variable {h:aH} {K:VP} {A B:Option aP} {n cap m w:Nat} {f f2:Nat->Rat}
def A69(gl:Gl h)(r:aU RQr h A n f)(hn:n<=10000)(hs:∀ i,i<n->Sz m (f i))(hm:1+n*m+m<=6400000000)
 (hK:∀ v h',h.le h'->VQr n h' v f->K v.v h'):aV prog Ik #[.slice A n cap] h K:=by
 refine A27 _ _ _ ?_
 unfold Zr
 have hd:=Lh (f:=f) n hs
 refine ⟨?_,?_⟩
 ·refine Q3 tZs (zx:=(⟨false,none,0,0⟩:IV)) rfl (by omega) (by omega) (by omega) (by omega) ?_
  intro b H
  simp only [aE]
  have s0:=(Sep.refl h).new H (.cells ((aI n (⟨false,none,0,0⟩:IV)).flatMap enc).toArray Fn)
  refine ⟨_,_,_,rfl,s0.le,s0.call (Ee gl r (by omega) hs hm ?_)⟩
  intro Q Bd W T B q id h1 D
  refine ⟨_,_,_,_,rfl,s0.le_le D q,?_⟩
  refine ⟨fun L u=>∃ (k:Nat) (g o:aH) (l:List IV),k<=n/\L=[I (k:Int)]/\B.le g/\Sep u g o/\RowX o b l/\l.length=n/\Row ZIr g l k (fun j=>scl (f j) (Bv f n:Int)),fun L _=>n-(iAt L 0).toNat,⟨0,B,_,aI n ⟨false,none,0,0⟩,by omega,rfl,B5 _,D,RowX.mk,aK,Row.nil⟩,?_⟩
  rintro z u ⟨k,g,o,l,hk,Z,e,s,E,C,F⟩
  obtain rfl:=sI1 Z
  refine B8 (fun S=>?_) (fun aa=>?_)
  ·have c:k<n:=by omega
   obtain ⟨a,w,V,X,c0,c1,c2,c3⟩:=(r.mono I8 (B0 q e)).qat c
   refine ⟨a,V,by omega,by omega,_,_,_,_,_,_,_,_,C1 s.le c0,C1 s.le c1,C1 s.le c2,C1 s.le c3,?_⟩
   refine s.call (Ky (m:=1+n*m+m) X (id.mono e) ((hs k c).mono (by omega)) (hd.mono (by omega)) hm ?_)
   intro G A2 N c2 J t R h2 d
   refine ⟨_,_,_,_,rfl,s.le_le d t,_,rfl,by omega,by omega,?_⟩
   refine Ag Ua (y:=(⟨G,A2,N,c2⟩:IV)) rfl d E (i:=k) (by omega) ?_
   intro h7 O x7 eo M p
   rw [wiS k (by omega)]
   exact ⟨⟨k+1,J,O,_,by omega,rfl,B0 e t,M,p,by rw [bN];exact C,(F.mono Fz t).set (by omega) R⟩,by simp only [U9];omega⟩
  ·have:k=n:=by omega
   subst this
   exact hK ⟨some ⟨b,0,none⟩,k,k,Q,Bd,W,T⟩ u (B0 q (B0 e s.le)) ⟨rfl,id.mono (B0 e s.le),l,E.rowB.slF s.ole,C,F.mono Fz s.le⟩
 ·refine Ee gl r (by omega) hs hm ?_
  intro Q Bd W T B q id
  refine ⟨_,_,_,_,rfl,q,Q3 tZs (zx:=(⟨false,none,0,0⟩:IV)) rfl (by omega) (by omega) (by omega) (by omega) ?_⟩
  intro b H
  simp only [aE]
  have D:=(Sep.refl B).new H (.cells ((aI n (⟨false,none,0,0⟩:IV)).flatMap enc).toArray Fn)
  refine ⟨_,_,_,rfl,D.le,?_⟩
  refine ⟨fun L u=>∃ (k:Nat) (g o:aH) (l:List IV),k<=n/\L=[I (k:Int)]/\B.le g/\Sep u g o/\RowX o b l/\l.length=n/\Row ZIr g l k (fun j=>scl (f j) (Bv f n:Int)),fun L _=>n-(iAt L 0).toNat,⟨0,B,_,aI n ⟨false,none,0,0⟩,by omega,rfl,B5 _,D,RowX.mk,aK,Row.nil⟩,?_⟩
  rintro z u ⟨k,g,o,l,hk,Z,e,s,E,C,F⟩
  obtain rfl:=sI1 Z
  refine B8 (fun S=>?_) (fun aa=>?_)
  ·have c:k<n:=by omega
   obtain ⟨a,w,V,X,c0,c1,c2,c3⟩:=(r.mono I8 (B0 q e)).qat c
   refine ⟨a,V,by omega,by omega,_,_,_,_,_,_,_,_,C1 s.le c0,C1 s.le c1,C1 s.le c2,C1 s.le c3,?_⟩
   refine s.call (Ky (m:=1+n*m+m) X (id.mono e) ((hs k c).mono (by omega)) (hd.mono (by omega)) hm ?_)
   intro G A2 N c2 J t R h2 d
   refine ⟨_,_,_,_,rfl,s.le_le d t,_,rfl,by omega,by omega,?_⟩
   refine Ag Ua (y:=(⟨G,A2,N,c2⟩:IV)) rfl d E (i:=k) (by omega) ?_
   intro h7 O x7 eo M p
   rw [wiS k (by omega)]
   exact ⟨⟨k+1,J,O,_,by omega,rfl,B0 e t,M,p,by rw [bN];exact C,(F.mono Fz t).set (by omega) R⟩,by simp only [U9];omega⟩
  ·have:k=n:=by omega
   subst this
   exact hK ⟨some ⟨b,0,none⟩,k,k,Q,Bd,W,T⟩ u (B0 q (B0 e s.le)) ⟨rfl,id.mono (B0 e s.le),l,E.rowB.slF s.ole,C,F.mono Fz s.le⟩
def smZ(x y:Nat->Int):Nat->Int
 | 0=>0
 | k+1=>smZ x y k+x k*y k
def smA(x y:Nat->Int):Nat->Int
 | 0=>0
 | k+1=>smA x y k+(x k*y k).natAbs
def B95{x y:Nat->Int}{m w:Nat}(hx:∀ j,j<w->ZB m (x j))(hy:∀ j,j<w->ZB m (y j)):∀ k,k<=w->smA x y k<=k*2^(2*m):=by
 intro k
 induction k with
 | zero=>intro _;simp [smA]
 | succ k ih=>
  intro c
  have b:=ih (by omega)
  have d:=A64 (hx k (by omega)) (hy k (by omega))
  have a:((k+1:Nat):Int)*2^(2*m)=(k:Int)*2^(2*m)+2^(2*m):=by rw [Int.natCast_add,Int.add_mul];simp
  show smA x y k+((x k*y k).natAbs:Int)<=_
  rw [a]
  omega
def C12(x y:Nat->Int):∀ k,((smZ x y k).natAbs:Int)<=smA x y k:=by
 intro k
 induction k with
 | zero=>exact Int.le_refl _
 | succ k ih=>
  show ((smZ x y k+x k*y k).natAbs:Int)<=smA x y k+((x k*y k).natAbs:Int)
  omega
def C3c{x y:Nat->Int}{m w:Nat}(hx:∀ j,j<w->ZB m (x j))(hy:∀ j,j<w->ZB m (y j))(hw:w<=10000):ZB (2*m+14) (smZ x y w):=by
 have b:=B95 hx hy w (aC _)
 have f:=C12 x y w
 have e:(2:Int)^(2*m)=((2^(2*m):Nat):Int):=by simp
 rw [e,<- aM] at b
 have d:w*2^(2*m)<=10000*2^(2*m):=aG _ hw
 have a:2^(2*m+14)=2^(2*m)*16384:=by rw [Nat.pow_add]
 have c:0<2^(2*m):=Nat.pow_pos (by decide)
 unfold ZB
 rw [a]
 omega
def C3d{p q:Nat->Rat}{x y:Nat->Int}{d e:Int}{w:Nat}(hx:∀ j,j<w->(x j:Rat)=p j*d)(hy:∀ j,j<w->(y j:Rat)=q j*e):∀ k,k<=w->(smZ x y k:Rat)=sm k (fun j=>p j*q j)*((d*e:Int):Rat):=by
 intro k
 induction k with
 | zero=>intro _;show ((0:Int):Rat)=0*_;rw [aX];rfl
 | succ k ih=>
  intro a
  show ((smZ x y k+x k*y k:Int):Rat)=(sm k (fun j=>p j*q j)+p k*q k)*((d*e:Int):Rat)
  rw [cQ,ih (by omega),bH d e,bH (x k) (y k),hx k (by omega),hy k (by omega)]
  grind
def A9e{v u:VV}(gl:Gl h)(iv:VQr w h v f)(iu:VQr w h u f2)(hw:w<=10000)(hs:∀ i,i<w->Sz m (f i))(hs2:∀ i,i<w->Sz m (f2 i))(hm1:1<=m)(hm:2*(1+w*m+m)+14<=100000000)
 (hK:∀ q h',h.le h'->RQ h' q (sm w (fun j=>f j*f2 j))->K q.v h'):aV prog A1c #[v.v,u.v] h K:=by
 refine B5o _ _ _ _ _ _ _ _ _ _ _ _ _ _ ?_
 unfold C0b
 obtain ⟨aa,r,C⟩:=iv
 obtain ⟨ac,A,B⟩:=iu
 have c:=Lh (f:=f) w hs
 have e:=Lh (f:=f2) w hs2
 have t:∀ j,j<w->ZB (1+w*m+m) (scl (f j) (Bv f w:Int)):=fun j d=>(B22 (hs j d) c).mono (by omega)
 have s:∀ j,j<w->ZB (1+w*m+m) (scl (f2 j) (Bv f2 w:Int)):=fun j d=>(B22 (hs2 j d) e).mono (by omega)
 refine Gv A7p ?_
 intro bs y
 have Z0:SumS (h.put bs (.cells #[.slice none 0 0,.slice none 0 0] Ku)) h bs Ku 200000001 0 0:=SumS.zero y
 refine ⟨_,rfl,fun L O=>∃ (k:Nat) (g:aH),k<=w/\L=[I (k:Int)]/\h.le g/\SumS O g bs Ku 200000001 (smA (fun j=>scl (f j) (Bv f w:Int)) (fun j=>scl (f2 j) (Bv f2 w:Int)) k) (smZ (fun j=>scl (f j) (Bv f w:Int)) (fun j=>scl (f2 j) (Bv f2 w:Int)) k),fun L _=>w-(iAt L 0).toNat,⟨0,h,by omega,rfl,B5 _,Z0⟩,?_⟩
 rintro z O ⟨k,g,hk,eL,p,Z⟩
 obtain rfl:=sI1 eL
 refine B8 (fun ab=>?_) (fun ad=>?_)
 ·have b:k<w:=by omega
  obtain ⟨a,x1,ea,M,c0,c1⟩:=(C.mono Fz p).zat b
  obtain ⟨W,y1,E,H,S,d1⟩:=(B.mono Fz p).zat b
  refine ⟨a,ea,by omega,by omega,_,_,_,_,C1 Z.le c0,C1 Z.le c1,W,E,by omega,by omega,_,_,_,_,C1 Z.le S,C1 Z.le d1,?_⟩
  have lx:x1.n<=100000000:=ZI.len M (t k b) (by omega)
  have ly:y1.n<=100000000:=ZI.len H (s k b) (by omega)
  have hA:=B95 t s (k+1) b
  have Q:=B2e (m:=1+w*m+m) (k:=k+1) (by omega) (by omega)
  refine Bk Z M H (by omega) (by omega) (N1:=1+w*m+m) (by show smA _ _ (k+1)<_;omega) (by omega) ?_
  intro h3 R l3 Z3
  rw [wiS k (by omega)]
  exact ⟨rfl,⟨k+1,R,by omega,rfl,B0 p l3,Z3⟩,by simp only [U9];omega⟩
 ·have:k=w:=by omega
  subst this
  refine Ng Z (by omega) ?_
  intro sv Av nv cv h5 N z5
  have l:=B0 p (B0 Z.le N)
  refine ⟨_,_,_,_,rfl,N,?_⟩
  refine N3 (m:=1+k*m+m) (r.mono l) (A.mono l) (c.mono (by omega)) (e.mono (by omega)) (by omega) ?_
  intro s6 A6 n6 c6 h6 D z6
  refine ⟨_,_,_,_,rfl,D,?_⟩
  have o:=B0 l D
  have T:∀ j,j<k->(scl (f j) (Bv f k:Int):Rat)=f j*((Bv f k:Int):Rat):=fun j d=>B23 (Int.natCast_dvd_natCast.2 (A0r f k j d))
  have e2:∀ j,j<k->(scl (f2 j) (Bv f2 k:Int):Rat)=f2 j*((Bv f2 k:Int):Rat):=fun j d=>B23 (Int.natCast_dvd_natCast.2 (A0r f2 k j d))
  have es:=C3d T e2 k (aC _)
  have V:=A0q f k
  have X:=A0q f2 k
  have F:((Bv f k:Int)*(Bv f2 k:Int))≠0:=Int.mul_ne_zero (by omega) (by omega)
  have zb:ZB (2*(1+k*m+m)+14) (smZ (fun j=>scl (f j) (Bv f k:Int)) (fun j=>scl (f2 j) (Bv f2 k:Int)) k):=C3c t s (by omega)
  refine T0 (m:=2*(1+k*m+m)+14) (gl.mono o).tz (z5.mono D) z6 zb ((c.mul e).mono (by omega)) (by omega) ?_
  intro q h7 J G
  refine ⟨_,_,_,_,_,_,_,_,rfl,J,hK q h7 (B0 o J) ?_⟩
  have:cM (smZ (fun j=>scl (f j) (Bv f k:Int)) (fun j=>scl (f2 j) (Bv f2 k:Int)) k) ((Bv f k:Int)*(Bv f2 k:Int))=sm k (fun j=>f j*f2 j):=by
   rw [cN,es]
   exact Rat.mul_div_cancel (J6 F)
  rw [this] at G
  exact G
end
def B70:prog.cellsOf My=1/\(prog.info? My).isSome=true:=by constructor<;>kernel_rfl
section
variable {h:aH} {K:VP} {A:Option aP} {cap m rows cols:Nat} {E:Nat->Rat}
def Ri(gl:Gl h)(r:aU RQr h A (rows*cols) E)(hcap:rows*cols<=cap)(hr2:rows<=10000)(hc:1<=cols)(hc2:cols<=10000)(hs:∀ i,i<rows*cols->Sz m (E i))(hm:1+cols*m+m<=6400000000)
 (hK:∀ A' c' h',h.le h'->aU (VQr cols) h' A' rows (A3a E cols)->K (.slice A' rows c') h'):aV prog Jw #[.slice A (rows*cols) cap,I (cols:Int)] h K:=by
 refine A77 _ _ _ _ ?_
 unfold A90
 have ac:rows*cols<=100000000:=by
  have:rows*cols<=10000*10000:=aL hr2 hc2
  omega
 refine Gv (z:=.slice none 0 0) (by kernel_rfl) ?_
 intro q N
 refine ⟨_,rfl,?_⟩
 have s0:=(Sep.refl h).new N (.cells #[.slice none 0 0] My)
 refine s0.call (Yz hc ?_)
 intro v Q O ic W s3
 have bound:∀ k,k<rows->∀ j,j<cols->Sz m (E (k*cols+j)):=fun k hk j hj=>hs _ (O2 hk hj)
 refine ⟨_,rfl,Ug ic hc (by omega) hcap (fun k S=>∃ (p s:aH) (n:List VV) (A1:Option aP) (c1:Nat),Q.le p/\Sep S p s/\(∃ e,s q=some (.cells #[.slice A1 k c1] e))/\bB s Yd A1 c1 n/\A1≠some ⟨q,0,none⟩/\n.length=k/\Row (VQr cols) p n k (A3a E cols)) ?_ ?_ ?_ ?_⟩
 ·exact ⟨Q,_,[],none,0,B5 _,s3,⟨_,C2 _ _ _⟩,OwnSl.nil,by simp,rfl,Row.nil⟩
 ·rintro k S ⟨p,s,n,A1,c1,lg,s1,_⟩
  exact B0 lg s1.le
 ·rintro k f B ⟨p,s,n,A1,c1,d,g,⟨e,a⟩,G,V,o,L⟩
  have X:=bound k B
  have ab:(k+1)*cols<=rows*cols:=aG _ B
  have aa:(k+1)*cols=k*cols+cols:=by rw [aT,bF]
  have C:=B0 O d
  have u:aU RQr h A ((k+1)*cols) E:=by
   have:=r.cut (c:=cap) (l:=0) (k:=(k+1)*cols) (by omega) hcap
   rw [J0] at this
   exact this.congr fun i _=>by rw [aS]
  have t:aU RQr h (H9 A ((k+1)*cols) (k*cols) 4) cols (A3a E cols k):=u.cut (c:=(k+1)*cols) (l:=k*cols) (k:=cols) (by omega) (aC _)
  have cp:f.cell? ⟨q,0,none⟩=some (.slice A1 k c1):=g.cell (by unfold Heap.cell?;simp only [a];rfl)
  refine ⟨_,_,_,rfl,_,_,_,cp,g.call (A69 (gl.mono C) (t.mono I8 C) (by omega) X hm ?_)⟩
  intro w g2 H iw J T
  refine ⟨_,_,_,_,_,_,_,rfl,g.le_le T H,?_⟩
  subst o
  refine OwnSl.push (ty:=My) C5l T G (y:=w) (v:=w.v) rfl (by decide) (by omega) (by omega) (K1:=fun hq=>J.le hq) (fun _ l=>l) ?_
  intro A3 c3 h6 g6 o6 M s6 D kp
  have F:=kp q _ a V
  show wpH _ (aZ _ (.pointer (some (aF ⟨q,0,none⟩ 0))) _) _ _
  refine A20 B70 rfl rfl s6 F.1 (by simp) ?_
  intro h7 o7 s7 R
  exact ⟨g6,o7,n++[w],A3,c3,B0 d (B0 H M),s7,⟨e,by rw [R,C2];simp⟩,D.keep fun b y hb Z=>by rw [R,B9 _ _ (fun e=>F.2 (by rw [<- e];exact hb))];exact Z,F.2,by simp,by
   have:=(Row.push (L.mono (A9y cols) (B0 H M)) (A9y cols _ _ _ _ M iw))
   simpa using this⟩
 ·rintro f ⟨p,s,n,A1,c1,d,g,⟨e,a⟩,G,V,o,L⟩
  have cp:f.cell? ⟨q,0,none⟩=some (.slice A1 rows c1):=g.cell (by unfold Heap.cell?;simp only [a];rfl)
  exact ⟨_,_,_,cp,hK A1 c1 f (B0 O (B0 d g.le)) ⟨n,G.slF g.ole,o,L.mono (A9y cols) g.le⟩⟩
end
section
variable {h:aH} {K:VP} {A B:Option aP} {n n2 cap cap2 m:Nat} {r c r2 c2:Int} {la lb:Nat->List UInt8} {w:QV} {q:Rat}
end
section
variable {h:aH} {K:VP} {A B:Option aP} {n w cap cap2 m:Nat} {f f2:Nat->Rat} {R:Nat->Nat->Rat}
def A5r(hs:∀ i,i<w->Sz m (f i))(hs2:∀ i,i<w->Sz m (f2 i)):∀ k,k<=w->Sz (1+k*(2*m+1)) (sm k (fun j=>f j*f2 j)):=by
 intro k
 induction k with
 | zero=>intro _;exact Sz.zero (by omega)
 | succ k ih=>
  intro c
  have a:=ih (by omega)
  have b:=(hs k (by omega)).mul (hs2 k (by omega))
  have e:1+(k+1)*(2*m+1)=1+k*(2*m+1)+(m+m)+1:=by rw [aT];omega
  rw [e]
  exact a.add b
end
structure VOut where
 n:Nat
 f:Nat->List UInt8
 e:Int
section
variable {h:aH} {K:VP} {A B:Option aP} {n n2 cap cap2 m:Nat} {r c:Int} {la lx:Nat->List UInt8}
end
section
variable {h:aH} {K:VP} {A B:Option aP} {n n2 cap cap2 m:Nat} {r c:Int} {la lx:Nat->List UInt8}
def RowV.vat{w n:Nat}{f:Nat->Nat->Rat}(r:aU (VQr w) h A n f){i:Nat}(hi:i<n):∃ a v,A=some a/\VQr w h v (f i)/\h.cell? (aF (aF a (i*3)) 0)=some (.slice v.A v.n v.c)/\h.cell? (aF (aF a (i*3)) 1)=some (.bool v.s)/\h.cell? (aF (aF a (i*3)) 2)=some (.slice v.B v.bn v.bc):=by
 obtain ⟨a,v,e,q,b⟩:=RowV.at (by decide) r hi
 exact ⟨a,v,e,q,b 0 _ rfl,b 1 _ rfl,b 2 _ rfl⟩
end
def MulO(r c:Int)(n:Nat)(la:Nat->List UInt8)(r2 c2:Int)(n2:Nat)(lb:Nat->List UInt8)(o:MOut):Prop:=
 (¬ (Mx r c n la/\Mx r2 c2 n2 lb)/\o=noM 1)\/(Mx r c n la/\Mx r2 c2 n2 lb/\c≠r2/\o=noM 4)\/(∃ rows mid cols,MOk r c n la rows mid/\MOk r2 c2 n2 lb mid cols/\o=⟨r,c2,rows*cols,fun k=>K9 (sm mid (fun j=>mtx (rvs la) mid (k/cols) j*mtx (rvs lb) cols j (k%cols))),0⟩)
def B02{f f':Nat->Rat}: ∀ n,(∀ i,i<n->f i=f' i)->Bv f n=Bv f' n:=by
 intro n
 induction n with
 | zero=>intro _;rfl
 | succ n ih=>
  intro e
  show Nat.lcm (Bv f n) (f n).den=Nat.lcm (Bv f' n) (f' n).den
  rw [ih fun i a=>e i (by omega),e n (by omega)]
def VQr.congr{h:aH}{w:Nat}{v:VV}{f f':Nat->Rat}(x:VQr w h v f)(e:∀ i,i<w->f i=f' i):VQr w h v f':=by
 have d:Bv f w=Bv f' w:=B02 w e
 obtain ⟨a,b,c⟩:=x
 rw [d] at b c
 exact ⟨a,b,c.congr fun j g=>by rw [e j g]⟩
section
variable {h:aH} {K:VP} {A B:Option aP} {n n2 cap cap2 m:Nat} {r c r2 c2:Int} {la lb:Nat->List UInt8} {E:Nat->Rat}
def A0m{rows cols:Nat}(rv':aU RQr h A (rows*cols) E)(hr:rows<=10000)(hc:cols<=10000)
 (hK:∀ A' c' h' g' o' xs,h.le g'->Sep h' g' o'->bB o' G2 A' c' xs->xs.length=rows*cols->Row RQr g' xs (rows*cols) (fun k=>E (k%rows*cols+k/rows))->K (.slice A' (rows*cols) c') h'):aV prog Ci #[.slice A (rows*cols) cap,I (rows:Int),I (cols:Int)] h K:=by
 refine Xy _ _ _ _ _ ?_
 unfold Wz
 have ac:rows*cols<=10000*10000:=aL hr hc
 refine Q3 A9g (zx:=As) rfl (by omega) (by omega) (by omega) (by omega) ?_
 intro b Z
 simp only [aE]
 refine ⟨_,_,_,rfl,fun L B=>∃ (j:Nat) (g o:aH) (xs:List QV) (A':Option aP) (c':Nat),j<=cols/\L=[.slice A' (j*rows) c',I (j:Int)]/\h.le g/\Sep B g o/\bB o G2 A' c' xs/\xs.length=j*rows/\Row RQr g xs (j*rows) (fun k=>E (k%rows*cols+k/rows)),fun L _=>cols-(iAt L 1).toNat,
  ⟨0,h,U1.put b _,[],some ⟨b,0,none⟩,rows*cols,by omega,by rw [aY];rfl,B5 _,Cu Z,Rb,by simp,by rw [aY];exact Row.nil⟩,?_⟩
 rintro W rn rc z B ⟨j,g,o,xs,A',c',hj,N,S,s,Q,m,M⟩
 obtain ⟨⟨rfl,rfl,rfl⟩,rfl⟩:=sI2 N
 refine B8 (fun ab=>?_) (fun ad=>?_)
 ·have q:j<cols:=by omega
  have r:(j+1)*rows=j*rows+rows:=by rw [aT,bF]
  have G:(j+1)*rows<=cols*rows:=aG _ q
  rw [aR cols rows] at G
  refine ⟨fun L B=>∃ (i:Nat) (g o:aH) (xs:List QV) (A':Option aP) (c':Nat),i<=rows/\L=[.slice A' (j*rows+i) c',I (i:Int)]/\h.le g/\Sep B g o/\bB o G2 A' c' xs/\xs.length=j*rows+i/\Row RQr g xs (j*rows+i) (fun k=>E (k%rows*cols+k/rows)),fun L _=>rows-(iAt L 1).toNat,
   ⟨0,g,o,xs,W,rc,by omega,rfl,S,s,Q,m,M⟩,?_⟩
  rintro qA qn qc z aa ⟨i,g2,X,C,A2,c2,hi,N,d,p,t,c,l⟩
  obtain ⟨⟨rfl,rfl,rfl⟩,rfl⟩:=sI2 N
  refine B8 (fun T=>?_) (fun V=>?_)
  ·have e:i<rows:=by omega
   have u:=O2 e q
   have ew:B7 (B7 ((i:Int)*(cols:Int))+(j:Int))=((i*cols+j:Nat):Int):=by
    rw [<- aM,K3 (by omega)]
    exact K3 (n:=i*cols+j) (by omega)
   rw [ew]
   obtain ⟨a,w,ea,iw,c0,c1,J,c3⟩:=(rv'.mono I8 d).qat u
   refine ⟨a,ea,by omega,by omega,_,_,_,_,_,_,_,_,C1 p.le c0,C1 p.le c1,C1 p.le J,C1 p.le c3,?_⟩
   refine L7 (ty:=T8) A9g p t c.symm (y:=w) rfl (by decide) (by rw [c];omega) (by rw [c];omega) ?_
   intro A3 c3 h3 F o3 H s3 D _
   rw [c,wiS i (by omega)]
   refine ⟨⟨i+1,F,o3,_,A3,c3,by omega,by rw [cL],B0 d H,s3,D,by rw [aD,c];rfl,?_⟩,?_⟩
   ·have O:=Row.push (R:=RQr) (g:=F) (xs:=C) (f:=fun k=>E (k%rows*cols+k/rows)) (by rw [c];exact l.mono I8 H) (w:=w) (by
     show RQ F w (E (C.length%rows*cols+C.length/rows))
     rw [c,bV (j*rows) i,aO,bC e,aW _ _ (by omega),bD e,aS]
     exact I8 _ _ _ _ H iw)
    rw [aD,c] at O
    exact O
   ·show rows-((i+1:Nat):Int).toNat<rows-(i:Int).toNat
    omega
  ·have:i=rows:=by omega
   subst this
   rw [wiS j (by omega),<- r]
   rw [<- r] at c l
   refine ⟨⟨j+1,g2,X,C,qA,qc,by omega,rfl,d,p,t,c,l⟩,?_⟩
   show cols-((j+1:Nat):Int).toNat<cols-(j:Int).toNat
   omega
 ·have:j=cols:=by omega
  subst this
  rw [aR j rows] at m M ⊢
  exact hK W rc B g o xs S s Q m M
def A3o{rows cols:Nat}(rv':aU RQr h A (rows*cols) E)(hr:rows<=10000)(hc:cols<=10000)
 (hK:∀ A' c' h',h.le h'->rows*cols<=c'->aU RQr h' A' (rows*cols) (fun k=>E (k%rows*cols+k/rows))->K (.slice A' (rows*cols) c') h'):aV prog Ci #[.slice A (rows*cols) cap,I (rows:Int),I (cols:Int)] h K:=
 A0m rv' hr hc fun A' c' h' _ _ d e s b a c=>hK A' c' h' (B0 e s.le) (by have:=b.1;omega) ⟨d,b.slF s.ole,a,c.mono I8 s.le⟩
def Yp{d:Nat}(gl:Gl h)(ra:aU SSr h A n la)(rb:aU SSr h B n2 lb)(hn:n<=1000000)(hn2:n2<=1000000)(hl:LL n la)(hl2:LL n2 lb)(hs:∀ i,i<n->Sz m (rv (la i)))(hs2:∀ i,i<n2->Sz m (rv (lb i)))(hm1:1<=m)(hd:∀ rows mid,MOk r c n la rows mid->mid<=d)(hm:2*(1+d*(2*m+1)+2*m)+14<=40000000)
 (hK:∀ o,MulO r c n la r2 c2 n2 lb o->∀ A' cap' h',h.le h'->aU SSr h' A' o.n o.f->K (.tuple #[Hb o.r o.c A' o.n cap',I o.e]) h'):aV prog A8d #[Hb r c A n cap,Hb r2 c2 B n2 cap2] h K:=by
 refine C2o _ _ _ _ _ _ _ _ _ _ ?_
 unfold C7j
 have X:¬ (Mx r c n la/\Mx r2 c2 n2 lb)->∀ h',h.le h'->K (.tuple #[Hb 0 0 none 0 0,I 1]) h':=fun hx h' l=>hK (noM 1) (.inl ⟨hx,rfl⟩) none 0 h' l RowV.nil
 refine V3 gl ra hn hl (fun rows mid mk b1 h1 own=>?_) (fun N h1 J=>⟨_,_,_,_,rfl,?_⟩)
 ·have J:=own.le
  refine ⟨_,_,_,_,rfl,V3 (gl.mono J) (rb.mono O3 J) hn2 hl2 (fun C p E b2 V F=>⟨_,_,_,_,rfl,Br.nt (Br.nt ?_)⟩) (fun N V l2=>⟨_,_,_,_,rfl,Br.nt (A2g (X (fun x=>N x.2) V (B0 J l2)))⟩)⟩
  have l2:=F.le
  have S:=B0 J l2
  refine I4 (fun e=>hK (noM 4) (.inr (.inl ⟨⟨_,_,mk⟩,⟨_,_,E⟩,e,rfl⟩)) none 0 V S RowV.nil) (fun e=>?_)
  obtain rfl:C=mid:=by have:=mk.ec;have:=E.er;omega
  have ah:=hK _ (.inr (.inr ⟨rows,C,p,mk,E,rfl⟩))
  have:=mk.r1;have:=mk.r2;have:=mk.c1;have:=mk.c2;have:=E.c1;have:=E.c2
  obtain ⟨rfl,rfl,_,_,_,_,rfl,_⟩:=id mk
  obtain ⟨rfl,rfl,_,_,_,_,rfl,_⟩:=id E
  clear e
  have ms:=B2x hs
  have af:=B2x hs2
  have ad:=hd _ _ mk
  have a3:C*(2*m+1)<=d*(2*m+1):=aG _ ad
  have av:C*m<=d*m:=aG _ ad
  have aw:d*(2*m+1)=2*(d*m)+d:=by rw [Nat.mul_add,Nat.mul_one,Nat.mul_left_comm]
  have a1:rows*p<=64*64:=aL (by omega) (by omega)
  refine Ri (m:=m) (gl.mono S) ((own.vis I8).mono I8 l2) (aC _) (by omega) (by omega) (by omega) hs (by omega) ?_
  intro A3 c3 h3 l3 am
  refine ⟨_,_,_,rfl,?_⟩
  refine A3o ((F.vis I8).mono I8 l3) (by omega) (by omega) ?_
  intro A4 c4 h4 l4 aa ak
  refine ⟨_,_,_,rfl,l4,?_⟩
  have ab:=B0 S (B0 l3 l4)
  rw [aR C p] at ak aa ⊢
  refine Ri (m:=m) (gl.mono ab) ak aa (by omega) (by omega) (by omega) (fun i Z=>?_) (by omega) ?_
  ·have ar:i/C<p:=aJ (by rw [aR];exact Z)
   exact hs2 _ (O2 (bJ i (show 0<C by omega)) ar)
  intro A5 c5 h5 l5 Q
  have au:aU (VQr C) h5 A5 p (fun j i=>mtx (rvs lb) p i j):=by
   obtain ⟨vs,sv,el,rr⟩:=Q
   refine ⟨vs,sv,el,fun j hj=>?_⟩
   obtain ⟨w,e1,hw⟩:=rr j hj
   refine ⟨w,e1,?_⟩
   have:=VQr.congr (f':=fun i=>mtx (rvs lb) p i j) hw fun i Z=>?_
   ·exact this
   ·show rvs lb ((j*C+i)%C*p+(j*C+i)/C)=rvs lb (i*p+j)
    rw [bV (j*C) i,aO,bC Z,aW _ _ (by omega),bD Z,aS]
  clear Q
  refine ⟨_,_,_,rfl,l5,?_⟩
  have ae:=B0 ab l5
  have aq:=B0 l4 l5
  have al:B7 ((rows:Int)*(p:Int))=((rows*p:Nat):Int):=by rw [<- aM];exact K3 (by omega)
  rw [al]
  refine Q3 A9g (zx:=As) rfl (by omega) (by omega) (by omega) (by omega) ?_
  intro b hb
  simp only [aE]
  have sz:∀ i j,i<rows->j<p->Sz (1+d*(2*m+1)) (sm C (fun t=>mtx (rvs la) C i t*mtx (rvs lb) p t j)):=fun i j Z hj=>(A5r (f:=fun t=>mtx (rvs la) C i t) (f2:=fun t=>mtx (rvs lb) p t j) (fun t M=>ms i t Z M) (fun t M=>af t j M hj) C (aC _)).mono (by omega)
  refine ⟨_,_,_,rfl,fun L hp=>∃ (k:Nat) (g o:aH) (xs:List QV) (A':Option aP) (c':Nat),k<=rows/\L=[.slice A' (k*p) c',I (k:Int)]/\h5.le g/\Sep hp g o/\bB o G2 A' c' xs/\xs.length=k*p/\Row RQr g xs (k*p) (fun k=>sm C (fun j=>mtx (rvs la) C (k/p) j*mtx (rvs lb) p j (k%p))),fun L _=>rows-(iAt L 1).toNat,
   ⟨0,h5,U1.put b _,[],some ⟨b,0,none⟩,rows*p,by omega,by rw [aY];rfl,B5 _,Cu hb,Rb,by simp,by rw [aY];exact Row.nil⟩,?_⟩
  rintro rA rn rc z hp ⟨k,g,o,xs,A',c',hk,eL,lg,s,ow,ac,rr⟩
  obtain ⟨⟨rfl,rfl,rfl⟩,rfl⟩:=sI2 eL
  refine B8 (fun a0=>?_) (fun a2=>?_)
  ·have T:k<rows:=by omega
   have ai:(k+1)*p=k*p+p:=by rw [aT,bF]
   have a4:(k+1)*p<=rows*p:=aG _ T
   obtain ⟨a,v,ea,iv,c0,c1,ap⟩:=(am.mono (A9y C) (B0 aq lg)).vat T
   refine ⟨a,ea,by omega,by omega,_,_,_,_,_,_,_,C1 s.le c0,C1 s.le c1,C1 s.le ap,?_⟩
   refine ⟨fun L hp=>∃ (j:Nat) (g' o:aH) (xs:List QV) (A':Option aP) (c':Nat),j<=p/\L=[.slice A' (k*p+j) c',I (j:Int)]/\g.le g'/\Sep hp g' o/\bB o G2 A' c' xs/\xs.length=k*p+j/\Row RQr g' xs (k*p+j) (fun k=>sm C (fun j=>mtx (rvs la) C (k/p) j*mtx (rvs lb) p j (k%p))),fun L _=>p-(iAt L 1).toNat,
    ⟨0,g,o,xs,rA,rc,by omega,rfl,B5 _,s,ow,ac,rr⟩,?_⟩
   rintro qA qn qc z az ⟨j,g2,o2,ys,A2,c2,hj,eL,G,s2,aj,D,W⟩
   obtain ⟨⟨rfl,rfl,rfl⟩,rfl⟩:=sI2 eL
   refine B8 (fun ax=>?_) (fun ay=>?_)
   ·have H:j<p:=by omega
    obtain ⟨a6,u,ao,iu,d0,d1,d2⟩:=(au.mono (A9y C) (B0 lg G)).vat H
    refine ⟨a6,ao,by omega,by omega,_,_,_,_,_,_,_,C1 s2.le d0,C1 s2.le d1,C1 s2.le d2,?_⟩
    refine s2.call (A9e (m:=m) (v:=v) (u:=u) (gl.mono (B0 ae (B0 lg G))) (A9y C _ _ _ _ G iv) iu (by omega) (fun t M=>ms k t T M) (fun t M=>af t j M H) hm1 (by omega) ?_)
    intro q g7 l7 iq h7 s7
    refine ⟨_,_,_,_,_,_,_,_,rfl,?_⟩
    refine L7 (ty:=T8) A9g s7 aj D.symm (y:=q) rfl (by decide) (by rw [D];omega) (by rw [D];omega) ?_
    intro A8 c8 h8 g8 o8 l8 s8 an _
    rw [D,wiS j (by omega)]
    refine ⟨⟨j+1,g8,o8,_,A8,c8,by omega,by rw [cL],B0 G (B0 l7 l8),s8,an,by rw [aD,D];rfl,?_⟩,?_⟩
    ·have rB:=Row.push (R:=RQr) (g:=g8) (xs:=ys) (f:=fun k=>sm C (fun j=>mtx (rvs la) C (k/p) j*mtx (rvs lb) p j (k%p))) (by rw [D];exact W.mono I8 (B0 l7 l8)) (w:=q) (by
      show RQ g8 q (sm C (fun t=>mtx (rvs la) C (ys.length/p) t*mtx (rvs lb) p t (ys.length%p)))
      rw [D,bV (k*p) j,aO,bC H,aW _ _ (by omega),bD H,aS]
      exact I8 _ _ _ _ l8 iq)
     rw [aD,D] at rB
     exact rB
    ·show p-((j+1:Nat):Int).toNat<p-(j:Int).toNat
     omega
   ·have:j=p:=by omega
    subst this
    rw [wiS k (by omega),<- ai]
    rw [<- ai] at D W
    refine ⟨⟨k+1,g2,o2,ys,qA,qc,by omega,rfl,B0 lg G,s2,aj,D,W⟩,?_⟩
    show rows-((k+1:Nat):Int).toNat<rows-(k:Int).toNat
    omega
  ·have:k=rows:=by omega
   subst this
   have ag:=B0 ae (B0 lg s.le)
   have rq:aU RQr hp rA (k*p) (fun t=>sm C (fun j=>mtx (rvs la) C (t/p) j*mtx (rvs lb) p j (t%p))):=⟨xs,ow.slF s.ole,ac,rr.mono I8 s.le⟩
   refine Lb (m:=1+d*(2*m+1)) (gl.mono ag) rq (by omega) (fun t M=>?_) (by omega) ?_
   ·exact sz _ _ (aJ (by rw [aR];exact M)) (bJ t (show 0<p by omega))
   intro b9 h9 O
   exact ⟨_,_,_,_,_,rfl,ah _ _ h9 (B0 ag O.le) (O.vis O3)⟩
 ·refine V3 (gl.mono J) (rb.mono O3 J) hn2 hl2 (fun C p E b2 V F=>⟨_,_,_,_,rfl,A2g (X (fun x=>N x.1) V (B0 J F.le))⟩) (fun _ V l2=>⟨_,_,_,_,rfl,A2g (X (fun x=>N x.1) V (B0 J l2))⟩)
end
def Fx(P Q:Nat->Nat->Rat)(w i k j:Nat):Nat->Nat->Rat:=fun a b=>if a<i then sm w (fun t=>P a t*Q t b) else if a=i then (if b<j then sm (k+1) (fun t=>P a t*Q t b) else sm k (fun t=>P a t*Q t b)) else 0
def A65(P Q:Nat->Nat->Rat)(w a b:Nat):Fx P Q w 0 0 0 a b=0:=by
 unfold Fx
 rw [iN (bM a),iN (bM b)]
 split<;>rfl
def A9t(P Q:Nat->Nat->Rat)(w i k j a b:Nat):A04 (Fx P Q w i k j) i j (sm k (fun t=>P i t*Q t j)+P i k*Q k j) a b=Fx P Q w i k (j+1) a b:=by
 unfold A04 Fx
 by_cases e:a=i/\b=j
 ·obtain ⟨rfl,rfl⟩:=e
  rw [iP ⟨rfl,rfl⟩,iN (bW a),iP rfl,iP (Nat.lt_succ_self b)]
  rfl
 ·rw [iN e]
  by_cases c:a<i
  ·rw [iP c,iP c]
  ·rw [iN c,iN c]
   by_cases d:a=i
   ·rw [iP d,iP d]
    by_cases f:b<j
    ·rw [iP f,iP (by omega)]
    ·rw [iN f,iN (by omega)]
   ·rw [iN d,iN d]
def A9u(P Q:Nat->Nat->Rat){w i k j c:Nat}(h:j=c\/P i k=0){a b:Nat}(hb:b<c):Fx P Q w i k j a b=Fx P Q w i (k+1) 0 a b:=by
 unfold Fx
 by_cases d:a<i
 ·rw [iP d,iP d]
 ·rw [iN d,iN d]
  by_cases e:a=i
  ·subst e
   rw [iP rfl,iP rfl,iN (bM b)]
   by_cases f:b<j
   ·rw [iP f]
   ·rw [iN f]
    rcases h with h|h
    ·omega
    ·show _=sm k (fun t=>P a t*Q t b)+P a k*Q k b
     rw [h,aX,aN]
  ·rw [iN e,iN e]
def B2c(P Q:Nat->Nat->Rat)(w i a b:Nat):Fx P Q w i w 0 a b=Fx P Q w (i+1) 0 0 a b:=by
 unfold Fx
 by_cases c:a<i
 ·rw [iP c,iP (by omega)]
 ·rw [iN c]
  by_cases d:a=i
  ·rw [iP d,iN (bM b),iP (by omega)]
  ·rw [iN d,iN (by omega)]
   split
   ·rw [iN (bM b)];rfl
   ·rfl
section
variable {h:aH} {K:VP} {A B:Option aP} {n n2 cap cap2 m w cols:Nat} {r c r2 c2:Int} {la lb:Nat->List UInt8} {P Q:Nat->Nat->Rat}
def Rp(ra:cD h A n w P)(rb:cD h B w cols Q)(hn1:1<=n)(hn:n<=10000)(hw1:1<=w)(hw:w<=10000)(hc1:1<=cols)(hc:cols<=10000)(hs:∀ i j,i<n->j<w->Sz m (P i j))(hs2:∀ i j,i<w->j<cols->Sz m (Q i j))(hm:1+w*(2*m+1)+2*m<=400000000)
 (hK:∀ h' g' o' bo rb,h.le g'->Mt h' g' o' bo rb n cols (fun a b=>sm w (fun t=>P a t*Q t b))->K (.slice (some ⟨bo,0,none⟩) n n) h'):aV prog Jz #[.slice A n cap,.slice B w cap2] h K:=by
 refine B5z _ _ _ _ _ _ ?_
 unfold C0j
 obtain ⟨aB,sB,eB,F,ak,y,_⟩:=rb.at (i:=0) (by omega)
 refine ⟨aB,eB,by omega,by omega,_,_,_,y,?_⟩
 rw [F]
 refine Gc hn hc ?_
 intro h1 g1 o1 bo l l1 t1
 refine ⟨_,_,_,rfl,fun L s=>∃ (i:Nat) (g o:aH),i<=n/\L=[I (i:Int)]/\h.le g/\Mt s g o bo l n cols (Fx P Q w i 0 0),fun L _=>n-(iAt L 0).toNat,⟨0,g1,o1,by omega,rfl,l1,t1.congr fun a b _ _=>(A65 P Q w a b).symm⟩,?_⟩
 rintro z s ⟨i,g,o,hi,eL,lg,t⟩
 obtain rfl:=sI1 eL
 refine B8 (fun af=>?_) (fun ag=>?_)
 ·have d:i<n:=by omega
  obtain ⟨a1,s1,C,f1,f2,hc1,u⟩:=ra.at d
  refine ⟨fun L s=>∃ (k:Nat) (g o:aH),k<=w/\L=[I (k:Int)]/\h.le g/\Mt s g o bo l n cols (Fx P Q w i k 0),fun L _=>w-(iAt L 0).toNat,⟨0,g,o,by omega,rfl,lg,t⟩,?_⟩
  rintro z ae ⟨k,X,o2,hk,O,G,t2⟩
  obtain rfl:=sI1 O
  refine B8 (fun ab=>?_) (fun ad=>?_)
  ·have p:k<w:=by omega
   obtain ⟨a2,s2,V,f3,f4,T,E⟩:=rb.at p
   refine ⟨fun L s=>∃ (j:Nat) (g o:aH),j<=cols/\L=[I (j:Int)]/\h.le g/\Mt s g o bo l n cols (Fx P Q w i k j),fun L _=>cols-(iAt L 0).toNat,⟨0,X,o2,by omega,rfl,G,t2⟩,?_⟩
   rintro z R ⟨j,g3,o3,hj,S,q,c⟩
   obtain rfl:=sI1 S
   have r:=B0 q c.sep.le
   have next:(j=cols\/P i k=0)->((∃ (k':Nat) (g o:aH),k'<=w/\[I (B7 ((k:Int)+1))]=[I (k':Int)]/\h.le g/\Mt R g o bo l n cols (Fx P Q w i k' 0))/\w-(iAt [I (B7 ((k:Int)+1))] 0).toNat<w-(iAt [I (k:Int)] 0).toNat):=by
    intro hx
    rw [wiS k (by omega)]
    exact ⟨⟨k+1,g3,o3,by omega,rfl,q,c.congr fun a b _ hb=>A9u P Q hx hb⟩,by simp only [U9];omega⟩
   refine ⟨aB,eB,by omega,by omega,_,_,_,C1 r y,?_⟩
   rw [F]
   refine B8 (fun aa=>?_) (fun ac=>next (.inl (by omega)))
   have e:j<cols:=by omega
   obtain ⟨Z,w5,e5,n5,c0,c1,D,c3⟩:=(u.mono V8 q).qat p
   obtain ⟨a6,w6,e6,n6,d0,d1,d2,d3⟩:=(E.mono V8 q).qat e
   obtain ⟨cc,aj,hh⟩:=c.head d
   obtain ⟨x,ix,x0,x1,x2,x3⟩:=c.elem d e
   refine ⟨a1,C,by omega,by omega,_,_,_,C1 r hc1,Z,e5,by omega,by omega,_,_,_,_,_,_,_,_,C1 c.sep.le c0,C1 c.sep.le c1,C1 c.sep.le D,C1 c.sep.le c3,?_⟩
   refine Q7 (NQ.mono c.sep.le n5) ⟨_,rfl,I4 (fun ah=>?_) (fun W=>next (.inr (by rw [cX] at W;exact Rat.num_eq_zero.1 W)))⟩
   refine ⟨_,rfl,by omega,by omega,_,_,_,c.sep.cell hh,_,rfl,by omega,by omega,_,_,_,c.sep.cell hh,_,rfl,by omega,by omega,_,_,_,_,_,_,_,_,c.sep.cell x0,c.sep.cell x1,c.sep.cell x2,c.sep.cell x3,a1,C,by omega,by omega,_,_,_,C1 r hc1,Z,e5,by omega,by omega,_,_,_,_,_,_,_,_,C1 c.sep.le c0,C1 c.sep.le c1,C1 c.sep.le D,C1 c.sep.le c3,a2,V,by omega,by omega,_,_,_,C1 r T,a6,e6,by omega,by omega,_,_,_,_,_,_,_,_,C1 c.sep.le d0,C1 c.sep.le d1,C1 c.sep.le d2,C1 c.sep.le d3,?_⟩
   refine c.sep.call (Ia (a:=w5) (b:=w6) n5 n6 (hs i k d p) (hs2 k j p e) (by omega) ?_)
   intro w7 g7 H i7 h7 N
   refine ⟨_,_,_,_,_,_,_,_,rfl,c.sep.le_le N H,?_⟩
   have ev:Fx P Q w i k j i j=sm k (fun t=>P i t*Q t j):=by
    unfold Fx
    rw [iN (bW i),iP rfl,iN (bW j)]
   rw [ev] at ix
   have ai:k*(2*m+1)<=w*(2*m+1):=aG _ hk
   refine N.call (No (a:=x) (b:=w7) (m:=1+k*(2*m+1)+2*m) (NQ.mono H ix) i7 ((A5r (f:=fun t=>P i t) (f2:=fun t=>Q t j) (fun t M=>hs i t d M) (fun t M=>hs2 t j M e) k hk).mono (by omega)) (((hs i k d p).mul (hs2 k j p e)).mono (by omega)) (by omega) ?_)
   intro w8 g8 J i8 h8 s8
   have t8:Mt h8 g8 o3 bo l n cols (Fx P Q w i k j):=c.next s8 (B0 H J)
   refine ⟨_,_,_,_,_,_,_,_,rfl,N.le_le s8 J,_,rfl,by omega,by omega,?_⟩
   refine t8.store d e i8 ?_
   intro h9 o9 t9 _
   rw [wiS j (by omega)]
   exact ⟨⟨j+1,g8,o9,by omega,rfl,B0 q (B0 H J),t9.congr fun a b _ _=>A9t P Q w i k j a b⟩,by simp only [U9];omega⟩
  ·have:k=w:=by omega
   subst this
   rw [wiS i (by omega)]
   exact ⟨⟨i+1,X,o2,by omega,rfl,G,t2.congr fun a b _ _=>B2c P Q k i a b⟩,by simp only [U9];omega⟩
 ·have:i=n:=by omega
  subst this
  exact hK s g o bo l lg (t.congr fun a b ha _=>by unfold Fx;rw [iP ha])
def Uy(ra:cD h A n w P)(rb:cD h B w cols Q)(hn1:1<=n)(hn:n<=10000)(hw1:1<=w)(hw:w<=10000)(hc1:1<=cols)(hc:cols<=10000)(hs:∀ i j,i<n->j<w->Sz m (P i j))(hs2:∀ i j,i<w->j<cols->Sz m (Q i j))(hm:1+w*(2*m+1)+2*m<=400000000)
 (hK:∀ bo h',h.le h'->cD h' (some ⟨bo,0,none⟩) n cols (fun a b=>sm w (fun t=>P a t*Q t b))->K (.slice (some ⟨bo,0,none⟩) n n) h'):aV prog Jz #[.slice A n cap,.slice B w cap2] h K:=
 Rp ra rb hn1 hn hw1 hw hc1 hc hs hs2 hm fun h' c _ bo _ l t=>hK bo h' (B0 l t.sep.le) t.rowsV
end
def unP(k:Nat):Nat->Nat->Rat:=fun a b=>if a=b/\a<k then 1 else 0
def inR(bo:Nat)(rb:Nat->Nat)(n x:Nat):Prop:=x=bo\/∃ i,i<n/\x=rb i
def Mt.blk{h g o:aH}{bo n w:Nat}{rb:Nat->Nat}{M:Nat->Nat->Rat}(t:Mt h g o bo rb n w M){x:Nat}(hx:inR bo rb n x):∃ y,o x=some y:=by
 obtain ⟨b,c⟩:=t.own
 rcases hx with rfl|⟨i,a,rfl⟩
 ·exact b
 ·exact c i a
section
variable {h:aH} {K:VP} {n:Nat}
def A6g(hn:n<=10000)
 (hK:∀ h' g' o' bo rb,h.le g'->Mt h' g' o' bo rb n n (fun a b=>if a=b then 1 else 0)->K (.slice (some ⟨bo,0,none⟩) n n) h'):aV prog Vi #[I (n:Int)] h K:=by
 refine A95 _ ?_
 unfold C2q
 refine Gc hn hn ?_
 intro G q C bo rb y t1
 refine ⟨_,_,_,rfl,fun L f=>∃ (k:Nat) (g o:aH),k<=n/\L=[I (k:Int)]/\h.le g/\Mt f g o bo rb n n (unP k),fun L _=>n-(iAt L 0).toNat,⟨0,q,C,by omega,rfl,y,t1.congr fun a b _ _=>by unfold unP;rw [iN (by omega)]⟩,?_⟩
 rintro z f ⟨k,g,o,J,B,l,t⟩
 obtain rfl:=sI1 B
 refine B8 (fun u=>?_) (fun E=>?_)
 ·have c:k<n:=by omega
  obtain ⟨F,w,r⟩:=t.head c
  refine ⟨_,rfl,by omega,by omega,_,_,_,t.sep.cell r,?_⟩
  refine t.sep.call (B2a ⟨by omega,by omega⟩ ?_)
  intro N A d i M j
  have one:((1:Int):Rat)=1:=rfl
  rw [one] at i
  refine ⟨_,_,_,_,_,_,_,_,rfl,t.sep.le_le j d,_,rfl,by omega,by omega,?_⟩
  refine (t.next j d).store c c i ?_
  intro H p s _
  rw [wiS k (by omega)]
  refine ⟨⟨k+1,A,p,by omega,rfl,B0 l d,s.congr fun a b _ _=>?_⟩,by simp only [U9];omega⟩
  unfold A04 unP
  by_cases e:a=k/\b=k
  ·rw [iP e,iP (by omega)]
  ·rw [iN e]
   by_cases m:a=b/\a<k
   ·rw [iP m,iP (by omega)]
   ·rw [iN m,iN (by omega)]
 ·have:k=n:=by omega
  subst this
  exact hK f g o bo rb l (t.congr fun a b D _=>by
   unfold unP
   by_cases e:a=b
   ·rw [iP ⟨e,D⟩,iP e]
   ·rw [iN (fun x=>e x.1),iN e])
end
structure Gd (h g o:aH) (ba:Nat) (ra:Nat->Nat) (bl:Nat) (rl:Nat->Nat) (n:Nat) (P L:Nat->Nat->Rat) (A:Option aP) (c k:Nat) (D:Nat->Rat):Prop where
 a:Mt h g o ba ra n n P
 l:Mt h g o bl rl n n L
 d:∃ xs:List QV,bB o E7 A c xs/\xs.length=k/\Row NQr g xs k D
 al:∀ x,inR ba ra n x->¬ inR bl rl n x
 ad:∀ x,A=some ⟨x,0,none⟩->¬ inR ba ra n x/\¬ inR bl rl n x
section
variable {h g o:aH} {ba bl n c k:Nat} {ra rl:Nat->Nat} {P L:Nat->Nat->Rat} {A:Option aP} {D:Nat->Rat}
def Gd.next(X:Gd h g o ba ra bl rl n P L A c k D){h' g':aH}(s:Sep h' g' o)(l:g.le g'):Gd h' g' o ba ra bl rl n P L A c k D:=by
 obtain ⟨b,f,e,q⟩:=X.d
 exact ⟨X.a.next s l,X.l.next s l,⟨b,f,e,q.mono V8 l⟩,X.al,X.ad⟩
def Gd.congr(X:Gd h g o ba ra bl rl n P L A c k D){P' L':Nat->Nat->Rat}(e1:∀ i j,i<n->j<n->P i j=P' i j)(e2:∀ i j,i<n->j<n->L i j=L' i j):Gd h g o ba ra bl rl n P' L' A c k D:=⟨X.a.congr e1,X.l.congr e2,X.d,X.al,X.ad⟩
def Gd.storeA(X:Gd h g o ba ra bl rl n P L A c k D){i j:Nat}(hi:i<n)(hj:j<n){x:QV}{q:Rat}(hx:NQ g x q){K:Unit->aH->Prop}
 (y:∀ h' o',Gd h' g o' ba ra bl rl n (A04 P i j q) L A c k D->K () h'):wpH prog (aZ E7 (.pointer (some (aF ⟨ra i,0,none⟩ (j*4)))) x.v) K h:=by
 refine X.a.store hi hj hx ?_
 intro h' o' m ko
 have p:∀ y,¬ inR ba ra n y->o' y=o y:=fun y f=>ko y (fun e=>f (.inr ⟨i,hi,e⟩))
 obtain ⟨s,u,e,r⟩:=X.d
 exact y h' o' ⟨m,X.l.keep m.sep (B5 _) (fun y z e f=>by rw [p y (fun t=>X.al y t f)];exact e),⟨s,u.keep fun b x w hx=>by rw [p b (X.ad b w).1];exact hx,e,r⟩,X.al,X.ad⟩
def Gd.storeL(X:Gd h g o ba ra bl rl n P L A c k D){i j:Nat}(hi:i<n)(hj:j<n){x:QV}{q:Rat}(hx:NQ g x q){K:Unit->aH->Prop}
 (y:∀ h' o',Gd h' g o' ba ra bl rl n P (A04 L i j q) A c k D->K () h'):wpH prog (aZ E7 (.pointer (some (aF ⟨rl i,0,none⟩ (j*4)))) x.v) K h:=by
 refine X.l.store hi hj hx ?_
 intro h' o' m ko
 have p:∀ y,¬ inR bl rl n y->o' y=o y:=fun y f=>ko y (fun e=>f (.inr ⟨i,hi,e⟩))
 obtain ⟨s,t,e,r⟩:=X.d
 exact y h' o' ⟨X.a.keep m.sep (B5 _) (fun y z e f=>by rw [p y (X.al y f)];exact e),m,⟨s,t.keep fun b x u hx=>by rw [p b (X.ad b u).2];exact hx,e,r⟩,X.al,X.ad⟩
def Gd.push(X:Gd h g o ba ra bl rl n P L A c k D)(hk:k<=10000){w:QV}{q:Rat}(hw:NQ g w q){K:Option aP->Nat->Nat->aH->Prop}
 (y:∀ A' c' h' g' o',g.le g'->Gd h' g' o' ba ra bl rl n P L A' c' (k+1) (fun i=>if i=k then q else D i)->K A' (k+1) c' h'):
 wpH prog (cO K4 1 #[(0,w.v)]) (fun v' hp=>∃ (B:Option aP) (m d:Nat),v'= .slice B m d/\wpH prog (bY #[K4,K4] K4 #[.slice A k c,.slice B m d]) (fun v1 hp1=>∃ (A':Option aP) (n' c':Nat),v1= .slice A' n' c'/\K A' n' c' hp1) hp) h:=by
 obtain ⟨xs,G,e,F⟩:=X.d
 refine L7 (n:=k) Sg X.a.sep G e.symm (y:=w) rfl (by decide) (by omega) (by omega) ?_
 intro A' c' h' g' o' p C E ko
 have s:∀ x,(inR ba ra n x\/inR bl rl n x)->A≠some ⟨x,0,none⟩:=fun x j t=>by
  obtain ⟨H,J⟩:=X.ad x t
  rcases j with j|j
  ·exact H j
  ·exact J j
 rw [e]
 refine y A' c' h' g' o' p ⟨X.a.keep C p (fun x z j b=>(ko x z j (s x (.inl b))).1),X.l.keep C p (fun x z j b=>(ko x z j (s x (.inr b))).1),⟨_,E,by rw [aD,e];rfl,?_⟩,X.al,fun x t=>⟨fun b=>?_,fun b=>?_⟩⟩
 ·have r:=Row.push (R:=NQr) (g:=g') (xs:=xs) (f:=fun i=>if i=k then q else D i) (w:=w) (by
   rw [e]
   exact (F.mono V8 p).congr fun i b=>by rw [iN (by omega)]) (by rw [e,iP rfl];exact NQ.mono p hw)
  rw [aD,e] at r
  exact r
 ·obtain ⟨z,u⟩:=X.a.blk b
  exact (ko x z u (s x (.inl b))).2 t
 ·obtain ⟨z,u⟩:=X.l.blk b
  exact (ko x z u (s x (.inr b))).2 t
end
def stA(A:Nat->Nat->Rat)(k i j:Nat):Nat->Nat->Rat:=fun a b=>if k<b/\((k<a/\a<i)\/(a=i/\b<j)) then ldA A (k+1) a b else ldA A k a b
def stL(A:Nat->Nat->Rat)(k i:Nat):Nat->Nat->Rat:=fun a b=>if b<k\/(b=k/\a<i) then ldL A a b else if a=b then 1 else 0
section
variable {h:aH} {K:VP} {A:Option aP} {n cap Q:Nat} {E:Nat->Rat}
def Ux(rs:cD h A n n (mtx E n))(hn1:1<=n)(hn:n<=64)(hF:∀ k,k<=n->(∀ m,m<k->Pn (mtx E n) n m)->LdF E n k Q)(hQ1:1<=Q)(hQ:3*Q+1<=400000000)
 (hK1:(∀ k,k<n->Pn (mtx E n) n k)->∀ bo A' c' h',h.le h'->n<=c'->cD h' (some ⟨bo,0,none⟩) n n (fun i j=>ldL (mtx E n) i j)->aU NQr h' A' n (ldD (mtx E n))->K (.tuple #[.slice (some ⟨bo,0,none⟩) n n,.slice A' n c',.bool true]) h')
 (hK0:(¬ ∀ k,k<n->Pn (mtx E n) n k)->∀ h',h.le h'->K (.tuple #[.slice none 0 0,.slice none 0 0,.bool false]) h'):aV prog Io #[.slice A n cap] h K:=by
 refine A2c _ _ _ ?_
 unfold Zu
 refine Qf rs (by omega) hn1 (by omega) hn1 ?_
 intro G g1 o1 ba ra ca l1 ta
 refine ⟨_,_,_,rfl,?_⟩
 refine ta.sep.call (A6g (by omega) ?_)
 intro bq g2 o2 bl rl l2 tl C s2
 refine ⟨_,_,_,rfl,?_⟩
 have j1:∀ k x,o2 k=some x->(o1.join o2) k=some x:=fun k x e=>by show (match o2 k with|some x=>some x|none=>o1 k)=_;rw [e]
 have dj:∀ k x,o1 k=some x->o2 k=none:=fun k x e=>by
  cases h0:o2 k with
  | none=>rfl
  | some y=>
   have e1:=s2.dis k x e
   rw [tl.sep.own k y h0] at e1;cases e1
 have j2:∀ k x,o1 k=some x->(o1.join o2) k=some x:=fun k x e=>by show (match o2 k with|some x=>some x|none=>o1 k)=_;rw [dj k x e];exact e
 have sj:=s2.join tl.sep
 have X0:Gd C g2 (o1.join o2) ba ra bl rl n (mtx E n) (stL (mtx E n) 0 0) none 0 0 (ldD (mtx E n)):=⟨ta.keep sj l2 fun k x e _=>j2 k x e,(tl.keep sj (B5 _) fun k x e _=>j1 k x e).congr fun a b _ _=>by unfold stL;rw [iN (show ¬ (b<0\/b=0/\a<0) by omega)],⟨[],OwnSl.nil,rfl,Row.nil⟩,fun x hx hy=>(by
  obtain ⟨y,a2⟩:=ta.blk hx
  obtain ⟨z,hz⟩:=tl.blk hy
  rw [dj x y a2] at hz;cases hz),fun x hA=>by cases hA⟩
 refine ⟨fun L hp=>∃ (k:Nat) (g o:aH) (P:Nat->Nat->Rat) (A':Option aP) (c:Nat),k<=n/\L=[.slice A' k c,I (k:Int)]/\h.le g/\(∀ m,m<k->Pn (mtx E n) n m)/\(∀ i j,k<=i->i<n->k<=j->j<n->P i j=ldA (mtx E n) k i j)/\Gd hp g o ba ra bl rl n P (stL (mtx E n) k 0) A' c k (ldD (mtx E n)),fun L _=>n-(iAt L 1).toNat,⟨0,g2,_,_,none,0,by omega,rfl,B0 l1 l2,fun m hm=>by omega,fun i j _ _ _ _=>rfl,X0⟩,?_⟩
 clear X0 sj j1 j2 dj s2 tl ta
 rintro dA f dc z hp ⟨k,g,o,P,A',c,hk,eL,lg,ok,hP,X⟩
 obtain ⟨⟨rfl,rfl,rfl⟩,rfl⟩:=sI2 eL
 refine B8 (fun bg=>?_) (fun bj=>?_)
 rotate_left
 ·have:f=n:=by omega
  subst this
  obtain ⟨xs,o3,e,q⟩:=X.d
  refine hK1 ok bl dA dc hp (B0 lg X.a.sep.le) (by have:=o3.1;omega) (X.l.rowsV.congr fun i j _ hj=>by unfold stL;rw [iP (.inl hj)]) ⟨xs,o3.slF X.a.sep.ole,e,q.mono V8 X.a.sep.le⟩
 have t:f<n:=by omega
 have F:=hF f hk ok
 have F1:=fun ok1:Pn (mtx E n) n f=>hF (f+1) t fun m hm=>by
  by_cases c:m=f
  ·rw [c];exact ok1
  ·exact ok m (by omega)
 have a4:=F.zA f f (aC _) t t
 obtain ⟨cc,bt,hh⟩:=X.a.head t
 obtain ⟨x,ix,x0,x1,x2,x3⟩:=X.a.elem t t
 rw [hP f f (aC _) t (aC _) t] at ix
 have M:=X.a.sep
 have az:=B0 lg M.le
 refine ⟨_,rfl,by omega,by omega,_,_,_,M.cell hh,_,rfl,by omega,by omega,_,_,_,_,_,_,_,_,M.cell x0,M.cell x1,M.cell x2,M.cell x3,?_⟩
 refine Q7 (NQ.mono M.le ix) ⟨_,rfl,B8 (fun ag=>?_) (fun ah=>?_)⟩
 ·have av:=Yh.1 ag
  exact hK0 (fun y=>absurd (y f t).1 (by grind)) hp az
 have ai:0<=ldA (mtx E n) f f f:=by
  have:¬ ldA (mtx E n) f f f<0:=fun c=>ah (Yh.2 c)
  grind
 refine ⟨_,rfl,by omega,by omega,_,_,_,M.cell hh,_,rfl,by omega,by omega,_,_,_,_,_,_,_,_,M.cell x0,M.cell x1,M.cell x2,M.cell x3,?_⟩
 refine X.push (by omega) (w:=x) ix ?_
 intro A5 c5 h5 g5 o5 l5 X5
 have S:∀ {i:Nat},i<n->B7 ((i:Int)+1)=((i+1:Nat):Int):=fun {i} hi=>by rw [C0]<;>omega
 rw [S t]
 have eD:∀ i,i<f+1->(if i=f then ldA (mtx E n) f f f else ldD (mtx E n) i)=ldD (mtx E n) i:=fun i _=>by
  by_cases c:i=f
  ·rw [iP c,c];rfl
  ·rw [iN c]
 have X6:∀ {hp g o:aH} {P L:Nat->Nat->Rat},Gd hp g o ba ra bl rl n P L A5 c5 (f+1) (fun i=>if i=f then ldA (mtx E n) f f f else ldD (mtx E n) i)->Gd hp g o ba ra bl rl n P L A5 c5 (f+1) (ldD (mtx E n)):=fun Y=>by
  obtain ⟨xs,o1,e,q⟩:=Y.d
  exact ⟨Y.a,Y.l,⟨xs,o1,e,q.congr eD⟩,Y.al,Y.ad⟩
 have X7:=X6 X5
 clear X6 X5
 refine ⟨fun L hq=>∃ (i:Nat) (g' o':aH) (P':Nat->Nat->Rat),f<i/\i<=n/\L=[I (i:Int)]/\h.le g'/\(ldA (mtx E n) f f f=0->∀ i',f<i'->i'<i->ldA (mtx E n) f i' f=0)/\(∀ a b,f<=a->a<n->f<=b->b<n->P' a b=stA (mtx E n) f i 0 a b)/\Gd hq g' o' ba ra bl rl n P' (stL (mtx E n) f i) A5 c5 (f+1) (ldD (mtx E n)),fun L _=>n-(iAt L 0).toNat,⟨f+1,g5,o5,P,by omega,by omega,rfl,B0 lg l5,fun _ i' G C=>by omega,fun a b O N G C=>by unfold stA;rw [iN (by omega)];exact hP a b O N G C,X7.congr (fun _ _ _ _=>rfl) (fun a b _ _=>?_)⟩,?_⟩
 ·unfold stL
  by_cases c:b<f
  ·rw [iP (.inl c),iP (.inl c)]
  ·rw [iN (by omega)]
   by_cases c2:b=f/\a<f+1
   ·rw [iP (show b<f\/b=f/\a<f+1 from .inr c2)]
    by_cases c3:a=b
    ·rw [iP c3,c3,B37]
    ·rw [iN c3,B38 (by omega)]
   ·rw [iN (show ¬ (b<f\/b=f/\a<f+1) by omega)]
 clear X7
 rintro z6 hq ⟨i,g6,o6,P6,a1,bw,eL,V,hz,J,X6⟩
 obtain rfl:=sI1 eL
 have s:=X6.a.sep
 have a8:=B0 V s.le
 refine B8 (fun a9=>?_) (fun bd=>?_)
 rotate_left
 ·have a3:i=n:=by omega
  subst a3
  have af:Pn (mtx E i) i f:=⟨ai,fun e j G C=>hz e j G C⟩
  refine ⟨⟨f+1,g6,o6,P6,A5,c5,by omega,rfl,V,fun m hm=>?_,fun a b O N G C=>?_,X6.congr (fun _ _ _ _=>rfl) (fun a b O _=>?_)⟩,?_⟩
  ·by_cases c:m=f
   ·rw [c];exact af
   ·exact ok m (by omega)
  ·rw [J a b (by omega) N (by omega) C]
   unfold stA
   rw [iP (by omega)]
  ·unfold stL
   by_cases c:b<f+1
   ·rw [iP (show b<f\/b=f/\a<i by omega),iP (.inl c)]
   ·rw [iN (show ¬ (b<f\/b=f/\a<i) by omega),iN (show ¬ (b<f+1\/b=f+1/\a<0) by omega)]
  ·show i-((f+1:Nat):Int).toNat<i-((f:Nat):Int).toNat
   omega
 have B:i<n:=by omega
 obtain ⟨ck,b1,an⟩:=X6.a.head t
 obtain ⟨ci,bi,aj⟩:=X6.a.head B
 obtain ⟨y,iy,y0,y1,y2,y3⟩:=X6.a.elem t t
 obtain ⟨u,iu,u0,u1,u2,u3⟩:=X6.a.elem B t
 have ao:P6 f f=ldA (mtx E n) f f f:=by rw [J f f (aC _) t (aC _) t];unfold stA;rw [iN (by omega)]
 have aw:P6 i f=ldA (mtx E n) f i f:=by rw [J i f (by omega) B (aC _) t];unfold stA;rw [iN (by omega)]
 rw [ao] at iy
 rw [aw] at iu
 refine ⟨_,rfl,by omega,by omega,_,_,_,s.cell an,_,rfl,by omega,by omega,_,_,_,_,_,_,_,_,s.cell y0,s.cell y1,s.cell y2,s.cell y3,?_⟩
 have R:∀ {q:Rat},q.num.sign=0↔q=0:=fun {q}=>by rw [cX];exact Rat.num_eq_zero
 refine Q7 (NQ.mono s.le iy) ⟨_,rfl,E5 (fun he=>?_) (fun ac=>?_)⟩
 ·have e0:=R.1 he
  refine ⟨_,rfl,by omega,by omega,_,_,_,s.cell aj,_,rfl,by omega,by omega,_,_,_,_,_,_,_,_,s.cell u0,s.cell u1,s.cell u2,s.cell u3,?_⟩
  refine Q7 (NQ.mono s.le iu) ⟨_,rfl,I4 (fun ac=>?_) (fun ar=>?_)⟩
  ·exact hK0 (fun y=>ac (R.2 ((y f t).2 e0 i a1 B))) hq a8
  ·have ay:=R.1 ar
   rw [S B]
   have eA:∀ a b,ldA (mtx E n) (f+1) a b=ldA (mtx E n) f a b:=fun a b=>by
    show (if ldA (mtx E n) f f f=0 then _ else _)=_
    rw [iP e0]
   refine ⟨⟨i+1,g6,o6,P6,by omega,by omega,rfl,V,fun e i' G C=>?_,fun a b O N G C=>?_,X6.congr (fun _ _ _ _=>rfl) (fun a b _ _=>?_)⟩,by simp only [U9];omega⟩
   ·by_cases c:i'=i
    ·rw [c];exact ay
    ·exact hz e i' G (by omega)
   ·rw [J a b O N G C]
    unfold stA
    rw [eA]
    split<;>split<;>rfl
   ·unfold stL
    by_cases c:b<f\/b=f/\a<i
    ·rw [iP c,iP (by omega)]
    ·rw [iN c]
     by_cases c2:b=f/\a=i
     ·rw [iP (show b<f\/b=f/\a<i+1 by omega),iN (by omega),c2.1,c2.2]
      unfold ldL
      rw [iN (by omega),iN (by omega),iP e0]
     ·rw [iN (show ¬ (b<f\/b=f/\a<i+1) by omega)]
 have W:ldA (mtx E n) f f f≠0:=fun e=>ac (R.2 e)
 have af:Pn (mtx E n) n f:=⟨ai,fun e=>absurd e W⟩
 have F2:=F1 af
 obtain ⟨cl,bn,ap⟩:=X6.l.head B
 refine ⟨_,rfl,by omega,by omega,_,_,_,s.cell ap,_,rfl,by omega,by omega,_,_,_,s.cell aj,_,rfl,by omega,by omega,_,_,_,_,_,_,_,_,s.cell u0,s.cell u1,s.cell u2,s.cell u3,_,rfl,by omega,by omega,_,_,_,s.cell an,_,rfl,by omega,by omega,_,_,_,_,_,_,_,_,s.cell y0,s.cell y1,s.cell y2,s.cell y3,?_⟩
 refine s.call (Ue (m:=Q) iu iy (F.zA i f (by omega) B t) a4 (by omega) ?_)
 intro w7 g7 l7 i7 h7 s7
 refine ⟨_,_,_,_,_,_,_,_,rfl,s.le_le s7 l7,_,rfl,by omega,by omega,?_⟩
 refine (X6.next s7 l7).storeL B t i7 ?_
 intro h8 o8 X8
 have ak:ldA (mtx E n) f i f/ldA (mtx E n) f f f=ldL (mtx E n) i f:=by
  unfold ldL
  rw [iN (by omega),iN (by omega),iN W]
 rw [ak] at X8
 have X9:Gd h8 g7 o8 ba ra bl rl n P6 (stL (mtx E n) f (i+1)) A5 c5 (f+1) (ldD (mtx E n)):=X8.congr (fun _ _ _ _=>rfl) (fun a b _ _=>by
  unfold A04 stL
  by_cases c:a=i/\b=f
  ·rw [iP c,iP (.inr ⟨c.2,by omega⟩),c.1,c.2]
  ·rw [iN c]
   by_cases c2:b<f\/b=f/\a<i
   ·rw [iP c2,iP (by omega)]
   ·rw [iN c2,iN (show ¬ (b<f\/b=f/\a<i+1) by omega)])
 clear X8
 refine ⟨fun L hq=>∃ (j:Nat) (g' o':aH) (P':Nat->Nat->Rat),f<j/\j<=n/\L=[I (j:Int)]/\h.le g'/\(∀ a b,f<=a->a<n->f<=b->b<n->P' a b=stA (mtx E n) f i j a b)/\Gd hq g' o' ba ra bl rl n P' (stL (mtx E n) f (i+1)) A5 c5 (f+1) (ldD (mtx E n)),fun L _=>n-(iAt L 0).toNat,⟨f+1,g7,o8,P6,by omega,by omega,rfl,B0 V l7,fun a b O N G C=>by
  rw [J a b O N G C]
  unfold stA
  by_cases c:f<b/\((f<a/\a<i)\/(a=i/\b<0))
  ·rw [iP c,iP (by omega)]
  ·rw [iN c,iN (by omega)],X9⟩,?_⟩
 clear X9 X6 J
 rintro bx hr ⟨j,a7,a5,P10,br,bf,eL,aa,H,X10⟩
 obtain rfl:=sI1 eL
 have r:=X10.a.sep
 refine B8 (fun bc=>?_) (fun bb=>?_)
 rotate_left
 ·have au:j=n:=by omega
  subst au
  rw [S B]
  refine ⟨⟨i+1,a7,a5,P10,by omega,by omega,rfl,aa,fun e=>absurd e W,fun a b O N G C=>?_,X10⟩,by simp only [U9];omega⟩
  rw [H a b O N G C]
  unfold stA
  by_cases c:f<b/\((f<a/\a<i)\/(a=i/\b<j))
  ·rw [iP c,iP (by omega)]
  ·rw [iN c,iN (by omega)]
 have D:j<n:=by omega
 obtain ⟨c1,bh,d1⟩:=X10.a.head B
 obtain ⟨c2,bv,d2⟩:=X10.a.head t
 obtain ⟨c3,bk,d3⟩:=X10.l.head B
 obtain ⟨p,ip,p0,p1,p2,p3⟩:=X10.a.elem B D
 obtain ⟨q,iq,q0,q1,q2,q3⟩:=X10.l.elem B t
 obtain ⟨v,iv,v0,v1,v2,v3⟩:=X10.a.elem t D
 have e1:P10 i j=ldA (mtx E n) f i j:=by rw [H i j (by omega) B (by omega) D];unfold stA;rw [iN (by omega)]
 have e2:P10 f j=ldA (mtx E n) f f j:=by rw [H f j (aC _) t (by omega) D];unfold stA;rw [iN (by omega)]
 have e3:stL (mtx E n) f (i+1) i f=ldL (mtx E n) i f:=by unfold stL;rw [iP (.inr ⟨rfl,by omega⟩)]
 rw [e1] at ip
 rw [e2] at iv
 rw [e3] at iq
 refine ⟨_,rfl,by omega,by omega,_,_,_,r.cell d1,_,rfl,by omega,by omega,_,_,_,r.cell d1,_,rfl,by omega,by omega,_,_,_,_,_,_,_,_,r.cell p0,r.cell p1,r.cell p2,r.cell p3,_,rfl,by omega,by omega,_,_,_,r.cell d3,_,rfl,by omega,by omega,_,_,_,_,_,_,_,_,r.cell q0,r.cell q1,r.cell q2,r.cell q3,_,rfl,by omega,by omega,_,_,_,r.cell d2,_,rfl,by omega,by omega,_,_,_,_,_,_,_,_,r.cell v0,r.cell v1,r.cell v2,r.cell v3,?_⟩
 have zl:=B36 F t hQ1 B
 have zv:=F.zA f j (aC _) t D
 refine r.call (Ia (m:=2*Q) iq iv zl (zv.mono (by omega)) (by omega) ?_)
 intro b0 bu Z a0 bp T
 refine ⟨_,_,_,_,_,_,_,_,rfl,r.le_le T Z,?_⟩
 refine T.call (Hy (m:=3*Q+1) (NQ.mono Z ip) a0 ((F.zA i j (by omega) B D).mono (by omega)) ((zl.mul zv).mono (by omega)) (by omega) ?_)
 intro be a6 ae aq bm am
 refine ⟨_,_,_,_,_,_,_,_,rfl,T.le_le am ae,_,rfl,by omega,by omega,?_⟩
 refine ((X10.next T Z).next am ae).storeA B D aq ?_
 intro bz ax X13
 rw [S D]
 refine ⟨⟨j+1,a6,ax,_,by omega,by omega,rfl,B0 aa (B0 Z ae),fun a b O N G C=>?_,X13⟩,by simp only [U9];omega⟩
 have ab:ldA (mtx E n) f i j-ldL (mtx E n) i f*ldA (mtx E n) f f j=ldA (mtx E n) (f+1) i j:=by
  show _=(if ldA (mtx E n) f f f=0 then _ else _)
  rw [iN W,<- ak]
  grind
 unfold A04
 by_cases c:a=i/\b=j
 ·rw [iP c,ab,c.1,c.2]
  unfold stA
  rw [iP (by omega)]
 ·rw [iN c,H a b O N G C]
  unfold stA
  by_cases c2:f<b/\((f<a/\a<i)\/(a=i/\b<j))
  ·rw [iP c2,iP (by omega)]
  ·rw [iN c2,iN (by omega)]
end
end Go.Proofs.YtmbfcbbkbefgfaaGreatDoor
namespace Go.Proofs.YtmbfcbbkbefgfaaGreatDoor
set_option maxRecDepth 20000
structure LUS where
 R:Nat->Nat->Rat
 L:Nat->Nat->Rat
 p:Nat->Nat
def C3h(n c:Nat)(s:LUS):Nat:=fnd (fun i=>decide (s.R i c≠0)) (n-c) c
def C5n(R:Nat->Nat->Rat)(c:Nat):Nat->Nat->Rat:=fun i j=>if i<=c\/j<c then R i j else R i j-R i c/R c c*R c j
def C5p(R L:Nat->Nat->Rat)(c:Nat):Nat->Nat->Rat:=fun i j=>if j=c then (if i=c then 1 else if c<i then R i c/R c c else 0) else L i j
def C5o(n c:Nat)(s:LUS):LUS:=
 { R:=C5n (fun i=>s.R (xch c (C3h n c s) i)) c
   L:=C5p (fun i=>s.R (xch c (C3h n c s) i)) (fun i=>s.L (xch c (C3h n c s) i)) c
   p:=fun i=>s.p (xch c (C3h n c s) i) }
def C5q(n:Nat)(M:Nat->Nat->Rat):Nat->LUS
 | 0=>⟨M,fun _ _=>0,fun i=>i⟩
 | c+1=>C5o n c (C5q n M c)
structure LuI (n c m:Nat) (M:Nat->Nat->Rat) (s:LUS):Prop where
 zero:∀ i j,i<n->c<=i->j<c->s.R i j=0
 lz:∀ i j,c<=j->s.L i j=0
 szR:∀ i j,i<n->j<n->Sz (7^c*m) (s.R i j)
 szL:∀ i j,i<n->j<n->Sz (7^c*m) (s.L i j)
 len:(B1b n ⟨M,[],1⟩ c).cs.length=c
 sync:∀ i j,i<n->c<=i->(B1b n ⟨M,[],1⟩ c).R i j=s.R i j
def inM(bo:Nat)(rb:Nat->Nat)(n x:Nat):Prop:=x=bo\/∃ i,i<n/\x=rb i
structure Lu3 (h g o:aH) (bu:Nat) (ru:Nat->Nat) (bl:Nat) (rl:Nat->Nat) (bp n:Nat) (U L:Nat->Nat->Rat) (p:Nat->Nat):Prop where
 u:Mt h g o bu ru n n U
 l:Mt h g o bl rl n n L
 p:∃ ps:List Int,RowB o bp ps/\ps.length=n/\∀ i,i<n->ps[i]? = some ((p i:Nat):Int)
 ul:∀ x,inM bu ru n x->¬ inM bl rl n x
 pu:¬ inM bu ru n bp
 pl:¬ inM bl rl n bp
section
variable {h g o:aH} {bu bl bp n:Nat} {ru rl:Nat->Nat} {U L:Nat->Nat->Rat} {p:Nat->Nat}
end
structure LOut where
 d:Int
 n:Nat
 q:Nat
 p:Nat->Nat
 l:Nat->List UInt8
 u:Nat->List UInt8
 e:Int
section
variable {h:aH} {K:VP} {A:Option aP} {n cap m:Nat} {r c:Int} {la:Nat->List UInt8}
end
def QM(g o:aH)(b n:Nat)(L:Nat->Nat->Rat):Prop:=∃ xs:List QV,RowX o b xs/\xs.length=n*n/\∀ i j,i<n->j<n->∃ w,xs[i*n+j]? = some w/\RQ g w (L i j)
def inT(T:Tb)(x:Nat):Prop:=x=T.bt\/x=T.bE\/x=T.bS
section
variable {g o:aH} {b n:Nat} {L:Nat->Nat->Rat}
end
structure LuT (h g o:aH) (T:Tb) (M:Nat->Nat->Int) (S:Nat->Rat) (bp bl bu n:Nat) (p:Nat->Nat) (L U:Nat->Nat->Rat):Prop where
 t:Tab h g o T M S
 p:∃ ps:List Int,RowB o bp ps/\ps.length=n/\∀ i,i<n->ps[i]? = some ((p i:Nat):Int)
 l:QM g o bl n L
 u:QM g o bu n U
 tp:¬ inT T bp
 tl:¬ inT T bl
 tu:¬ inT T bu
 pl:bp≠bl
 pu:bp≠bu
 lu:bl≠bu
section
variable {h g o:aH} {T:Tb} {M:Nat->Nat->Int} {S:Nat->Rat} {bp bl bu n:Nat} {p:Nat->Nat} {L U:Nat->Nat->Rat}
end
def fr2{l si ri sk rk:Rat}(hl:l≠0)(hi:si≠0)(hk:sk≠0):l*(si*ri)/(l*(sk*rk))*sk/si=ri/rk:=by
 have b:=bO _ hl
 have c:=bO _ hi
 have a:=bO _ hk
 rw [cJ,cJ,cJ,Rat.inv_mul_rev,Rat.inv_mul_rev]
 grind
structure LuF (E:Nat->Rat) (n k m:Nat):Prop where
 row:Sj n k (elP E n n k)=C3h n k (C5q n (mtx E n) k)
 val:∀ i j,i<n->k<=i->j<n->((elP E n n k).M i j:Rat)=(elP E n n k).last*((elP E n n k).S i*(C5q n (mtx E n) k).R i j)
 last:(elP E n n k).last≠0
 S:∀ i,i<n->(elP E n n k).S i≠0
 len:(elP E n n k).cs.length=k
 zM:∀ a b,a<n->b<n->ZB (3^k*bnd n m) ((elP E n n k).M a b)
 zl:ZB (3^k*bnd n m) (elP E n n k).last
 zS:∀ a,a<n->Sz (bnd n m) ((elP E n n k).S a)
section
variable {h:aH} {K:VP} {A:Option aP} {n cap m:Nat} {r c:Int} {la:Nat->List UInt8}
end
section
variable {h:aH} {K:VP} {A B:Option aP} {n n2 cap cap2 m:Nat} {r c r2 c2:Int} {la lb:Nat->List UInt8}
def B2y(gl:Gl h)(ra:aU SSr h A n la)(rb:aU SSr h B n2 lb)(hn:n<=1000000)(hn2:n2<=1000000)(hl:LL n la)(hl2:LL n2 lb)(hs:∀ i,i<n->Sz m (rv (la i)))(hs2:∀ i,i<n2->Sz m (rv (lb i)))(hm:2*m+1<=40000000)
 (hK:∀ o,C4y r c n la r2 c2 n2 lb (-1) o->∀ A' cap' h',h.le h'->aU SSr h' A' o.n o.f->K (.tuple #[Hb o.r o.c A' o.n cap',I o.e]) h'):aV prog B3p #[Hb r c A n cap,Hb r2 c2 B n2 cap2] h K:=by
 refine C2n _ _ _ _ _ _ _ _ _ _ ?_
 unfold C7i
 exact Xh gl ra rb hn hn2 hl hl2 hs hs2 hm fun o a A' cap' h' l b=>⟨_,_,_,_,_,_,rfl,hK o a A' cap' h' l b⟩
end
def Sk(la:Nat->List UInt8)(mid:Nat)(lb:Nat->List UInt8)(cols:Nat):Nat->List UInt8:=fun k=>K9 (sm mid (fun j=>mtx (rvs la) mid (k/cols) j*mtx (rvs lb) cols j (k%cols)))
def A45{i j c:Nat}(hj:j<c):(i*c+j)/c=i/\(i*c+j)%c=j:=by
 rw [bV,aO,bC hj,aW _ _ (by omega),bD hj,aS]
 exact ⟨rfl,rfl⟩
def B2d(la:Nat->List UInt8)(mid:Nat)(lb:Nat->List UInt8){cols i j:Nat}(hj:j<cols):mtx (rvs (Sk la mid lb cols)) cols i j=sm mid (fun t=>mtx (rvs la) mid i t*mtx (rvs lb) cols t j):=by
 obtain ⟨a,b⟩:=A45 (i:=i) hj
 show rv (K9 (sm mid (fun t=>mtx (rvs la) mid ((i*cols+j)/cols) t*mtx (rvs lb) cols t ((i*cols+j)%cols))))=_
 rw [Hx,a,b]
section
variable {r c r2 c2:Int} {n n2 m rows mid mid2 cols:Nat} {la lb:Nat->List UInt8} {o:MOut}
def MOk.prod(ma:MOk r c n la rows mid)(mb:MOk r2 c2 n2 lb mid cols):MOk r c2 (rows*cols) (Sk la mid lb cols) rows cols:=⟨ma.er,mb.ec,ma.r1,ma.r2,mb.c1,mb.c2,rfl,fun _ _=>⟨_,rfl⟩⟩
def MOk.uniq{rows2 cols2:Nat}(ma:MOk r c n la rows cols)(mb:MOk r c n la rows2 cols2):rows2=rows/\cols2=cols:=by
 have:=ma.er;have:=ma.ec;have:=mb.er;have:=mb.ec
 omega
def MulO.ok(ma:MOk r c n la rows mid)(mb:MOk r2 c2 n2 lb mid2 cols)(ho:MulO r c n la r2 c2 n2 lb o):(mid=mid2/\c=r2/\o=⟨r,c2,rows*cols,Sk la mid lb cols,0⟩)\/(mid≠mid2/\c≠r2/\o=noM 4):=by
 rcases ho with ⟨a,_⟩|⟨_,_,b,rfl⟩|⟨e,f,c1,a,d,rfl⟩
 ·exact absurd ⟨⟨_,_,ma⟩,⟨_,_,mb⟩⟩ a
 ·exact .inr ⟨by rintro rfl;exact b (by rw [ma.ec,mb.er]),b,rfl⟩
 ·obtain ⟨rfl,rfl⟩:=ma.uniq a
  obtain ⟨rfl,rfl⟩:=mb.uniq d
  exact .inl ⟨rfl,by rw [a.ec,d.er],rfl⟩
def A0i(ma:MOk r c n la rows mid)(mb:MOk r2 c2 n2 lb mid cols)(hs:∀ i,i<n->Sz m (rv (la i)))(hs2:∀ i,i<n2->Sz m (rv (lb i))):∀ i,i<rows*cols->Sz (1+mid*(2*m+1)) (rv (Sk la mid lb cols i)):=by
 intro i d
 have l:=mb.c1
 have k:=ma.r1
 have e:=ma.len
 have b:=mb.len
 have f:i/cols<rows:=aJ (by rw [aR];exact d)
 have g:=bJ i (show 0<cols by omega)
 show Sz _ (rv (K9 _))
 rw [Hx]
 exact A5r (fun j a=>hs _ (by rw [e];exact O2 f a)) (fun j a=>hs2 _ (by rw [b];exact O2 a g)) mid (aC _)
def A3h(ma:MOk r c n la rows mid)(mb:MOk r2 c2 n2 lb mid cols)(hs:∀ i,i<n->Sz m (rv (la i)))(hs2:∀ i,i<n2->Sz m (rv (lb i))):∀ i,i<rows*cols->(Sk la mid lb cols i).length<=2*(1+mid*(2*m+1))+4:=by
 intro i a
 have:=A0i ma mb hs hs2 i a
 refine A7l ?_
 rw [<- Hx (sm mid (fun j=>mtx (rvs la) mid (i/cols) j*mtx (rvs lb) cols j (i%cols)))]
 exact this
end
def T7(E:Nat->Rat)(n:Nat):Nat->Rat:=fun k=>if k%(n+n)<n then E (k/(n+n)*n+k%(n+n)) else if k%(n+n)=n+k/(n+n) then 1 else 0
def A03(E:Nat->Rat){n i j:Nat}(hj:j<n+n):T7 E n (i*(n+n)+j)=if j<n then E (i*n+j) else if j=n+i then 1 else 0:=by
 have a:(i*(n+n)+j)/(n+n)=i:=by rw [bV,aW _ _ (by omega),bD hj,aS]
 have b:(i*(n+n)+j)%(n+n)=j:=by rw [bV,aO,bC hj]
 unfold T7
 rw [a,b]
def A02{E:Nat->Rat}{n m:Nat}(hm:1<=m)(hs:∀ i,i<n*n->Sz m (E i)):∀ i,i<n*(n+n)->Sz m (T7 E n i):=by
 intro i a
 have b:i/(n+n)<n:=aJ (by rw [aR];exact a)
 unfold T7
 split
 ·rename_i h;exact hs _ (O2 b h)
 ·split
  ·exact ⟨ZB.one hm,ZB.one hm⟩
  ·exact Sz.zero hm
def Ya(E:Nat->Rat)(n:Nat):Prop:=(elE (T7 E n) n (n+n) n).cs.length=n
def Li(E:Nat->Rat)(n:Nat):Nat->Nat->Rat:=fun i j=>(elE (T7 E n) n (n+n) n).R i (n+j)
def C7u(r c:Int)(n:Nat)(la:Nat->List UInt8)(o:MOut):Prop:=
 (¬ Mx r c n la/\o=noM 1)\/(Mx r c n la/\r≠c/\o=noM 4)\/(∃ q,MOk r c n la q q/\((Ya (rvs la) q/\o=⟨r,r,q*q,Db (Li (rvs la) q) q,0⟩)\/(¬ Ya (rvs la) q/\o=noM 7)))
section
variable {h:aH} {K:VP} {A:Option aP} {n cap m:Nat} {r c:Int} {la:Nat->List UInt8}
def A0n(gl:Gl h)(ra:aU SSr h A n la)(hn:n<=1000000)(hl:LL n la)(hs:∀ i,i<n->Sz m (rv (la i)))(hm1:1<=m)(hb:∀ q,MOk r c n la q q->2*(3^q*bnd (q+q) m)+1<=40000000)
 (hK:∀ o,C7u r c n la o->∀ A' cap' h',h.le h'->aU SSr h' A' o.n o.f->K (.tuple #[Hb o.r o.c A' o.n cap',I o.e]) h'):aV prog Qm #[Hb r c A n cap] h K:=by
 refine A78 _ _ _ _ _ ?_
 unfold A91
 refine V3 gl ra hn hl (fun rows cols mk b1 F own=>?_) (fun bl F l1=>⟨_,_,_,_,rfl,A2g (hK (noM 1) (.inl ⟨bl,rfl⟩) none 0 F l1 RowV.nil)⟩)
 have l1:=own.le
 refine ⟨_,_,_,_,rfl,Br.nt (I4 (fun e=>hK (noM 4) (.inr (.inl ⟨⟨_,_,mk⟩,e,rfl⟩)) none 0 F l1 RowV.nil) (fun e=>?_))⟩
 obtain rfl:rows=cols:=by have:=mk.er;have:=mk.ec;omega
 have aw:=fun x=>hK ⟨r,r,rows*rows,Db (Li (rvs la) rows) rows,0⟩ (.inr (.inr ⟨rows,mk,.inl ⟨x,rfl⟩⟩))
 have ba:=fun x=>hK (noM 7) (.inr (.inr ⟨rows,mk,.inr ⟨x,rfl⟩⟩))
 have bw:=hb rows mk
 have:=mk.r1;have:=mk.r2
 obtain ⟨rfl,rfl,_,_,_,_,rfl,_⟩:=id mk
 clear e
 have a3:=own.vis I8
 have bq:rows*rows<=64*64:=aL (by omega) (by omega)
 have bt:rows*(rows+rows)<=64*128:=aL (by omega) (by omega)
 refine ⟨fun L hp=>∃ (k:Nat) (g o:aH) (xs:List QV) (A':Option aP) (H:Nat),k<=rows/\L=[.slice A' (k*(rows+rows)) H,I (k:Int)]/\F.le g/\Sep hp g o/\bB o G2 A' H xs/\xs.length=k*(rows+rows)/\Row RQr g xs (k*(rows+rows)) (T7 (rvs la) rows),fun L _=>rows-(iAt L 1).toNat,
  ⟨0,F,U1,[],none,0,by omega,by rw [aY];rfl,B5 _,Sep.refl F,OwnSl.nil,by simp,by rw [aY];exact Row.nil⟩,?_⟩
 rintro wA wn wc z hp ⟨k,g,o,xs,A',H,hk,eL,lg,s,ow,b,rr⟩
 obtain ⟨⟨rfl,rfl,rfl⟩,rfl⟩:=sI2 eL
 refine B8 (fun al=>?_) (fun a9=>?_)
 ·have p:k<rows:=by omega
  have h2:(k+1)*rows<=rows*rows:=aG _ p
  have h3:(k+1)*rows=k*rows+rows:=by rw [aT,bF]
  have h4:(k+1)*(rows+rows)=k*(rows+rows)+rows+rows:=by rw [aT,bF];omega
  have h5:(k+1)*(rows+rows)<=rows*(rows+rows):=aG _ p
  have e0:B7 ((k:Int)+1)=((k+1:Nat):Int):=C0 (by omega) (by omega)
  have e1:B7 ((k:Int)*(rows:Int))=((k*rows:Nat):Int):=by rw [<- aM];exact K3 (by omega)
  have e2:B7 (B7 ((k:Int)+1)*(rows:Int))=(((k+1)*rows:Nat):Int):=by rw [e0,<- aM];exact K3 (by omega)
  rw [e1,e2,e0]
  refine ⟨⟨by omega,by omega⟩,⟨by omega,by simp only [aE];omega⟩,?_⟩
  simp only [aE]
  have e5:(k+1)*rows-k*rows=rows:=by omega
  rw [e5]
  have row:aU RQr F (H9 (some ⟨b1,0,none⟩) (rows*rows) (k*rows) 4) rows (fun j=>rvs la (k*rows+j)):=a3.cut (c:=rows*rows) (l:=k*rows) (k:=rows) (by omega) (aC _)
  obtain ⟨ys,sy,a,qy⟩:=row
  refine OwnSl.app (ty:=T8) A9g s ow b.symm a.symm (by rintro rfl;simp at a;omega) (sy.mono (B0 lg s.le)) (by rw [b,a];omega) (by rw [b,a];omega) ?_
  intro A2 c2 bv g2 o2 l2 s2 bf _
  have ak:=B0 lg l2
  have u:(xs++ys).length=k*(rows+rows)+rows:=by rw [aD,b,a]
  have r1:Row RQr g2 (xs++ys) (k*(rows+rows)+rows) (T7 (rvs la) rows):=by
   refine Row.app b (rr.mono I8 l2) ((qy.mono I8 ak).congr fun j hj=>?_)
   rw [A03 (rvs la) (by omega),iP hj]
  refine ⟨_,_,_,rfl,?_⟩
  rw [b]
  refine Q3 A9g (zx:=As) rfl (by omega) (by omega) (by omega) (by omega) ?_
  intro Q X
  simp only [aE]
  have ob:∀ q x,o2 q=some x->q≠Q:=by
   rintro q x e rfl
   rw [s2.own q x e] at X;cases X
  refine ⟨_,_,_,rfl,Sep.call (s2.new X _) (Tv ⟨by omega,by omega⟩ ?_)⟩
  intro wd g4 l4 a1 bz s4
  have one:((1:Int):Rat)=1:=rfl
  rw [one] at a1
  refine ⟨_,_,_,_,_,_,_,_,rfl,_,rfl,by omega,by omega,?_⟩
  refine Ag Nf (y:=wd) rfl s4 RowX.mk (i:=k) (by rw [aK];exact p) ?_
  intro b0 o5 x5 a5 s5 a7
  have Z:∀ k,k≠Q->o5 k=o2 k:=fun k hk=>by rw [a5,B9 _ _ hk,B9 _ _ hk]
  have r0:Row RQr g4 (aI rows As) rows (fun _=>0):=fun i hi=>⟨As,by rw [bU,iP hi],RQ.zero⟩
  have ru:Row RQr g4 ((aI rows As).set k wd) rows (fun i=>if i=k then 1 else 0):=r0.upd (by rw [aK];exact p) a1
  obtain ⟨g8,l8,s8⟩:=s5.give (o2:=o2) (fun k x e=>by rw [Z k (ob k x e)];exact e)
  have a4:o2 Q=none:=by
   cases hx:o2 Q with
   | none=>rfl
   | some y=>exact absurd rfl (ob Q y hx)
  have bk:RowX g8 Q ((aI rows As).set k wd):=a7.keep fun x e=>by rw [<- s8.rest Q a4];exact s5.own Q x e
  have G:((aI rows As).set k wd).length=rows:=by rw [bN,aK]
  generalize (aI rows As).set k wd=us at *
  refine OwnSl.app (ty:=T8) A9g s8 bf u.symm G.symm (by rintro rfl;simp at G;omega) ((bk.rowB.slF (B5 _)).mono s8.le) (by rw [u,G];omega) (by rw [u,G];omega) ?_
  intro A9 c9 h9 g9 o9 l9 s9 bg _
  rw [u]
  have au:=B0 l4 (B0 l8 l9)
  refine ⟨_,_,_,rfl,⟨k+1,g9,o9,_,A9,c9,by omega,by rw [h4],B0 ak au,s9,bg,by rw [aD,u,G,h4],?_⟩,?_⟩
  ·rw [h4]
   refine Row.app u (r1.mono I8 au) ((ru.mono I8 (B0 l8 l9)).congr fun j hj=>?_)
   have ej:k*(rows+rows)+rows+j=k*(rows+rows)+(rows+j):=by omega
   rw [ej,A03 (rvs la) (i:=k) (j:=rows+j) (by omega),iN (show ¬ rows+j<rows by omega)]
   by_cases e:j=k
   ·rw [iP e,iP (by omega)]
   ·rw [iN e,iN (by omega)]
  ·show rows-((k+1:Nat):Int).toNat<rows-(k:Int).toNat
   omega
 have p:k=rows:=by omega
 subst p
 have ew:B7 (2*(k:Int))=((k+k:Nat):Int):=by rw [C0]<;>omega
 rw [ew]
 have az:=B0 l1 (B0 lg s.le)
 have rq:aU RQr hp wA (k*(k+k)) (T7 (rvs la) k):=⟨xs,ow.slF s.ole,b,rr.mono I8 s.le⟩
 have ar:=A02 hm1 hs
 refine A5q (E:=T7 (rvs la) k) (cc:=k) (m:=m) (gl.mono az) rq (by have:=ow.1;omega) (by omega) (by omega) (by omega) (by omega) (by omega) ar (by omega) ?_
 intro T h2 V l2 e1 e2
 refine ⟨_,rfl,FCall.mono V ?_⟩
 rintro r3 h3 ⟨g3,o3,A3,bo,w,l3,t3,bd,bm,ax,rfl⟩
 refine ⟨_,_,_,_,_,_,_,_,rfl,?_⟩
 have ab:=B3w (E:=T7 (rvs la) k) (rows:=k) (cols:=k+k) (c:=k) ar (by omega)
 have be:=A8j (T7 (rvs la) k) k (k+k) k (bnd (k+k) m)
 have W:=B3y (T7 (rvs la) k) k (k+k) k
 have O:(elE (T7 (rvs la) k) k (k+k) k).cs.length=k->∀ i j,i<k->j<k->cM ((elP (T7 (rvs la) k) k (k+k) k).M i (k+j)) (elP (T7 (rvs la) k) k (k+k) k).last=Li (rvs la) k i j:=fun an i j hi hj=>B9p (T7 (rvs la) k) (by omega) hi (by omega) (.inl (by omega))
 have an:(elE (T7 (rvs la) k) k (k+k) k).cs.length<=k/\(elE (T7 (rvs la) k) k (k+k) k).cs.length<=k:=A1m _ k k
 rw [C3u _ (by omega)]
 have ag:h.le h3:=B0 az (B0 l3 t3.sep.le)
 refine B8 (fun al=>ba (fun hx=>by unfold Ya at hx;omega) none 0 h3 ag RowV.nil) (fun a9=>?_)
 have B:(elE (T7 (rvs la) k) k (k+k) k).cs.length=k:=by omega
 have aj:=O B
 have ac:=aw B
 clear O
 generalize elP (T7 (rvs la) k) k (k+k) k=st at *
 have ah:=ab.M
 have af:=ab.last
 clear ab
 generalize 3^st.cs.length*bnd (k+k) m=bb at ah af be
 have iw:ZIr h3 w st.last:=Fz _ _ _ _ t3.sep.le ax
 have C:∀ g',h3.le g'->∃ gT,Tab g' gT o3 T st.M st.S:=fun g' l=>by
  obtain ⟨gT,l',s'⟩:=t3.sep.after l
  exact ⟨gT,t3.next s' l'⟩
 clear t3 bd bm ax V
 have a8:B7 ((k:Int)*(k:Int))=((k*k:Nat):Int):=by rw [<- aM];exact K3 (by omega)
 rw [a8]
 refine Q3 A9g (zx:=As) rfl (by omega) (by omega) (by omega) (by omega) ?_
 intro b4 bh
 simp only [aE]
 refine ⟨_,_,_,rfl,fun L hp=>∃ (i:Nat) (g o:aH) (xs:List QV) (A':Option aP) (H:Nat),i<=k/\L=[.slice A' (i*k) H,I (i:Int)]/\h3.le g/\Sep hp g o/\bB o G2 A' H xs/\xs.length=i*k/\Row RQr g xs (i*k) (fun t=>Li (rvs la) k (t/k) (t%k)),fun L _=>k-(iAt L 1).toNat,
  ⟨0,h3,U1.put b4 _,[],some ⟨b4,0,none⟩,k*k,by omega,by rw [aY];rfl,B5 _,Cu bh,Rb,by simp,by rw [aY];exact Row.nil⟩,?_⟩
 rintro vA vn vc z a6 ⟨i,g5,o5,am,A5,c5,hi,eL,d,s5,ao,J,ay⟩
 obtain ⟨⟨rfl,rfl,rfl⟩,rfl⟩:=sI2 eL
 refine B8 (fun al=>?_) (fun a2=>?_)
 ·have ae:i<k:=by omega
  have a0:(i+1)*k=i*k+k:=by rw [aT,bF]
  have bx:(i+1)*k<=k*k:=aG _ ae
  obtain ⟨gT,tT⟩:=C g5 d
  refine s5.call (O4 tT (i:=i) (by omega) ?_)
  intro h6 s6
  have bu:=B0 d s6.le
  rw [e2]
  refine ⟨_,_,_,rfl,⟨by omega,by omega⟩,?_⟩
  simp only [aE,Nat.add_sub_cancel]
  refine ⟨fun L hp=>∃ (j:Nat) (g o:aH) (xs:List QV) (A':Option aP) (H:Nat),j<=k/\L=[.slice A' (i*k+j) H,I (j:Int)]/\g5.le g/\Sep hp g o/\bB o G2 A' H xs/\xs.length=i*k+j/\Row RQr g xs (i*k+j) (fun t=>Li (rvs la) k (t/k) (t%k)),fun L _=>k-(iAt L 1).toNat,
   ⟨0,g5,o5,am,_,_,by omega,rfl,B5 _,s6,ao,J,ay⟩,?_⟩
  rintro qA qn qc z bp ⟨j,g7,o7,ys,A7,c7,hj,eL,D,s7,ap,a,aa⟩
  obtain ⟨⟨rfl,rfl,rfl⟩,rfl⟩:=sI2 eL
  refine B8 (fun bn=>?_) (fun a2=>?_)
  ·have ai:j<k:=by omega
   obtain ⟨br,ad⟩:=C g7 (B0 d D)
   obtain ⟨wv,zv,c0,c1⟩:=ad.at (i:=i) (j:=k+j) (by omega) (by omega)
   rw [E6,E6,e2] at c0 c1
   have bi:k<T.cE-i*(k+k):=by
    have F:=ad.cE
    rw [e1,e2] at F
    have h2:(i+1)*(k+k)<=k*(k+k):=aG _ ae
    rw [aT,bF] at h2
    omega
   rw [Vw bi]
   have aq:∀ x,aF (aF (aF ⟨T.bE,i*(k+k)*2,none⟩ (k*2)) (j*2)) x=⟨T.bE,i*(k+k)*2+(k+j)*2+x,none⟩:=fun x=>by rw [E6,E6,E6];congr 1;omega
   refine ⟨_,rfl,by omega,by omega,_,_,_,_,by simp only [aE];rw [aq];exact C1 s7.le c0,by simp only [aE];rw [aq];exact C1 s7.le c1,?_⟩
   refine s7.call (T0 (gl.mono (B0 ag (B0 d D))).tz (Fz _ _ _ _ ad.sep.le zv) (Fz _ _ _ _ (B0 d D) iw) (ah _ _ (by omega) (by omega)) af (by omega) ?_)
   intro w9 g9 l9 i9 h9 s9
   rw [aj i j ae ai] at i9
   refine ⟨_,_,_,_,_,_,_,_,rfl,?_⟩
   refine L7 (ty:=T8) A9g s9 ap a.symm (y:=w9) rfl (by decide) (by rw [a];omega) (by rw [a];omega) ?_
   intro A8 c8 h8 g8 o8 l8 s8 bc _
   rw [a,wiS j (by omega)]
   refine ⟨⟨j+1,g8,o8,_,A8,c8,by omega,by rw [cL],B0 D (B0 l9 l8),s8,bc,by rw [aD,a];rfl,?_⟩,?_⟩
   ·have rB:=Row.push (R:=RQr) (g:=g8) (xs:=ys) (f:=fun t=>Li (rvs la) k (t/k) (t%k)) (by rw [a];exact aa.mono I8 (B0 l9 l8)) (w:=w9) (by
     show RQ g8 w9 (Li (rvs la) k (ys.length/k) (ys.length%k))
     rw [a,bV (i*k) j,aO,bC ai,aW _ _ (by omega),bD ai,aS]
     exact I8 _ _ _ _ l8 i9)
    rw [aD,a] at rB
    exact rB
   ·show k-((j+1:Nat):Int).toNat<k-(j:Int).toNat
    omega
  ·have:j=k:=by omega
   subst this
   rw [wiS i (by omega),<- a0]
   rw [<- a0] at a aa
   refine ⟨⟨i+1,g7,o7,ys,qA,qc,by omega,rfl,B0 d D,s7,ap,a,aa⟩,?_⟩
   show j-((i+1:Nat):Int).toNat<j-(i:Int).toNat
   omega
 ·have:i=k:=by omega
  subst this
  have av:=B0 ag (B0 d s5.le)
  have bj:aU RQr a6 vA (i*i) (fun t=>Li (rvs la) i (t/i) (t%i)):=⟨am,ao.slF s5.ole,J,ay.mono I8 s5.le⟩
  refine Lb (m:=bb) (gl.mono av) bj (by omega) (fun t ht=>?_) (by omega) ?_
  ·have F:t/i<i:=aJ ht
   have h2:=bJ t (show 0<i by omega)
   rw [<- aj _ _ F h2]
   exact U3 W (ah _ _ (by omega) (by omega)) af
  intro b9 h9 N
  exact ⟨_,_,_,_,_,rfl,ac _ _ h9 (B0 av N.le) (N.vis O3)⟩
end
section
variable {h g o:aH} {wA B:Option aP} {wc be m d:Nat} {hd:List HV} {xs ys:List QV}
def Sep.free(s:Sep h g o){b:Nat}(hb:h b=none):g b=none:=by
 cases hx:g b with
 | none=>rfl
 | some y=>rw [s.le _ _ hx] at hb;cases hb
def Ks{α:Type}[E:Enc α]{e:TypeId}{A:Option aP}{c:Nat}{zs:List α}(s:Sep h g o)(w:bB o e A c zs)(hb:h be=none):A≠some ⟨be,0,none⟩:=by
 rcases w.2 with ⟨_,f⟩|⟨b,d,i,a,_⟩
 ·rw [f];simp
 ·rw [i]
  intro e
  simp only [bI,cY,and_true] at e
  subst e
  rw [s.own _ _ a] at hb;cases hb
def A5y(s:Sep h g o)(hb:o be=some (.cells #[] E7))(ow:bB o F8 wA wc hd)(hne:wA≠some ⟨be,0,none⟩)(sx:SlF h B xs)(hx:xs≠[])(hm:m=xs.length)(hl:xs.length<=10000){K:VP}
 (x:∀ A2 c2 h2 g2 o2,g.le g2->Sep h2 g2 o2->bB o2 E7 A2 c2 xs->bB o2 F8 wA wc hd->(∀ b,wA=some ⟨b,0,none⟩->A2≠wA)->K (.slice A2 m c2) h2):wpH prog (bY #[K4,K4] K4 #[.slice (some ⟨be,0,none⟩) 0 0,.slice B m d]) K h:=by
 have k:bB o E7 (some ⟨be,0,none⟩) 0 ([]:List QV):=⟨aC _,.inr ⟨be,[],rfl,hb,by simp,rfl⟩⟩
 refine OwnSl.app (ty:=K4) Sg s k (n:=0) rfl hm hx sx (by simp;omega) (by simp;omega) ?_
 intro A2 c2 h2 g2 o2 r l a u
 rw [List.nil_append] at a
 have j:∀ b y,wA=some ⟨b,0,none⟩->o b=some y->o2 b=some y/\A2≠some ⟨b,0,none⟩:=fun b y e c=>u b y c (fun p=>hne (by rw [e];exact p.symm))
 have:=x A2 c2 h2 g2 o2 r l a (ow.keep fun b y e c=>(j b y e c).1) (fun b e=>by
  rcases ow.2 with ⟨_,q⟩|⟨w,t,i,f,_⟩
  ·rw [q] at e;cases e
  ·rw [i] at e
   simp only [bI,cY,and_true] at e
   subst e
   rw [i]
   exact (j _ _ i f).2)
 simpa using this
def A5w{A2:Option aP}{c2 n1 wn:Nat}(s:Sep h g o)(ow2:bB o E7 A2 c2 xs)(ow:bB o F8 wA wc hd)(ha:∀ b,wA=some ⟨b,0,none⟩->A2≠wA)(sy:SlF h B ys)(hy:ys≠[])(hn1:n1=xs.length)(hm:m=ys.length)(hwn:wn=hd.length)(hl:xs.length<=10000)(hl2:ys.length<=10000)(hl3:hd.length<=10000){K:Option aP->Nat->Nat->aH->Prop}
 (x:∀ A3 c3 A9 c9 h9 g9 o9,g.le g9->Sep h9 g9 o9->xs.length+ys.length<=c3->SlF g9 A3 (xs++ys)->bB o9 F8 A9 c9 (hd++[(⟨A3,xs.length+ys.length,c3⟩:HV)])->K A9 (hd.length+1) c9 h9):
 wpH prog (bY #[K4,K4] K4 #[.slice A2 n1 c2,.slice B m d]) (fun v3 hp4=>∃ (a:Option aP) (b c:Nat),v3= .slice a b c/\wpH prog (cO L9 1 #[(0,.slice a b c)]) (fun v4 hp5=>∃ (a2:Option aP) (b2 c2:Nat),v4= .slice a2 b2 c2/\Heap.le hp4 hp5/\wpH prog (bY #[L9,L9] L9 #[.slice wA wn wc,.slice a2 b2 c2]) (fun v5 hp6=>∃ (a3:Option aP) (b3 c3:Nat),v5= .slice a3 b3 c3/\K a3 b3 c3 hp6) hp5) hp4) h:=by
 subst hwn
 refine OwnSl.app (ty:=K4) Sg s ow2 hn1 hm hy sy (by omega) (by omega) ?_
 intro A3 c3 G S k N D i Q
 have E:∀ b y,wA=some ⟨b,0,none⟩->o b=some y->k b=some y/\A3≠some ⟨b,0,none⟩:=fun b y e hy=>Q b y hy (fun J=>ha b e (by rw [e];exact J))
 have l:bB k F8 wA wc hd:=ow.keep fun b y e hy=>(E b y e hy).1
 have n:∀ b,wA=some ⟨b,0,none⟩->A3≠wA:=fun b e=>by
  rcases ow.2 with ⟨_,O⟩|⟨V,M,p,z,_⟩
  ·rw [O] at e;cases e
  ·rw [p] at e
   simp only [bI,cY,and_true] at e
   subst e
   rw [p]
   exact (E _ _ p z).2
 obtain ⟨t,R,A⟩:=D.give (B2n k wA)
 have sl:SlF t A3 (xs++ys):=by
  obtain ⟨b3,rfl,C,j,r⟩:=i.rowB (by simp [hy])
  have u:Un k wA b3=none:=A68 k (fun e=>n b3 e e.symm)
  have q:t b3=some (.cells ((xs++ys).flatMap enc++j).toArray C):=by
   rw [<- A.rest b3 u]
   exact D.own _ _ r
  exact RowB.slF (o:=t) ⟨C,j,q⟩ (B5 _)
 have f:=i.1
 rw [aD] at f
 rw [hm]
 refine ⟨_,_,_,rfl,?_⟩
 refine OwnSl.push (ty:=L9) B6w A l.only (y:=(⟨A3,xs.length+ys.length,c3⟩:HV)) (K1:=fun hp5=>Heap.le G hp5) rfl (by decide) (by omega) (by omega) (fun T L=>L) ?_
 intro A9 c9 h9 g9 o9 F H w _
 exact x A3 c3 A9 c9 h9 g9 o9 (B0 N (B0 R F)) H f (sl.mono F) w
end
def B6m(k:Nat):Nat->Nat->Rat:=fun a b=>if a=b/\a<k then 1 else 0
section
variable {h:aH} {K:VP} {A B:Option aP} {n cap m:Nat} {r c:Int} {la:Nat->List UInt8} {E:Nat->Rat}
def B06(hn:n<=10000)
 (hK:∀ bo h',h.le h'->cD h' (some ⟨bo,0,none⟩) n n (fun a b=>if a=b then 1 else 0)->K (.slice (some ⟨bo,0,none⟩) n n) h'):aV prog Vi #[I (n:Int)] h K:=by
 refine A95 _ ?_
 unfold C2q
 refine Gc hn hn ?_
 intro H q C bo D y t1
 refine ⟨_,_,_,rfl,fun L f=>∃ (k:Nat) (g o:aH),k<=n/\L=[I (k:Int)]/\h.le g/\Mt f g o bo D n n (B6m k),fun L _=>n-(iAt L 0).toNat,⟨0,q,C,by omega,rfl,y,t1.congr fun a b _ _=>by unfold B6m;rw [iN (by omega)]⟩,?_⟩
 rintro z f ⟨k,g,o,M,B,l,t⟩
 obtain rfl:=sI1 B
 refine B8 (fun u=>?_) (fun F=>?_)
 ·have c:k<n:=by omega
  obtain ⟨G,w,r⟩:=t.head c
  refine ⟨_,rfl,by omega,by omega,_,_,_,t.sep.cell r,?_⟩
  refine t.sep.call (B2a ⟨by omega,by omega⟩ ?_)
  intro O A d i N j
  have one:((1:Int):Rat)=1:=rfl
  rw [one] at i
  refine ⟨_,_,_,_,_,_,_,_,rfl,t.sep.le_le j d,_,rfl,by omega,by omega,?_⟩
  refine (t.next j d).store c c i ?_
  intro J p s _
  rw [wiS k (by omega)]
  refine ⟨⟨k+1,A,p,by omega,rfl,B0 l d,s.congr fun a b _ _=>?_⟩,by simp only [U9];omega⟩
  unfold A04 B6m
  by_cases e:a=k/\b=k
  ·rw [iP e,iP (by omega)]
  ·rw [iN e]
   by_cases m:a=b/\a<k
   ·rw [iP m,iP (by omega)]
   ·rw [iN m,iN (by omega)]
 ·have:k=n:=by omega
  subst this
  exact hK bo f (B0 l t.sep.le) ((t.rowsV).congr fun a b E _=>by
   unfold B6m
   by_cases e:a=b
   ·rw [iP ⟨e,E⟩,iP e]
   ·rw [iN (fun x=>e x.1),iN e])
def A41(rs:cD h A n n (mtx E n))(hn1:1<=n)(hn:n<=1000)(hm1:1<=m)(hs:∀ i,i<n*n->Sz m (E i))(hm:7^n*m<=100000000)
 (hK1:Ya E n->∀ A' c' h',h.le h'->cD h' A' n n (Li E n)->K (.tuple #[.slice A' n c',.bool true]) h')
 (hK0:¬ Ya E n->∀ h',h.le h'->K (.tuple #[.slice none 0 0,.bool false]) h'):aV prog Vk #[.slice A n cap] h K:=by
 refine B15 _ _ _ ?_
 unfold B61
 refine B06 (by omega) ?_
 intro bu h0 l0 ru
 refine ⟨_,_,_,rfl,?_⟩
 have wM:∀ k,k<n->∀ j,j<n+n->mtx (T7 E n) (n+n) k j=if j<n then mtx E n k j else if j=n+k then 1 else 0:=fun k _ j hj=>A03 E hj
 refine ⟨fun L hp=>∃ (k:Nat) (g o:aH) (D:List HV) (A':Option aP) (c':Nat),k<=n/\L=[.slice A' k c',I (k:Int)]/\h0.le g/\Sep hp g o/\bB o F8 A' c' D/\D.length=k/\Row (RWr (n+n)) g D k (mtx (T7 E n) (n+n)),fun L _=>n-(iAt L 1).toNat,
  ⟨0,h0,U1,[],none,0,by omega,rfl,B5 _,Sep.refl h0,OwnSl.nil,rfl,Row.nil⟩,?_⟩
 rintro wA a wc z hp ⟨k,g,o,D,A',c',hk,eL,M,s,ow,r,rr⟩
 obtain ⟨⟨rfl,rfl,rfl⟩,rfl⟩:=sI2 eL
 refine B8 (fun aj=>?_) (fun aq=>?_)
 ·have C:a<n:=by omega
  obtain ⟨a1,X,ag,f1,f2,ad,xs,sx,Q,qx⟩:=(RowsV.mono l0 rs).at C
  obtain ⟨a2,s2,av,f3,f4,ai,ys,sy,ab,qy⟩:=ru.at C
  have V:xs≠[]:=by rintro rfl;simp at Q;omega
  have R:ys≠[]:=by rintro rfl;simp at ab;omega
  have done:∀ {A3:Option aP} {c3:Nat} {A9:Option aP} {Z:Nat} {h9 N o9:aH},g.le N->Sep h9 N o9->xs.length+ys.length<=c3->SlF N A3 (xs++ys)->bB o9 F8 A9 Z (D++[(⟨A3,xs.length+ys.length,c3⟩:HV)])->
   ((∃ (k:Nat) (g o:aH) (hd':List HV) (A':Option aP) (c':Nat),k<=n/\[Value.slice A9 (D.length+1) Z,I (B7 ((a:Int)+1))]=[.slice A' k c',I (k:Int)]/\h0.le g/\Sep h9 g o/\bB o F8 A' c' hd'/\hd'.length=k/\Row (RWr (n+n)) g hd' k (mtx (T7 E n) (n+n)))/\n-(iAt [Value.slice A9 (D.length+1) Z,I (B7 ((a:Int)+1))] 1).toNat<n-(iAt [Value.slice wA a wc,I (a:Int)] 1).toNat):=by
   intro A3 c3 A9 Z h9 N o9 G s9 B sl p
   rw [r,wiS a (by omega)]
   refine ⟨⟨a+1,N,o9,_,A9,Z,by omega,rfl,B0 M G,s9,p,by rw [aD,r];rfl,?_⟩,?_⟩
   ·have rA:Row (RWr (n+n)) N D D.length (mtx (T7 E n) (n+n)):=by rw [r];exact rr.mono (A9z (n+n)) G
    have rB:=rA.push (w:=(⟨A3,xs.length+ys.length,c3⟩:HV)) (by
     rw [r]
     refine ⟨by rw [Q,ab],by rw [Q,ab] at B;exact B,xs++ys,sl,by rw [aD,Q,ab],?_⟩
     refine Row.app Q ((qx.mono V8 (B0 M G)).congr fun j hj=>by rw [wM a C j (by omega),iP hj]) ((qy.mono V8 (B0 M G)).congr fun j hj=>?_)
     rw [wM a C (n+j) (by omega),iN (show ¬ n+j<n by omega)]
     by_cases e:a=j
     ·rw [iP e,iP (by omega)]
     ·rw [iN e,iN (by omega)])
    rw [aD,r] at rB
    exact rB
   ·show n-((a+1:Nat):Int).toNat<n-(a:Int).toNat
    omega
  have T:h0.le hp:=B0 M s.le
  have H:xs.length<=10000:=by omega
  have ah:ys.length<=10000:=by omega
  have ae:D.length<=10000:=by omega
  refine ⟨a1,ag,by omega,by omega,_,_,_,C1 T ad,a2,av,by omega,by omega,?_,?_⟩
  ·refine ⟨_,_,_,C1 T ai,Qb Sg ?_⟩
   intro be u
   have J:=Ks s ow u
   have ac:bB (o.put be (.cells #[] E7)) F8 wA wc D:=ow.keep fun b y e hy=>by rw [B9 _ _ (fun e2=>J (by rw [e,e2]))];exact hy
   have F:=s.new u (.cells #[] E7)
   refine ⟨_,_,_,rfl,Heap.le_put _ u,?_⟩
   refine A5y F (C2 _ _ _) ac J (sx.mono (B0 M F.le)) V (by omega) H ?_
   intro A2 c2 h2 g2 o2 W f S O ha
   exact ⟨_,_,_,rfl,A5w f S O ha (sy.mono (B0 M (B0 W f.le))) R (by omega) (by omega) r.symm H ah ae fun A3 c3 A9 Z h9 N o9 G s9 B sl p=>done (B0 W G) s9 B sl p⟩
  ·refine Qb Sg ?_
   intro be u
   have J:=Ks s ow u
   have ac:bB (o.put be (.cells #[] E7)) F8 wA wc D:=ow.keep fun b y e hy=>by rw [B9 _ _ (fun e2=>J (by rw [e,e2]))];exact hy
   have F:=s.new u (.cells #[] E7)
   refine ⟨_,_,_,rfl,Heap.le_put _ u,?_,?_⟩
   ·refine ⟨_,_,_,C1 (B0 T (Heap.le_put _ u)) ai,?_⟩
    refine A5y F (C2 _ _ _) ac J (sx.mono (B0 M F.le)) V (by omega) H ?_
    intro A2 c2 h2 g2 o2 W f S O ha
    exact ⟨_,_,_,rfl,A5w f S O ha (sy.mono (B0 M (B0 W f.le))) R (by omega) (by omega) r.symm H ah ae fun A3 c3 A9 Z h9 N o9 G s9 B sl p=>done (B0 W G) s9 B sl p⟩
   ·refine A5y F (C2 _ _ _) ac J (sx.mono (B0 M F.le)) V (by omega) H ?_
    intro A2 c2 h2 g2 o2 W f S O ha
    exact ⟨_,_,_,rfl,_,_,_,C1 (B0 M (B0 W f.le)) ai,A5w f S O ha (sy.mono (B0 M (B0 W f.le))) R (by omega) (by omega) r.symm H ah ae fun A3 c3 A9 Z h9 N o9 G s9 B sl p=>done (B0 W G) s9 B sl p⟩
 have C:a=n:=by omega
 subst C
 have ay:cD hp wA a (a+a) (mtx (T7 E a) (a+a)):=RowsV.of ⟨D,ow.slF s.ole,r,rr.mono (A9z (a+a)) s.le⟩
 have au:=B2x (A02 hm1 hs)
 have T:h.le hp:=B0 l0 (B0 M s.le)
 refine A0z (m:=m) ay hn1 (by omega) (by omega) (by omega) (by omega) hm1 au hm ?_
 intro h2 g2 o2 bo a3 c2 A2 aw wd W t ao ap iq
 refine ⟨_,_,_,_,_,_,_,_,_,_,_,_,_,_,rfl,?_⟩
 have az:(ecE (mtx (T7 E a) (a+a)) a a).cs.length<=a:=(A1m _ a a).1
 have ak:Ya E a↔(ecE (mtx (T7 E a) (a+a)) a a).cs.length=a:=Iff.rfl
 have ax:=t.rowsV
 have lh:=B0 T (B0 W t.sep.le)
 refine B8 (fun aj=>hK0 (fun hx=>by have:=ak.1 hx;omega) _ lh) (fun aq=>?_)
 have ar:=hK1 (ak.2 (by omega))
 clear t ao ap iq
 refine ⟨fun L hp=>∃ (k:Nat) (g o:aH) (D:List HV) (A':Option aP) (c':Nat),k<=a/\L=[.slice A' k c',I (k:Int)]/\h2.le g/\Sep hp g o/\bB o F8 A' c' D/\D.length=k/\Row (RWr a) g D k (Li E a),fun L _=>a-(iAt L 1).toNat,
  ⟨0,h2,U1,[],none,0,by omega,rfl,B5 _,Sep.refl h2,OwnSl.nil,rfl,Row.nil⟩,?_⟩
 rintro vA vn vc z q ⟨k,g5,o5,af,A',c',hk,eL,aa,s5,al,d,an⟩
 obtain ⟨⟨rfl,rfl,rfl⟩,rfl⟩:=sI2 eL
 refine B8 (fun aj=>?_) (fun a0=>?_)
 ·have C:vn<a:=by omega
  obtain ⟨a1,X,ag,f1,f2,ad,am⟩:=ax.at C
  refine ⟨a1,ag,by omega,by omega,_,_,_,C1 (B0 aa s5.le) ad,⟨by omega,by omega⟩,?_⟩
  simp only [aE]
  rw [f1]
  have ep:a+a-a=a:=by omega
  rw [ep]
  have cut:aU NQr h2 (H9 X.A X.c a 4) a (Li E a vn):=by
   obtain ⟨xs,sx,hx,rx⟩:=am
   refine ⟨(xs.drop a).take (a+a-a),sx.cut (l:=a) (m:=a+a) (by omega) (by omega) (by omega),by simp;omega,fun i hi=>?_⟩
   obtain ⟨w,e1,hw⟩:=rx (a+i) (by omega)
   exact ⟨w,by rw [List.getElem?_take,iP (by omega),List.getElem?_drop];exact e1,hw⟩
  refine L7 (ty:=L9) B6w s5 al d.symm (y:=(⟨H9 X.A X.c a 4,a,X.c-a⟩:HV)) rfl (by decide) (by rw [d];omega) (by rw [d];omega) ?_
  intro A9 Z h9 N o9 G s9 p _
  rw [d,wiS vn (by omega)]
  refine ⟨⟨vn+1,N,o9,_,A9,Z,by omega,rfl,B0 aa G,s9,p,by rw [aD,d];rfl,?_⟩,?_⟩
  ·have rA:Row (RWr a) N af af.length (Li E a):=by rw [d];exact an.mono (A9z a) G
   have rB:=rA.push (w:=(⟨H9 X.A X.c a 4,a,X.c-a⟩:HV)) (by
    rw [d]
    exact ⟨rfl,by show a<=X.c-a;omega,cut.mono V8 (B0 aa G)⟩)
   rw [aD,d] at rB
   exact rB
  ·show a-((vn+1:Nat):Int).toNat<a-(vn:Int).toNat
   omega
 ·have:vn=a:=by omega
  subst this
  exact ar vA vc q (B0 lh (B0 aa s5.le)) (RowsV.of ⟨af,al.slF s5.ole,d,an.mono (A9z vn) s5.le⟩)
end
def B3a{E:Nat->Rat}{n m:Nat}(hm:1<=m)(hs:∀ i,i<n*n->Sz m (E i))(h:Ya E n):∀ i j,i<n->j<n->Sz (3^n*bnd (n+n) m) (Li E n i j):=by
 intro i j b f
 have d:=B3w (E:=T7 E n) (rows:=n) (cols:=n+n) (c:=n) (A02 hm hs) (by omega)
 have a:=A8j (T7 E n) n (n+n) n (bnd (n+n) m)
 have e:(elE (T7 E n) n (n+n) n).cs.length=n:=h
 have ev:=B9p (T7 E n) (rows:=n) (cols:=n+n) (c:=n) (by omega) b (show n+j<n+n by omega) (.inl (by omega))
 show Sz _ ((elE (T7 E n) n (n+n) n).R i (n+j))
 rw [<- ev]
 exact (U3 (B3y _ _ _ _) (d.M i (n+j) b (by omega)) d.last).mono a
section
variable {h:aH} {K:VP} {A:Option aP} {n ac N cap:Nat} {r c:Int} {la:Nat->List UInt8}
end
section
variable {h:aH} {A:Option aP} {n cap:Nat} {r c:Int} {ls:Nat->List UInt8}
end
def B3h(M:Nat->Nat->Rat){w i j:Nat}(hj:j<w):mtx (rvs (Db M w)) w i j=M i j:=by
 obtain ⟨a,b⟩:=A45 (i:=i) hj
 show rv (K9 (M ((i*w+j)/w) ((i*w+j)%w)))=_
 rw [Hx,a,b]
def B7n{M:Nat->Nat->Rat}{q:Nat}{r:Int}(hr:r=q)(h1:1<=q)(h2:q<=64):MOk r r (q*q) (Db M q) q q:=⟨hr,hr,h1,h2,h1,h2,rfl,fun _ _=>⟨_,rfl⟩⟩
def Td{M:Nat->Nat->Rat}{q m:Nat}(hq:1<=q)(hs:∀ i j,i<q->j<q->Sz m (M i j)):∀ i,i<q*q->Sz m (rv (Db M q i)):=by
 intro i a
 show Sz m (rv (K9 _))
 rw [Hx]
 exact hs _ _ (aJ a) (bJ i (by omega))
def A40{M:Nat->Nat->Rat}{q m:Nat}(hq:1<=q)(hs:∀ i j,i<q->j<q->Sz m (M i j)):∀ i,i<q*q->(Db M q i).length<=2*m+4:=by
 intro i a
 exact A7l (hs _ _ (aJ a) (bJ i (by omega)))
section
variable {h:aH} {K:VP} {A:Option aP} {n cap m:Nat} {r c:Int} {la:Nat->List UInt8}
end
def bvF(ls:Nat->List UInt8)(ln:Nat):Nat->Rat:=fun t=>if t<ln then rv (ls t) else 0
def C39(E:Nat->Rat)(q:Nat):Nat->Nat->Rat:=fun a b=>sm q fun t=>mtx E q t a*mtx E q t b
def B92(ls:Nat->List UInt8)(ln:Nat)(cs:Nat->List UInt8)(cn q:Nat):Nat->Nat->Rat:=fun a b=>C39 (bvF ls ln) q a b-if a=b/\a<cn then rv (cs a) else 0
def C3a{w m m2:Nat}{f f2:Nat->Rat}(hs:∀ i,i<w->Sz m (f i))(hs2:∀ i,i<w->Sz m2 (f2 i)):∀ k,k<=w->Sz (1+k*(m+m2+1)) (sm k (fun j=>f j*f2 j)):=by
 intro k
 induction k with
 | zero=>intro _;exact Sz.zero (by omega)
 | succ k ih=>
  intro c
  have a:=ih (by omega)
  have b:=(hs k (by omega)).mul (hs2 k (by omega))
  have e:1+(k+1)*(m+m2+1)=1+k*(m+m2+1)+(m+m2)+1:=by rw [aT];omega
  rw [e]
  exact a.add b
def B9s{ls:Nat->List UInt8}{ln:Nat}(hl:∀ i,i<ln->(ls i).length<=8)(t:Nat):Sz 32 (bvF ls ln t):=by
 unfold bvF
 split
 ·exact B24 (k:=8) (hl t (by assumption)) (by omega)
 ·exact Sz.zero (by omega)
def B1x{E:Nat->Rat}{q:Nat}(hE:∀ t,Sz 32 (E t))(hq:q<=4)(a b:Nat):Sz 261 (C39 E q a b):=by
 have:=C3a (w:=q) (f:=fun t=>mtx E q t a) (f2:=fun t=>mtx E q t b) (fun t _=>hE _) (fun t _=>hE _) q (aC _)
 exact this.mono (by omega)
def B1y{ls cs:Nat->List UInt8}{ln cn q:Nat}(hl:∀ i,i<ln->(ls i).length<=8)(hc:∀ i,i<cn->(cs i).length<=8)(hq:q<=4)(a b:Nat):Sz 294 (B92 ls ln cs cn q a b):=by
 refine ((B1x (B9s hl) hq a b).sub (n:=32) ?_).mono (by omega)
 split
 ·rename_i e;exact B24 (k:=8) (hc a e.2) (by omega)
 ·exact Sz.zero (by omega)
section
variable {h:aH} {K:VP} {A B lA cA:Option aP} {n ln lc cn cc cap cap2 m m2:Nat} {ls cs:Nat->List UInt8} {R:Nat->Nat->Rat} {f:Nat->Rat}
def B03{n:Int}(hK:∀ k:Nat,k<4->K (I (k:Int)) h):aV prog B3q #[I n,I 4] h K:=by
 refine C2p _ _ ?_
 unfold C7k
 have c:=Int.tmod_lt_of_pos n (show (0:Int)<4 by decide)
 have d: -4<cK n 4:=by
  have:=Int.lt_tmod_of_pos n (show (0:Int)<4 by decide)
  omega
 refine B8 (fun e=>by omega) (fun _=>B8 (fun b=>?_) (fun a=>?_))
 ·have:=hK (cK n 4+4).toNat (by omega)
  rw [show B7 (cK n 4+4)=(((cK n 4+4).toNat:Nat):Int) by rw [C0]<;>omega]
  exact this
 ·have:=hK (cK n 4).toNat (by omega)
  rw [show ((cK n 4).toNat:Int)=cK n 4 by omega] at this
  exact this
def Ur{n:Int}(rl:aU SSr h lA ln ls)(rc:aU SSr h cA cn cs)(hl:∀ i,i<ln->(ls i).length<=8)(hc:∀ i,i<cn->(cs i).length<=8)
 (hK:∀ q,1<=q->q<=4->∀ A' c' h',h.le h'->q*q<=c'->aU SSr h' A' (q*q) (Db (B92 ls ln cs cn q) q)->K (Hb q q A' (q*q) c') h'):aV prog Im #[.slice lA ln lc,I n,.slice cA cn cc] h K:=by
 refine A29 _ _ _ _ _ _ _ ?_
 unfold Zs
 refine B03 ?_
 intro k hk
 refine ⟨_,rfl,?_⟩
 rw [wiS k (by omega)]
 have F:1<=k+1:=by omega
 have J:k+1<=4:=by omega
 generalize k+1=q at *
 have ap:q*q<=4*4:=aL J J
 rw [wiM q q (by omega)]
 have sE:=B9s hl
 refine ⟨fun L M=>∃ (k:Nat) (g o:aH) (xs:List QV) (A':Option aP) (c':Nat),k<=q*q/\L=[.slice A' k c',I (k:Int)]/\h.le g/\Sep M g o/\bB o E7 A' c' xs/\xs.length=k/\Row NQr g xs k (bvF ls ln),fun L _=>q*q-(iAt L 1).toNat,⟨0,h,U1,[],none,0,by omega,rfl,B5 _,Sep.refl h,OwnSl.nil,rfl,Row.nil⟩,?_⟩
 rintro bA C S z M ⟨k,g,o,xs,A',c',hk,eL,G,s,Q,E,rr⟩
 obtain ⟨⟨rfl,rfl,rfl⟩,rfl⟩:=sI2 eL
 have af:=B0 G s.le
 refine B8 (fun ac=>?_) (fun V=>?_)
 ·have ab:C<q*q:=by omega
  have ew:B7 ((C:Int)+1)=((C+1:Nat):Int):=by rw [C0]<;>omega
  have step:∀ {h1 g1:aH} (w:QV),Sep h1 g1 o->g.le g1->NQ g1 w (bvF ls ln C)->wpH prog (cO K4 1 #[(0,w.v)]) (fun v' M=>∃ (B:Option aP) (m d:Nat),v'= .slice B m d/\wpH prog (bY #[K4,K4] K4 #[.slice bA C S,.slice B m d]) (fun v1 am=>∃ (A':Option aP) (n' c':Nat),v1= .slice A' n' c'/\(∃ (k:Nat) (g o:aH) (xs:List QV) (A2:Option aP) (c2:Nat),k<=q*q/\[.slice A' n' c',I (B7 ((C:Int)+1))]=[.slice A2 k c2,I (k:Int)]/\h.le g/\Sep am g o/\bB o E7 A2 c2 xs/\xs.length=k/\Row NQr g xs k (bvF ls ln))/\q*q-(iAt [.slice A' n' c',I (B7 ((C:Int)+1))] 1).toNat<q*q-(iAt [.slice bA C S,I (C:Int)] 1).toNat) M) h1:=by
   intro h1 g1 w s1 T iw
   refine L7 (n:=C) Sg s1 Q E.symm (y:=w) rfl (by decide) (by omega) (by omega) ?_
   intro A3 c3 h3 g3 o3 l3 s3 W _
   rw [E,ew]
   refine ⟨⟨C+1,g3,o3,_,A3,c3,by omega,rfl,B0 G (B0 T l3),s3,W,by rw [aD,E];rfl,?_⟩,?_⟩
   ·have r:=Row.push (R:=NQr) (g:=g3) (xs:=xs) (f:=bvF ls ln) (w:=w) (by rw [E];exact rr.mono V8 (B0 T l3)) (by rw [E];exact NQ.mono l3 iw)
    rw [aD,E] at r
    exact r
   ·show q*q-((C+1:Nat):Int).toNat<q*q-((C:Nat):Int).toNat
    omega
  refine B8 (fun ak=>?_) (fun ak=>?_)
  ·have aa:C<ln:=by omega
   obtain ⟨u,eu,Z⟩:=(rl.mono O3 af).sat aa
   refine ⟨u,eu,by omega,by omega,_,Z,?_⟩
   refine s.call (A7z (by have:=hl C aa;omega) ?_)
   intro w g1 T iw h1 s1
   refine ⟨_,_,_,_,_,_,_,_,rfl,?_⟩
   refine step w s1 T ?_
   unfold bvF
   rw [iP aa]
   exact iw
  ·refine step As s (B5 _) ?_
   unfold bvF
   rw [iN (by omega)]
   exact NQ.zero
 ·have ab:C=q*q:=by omega
  subst ab
  have rb:aU NQr M bA (q*q) (bvF ls ln):=⟨xs,Q.slF s.ole,E,rr.mono V8 s.le⟩
  have ah:q*q<=S:=by have:=Q.1;omega
  clear s Q rr G
  refine ⟨fun L hx=>∃ (k:Nat) (g o:aH) (hd:List HV) (A':Option aP) (c':Nat),k<=q/\L=[.slice A' k c',I (k:Int)]/\M.le g/\Sep hx g o/\bB o F8 A' c' hd/\hd.length=k/\∀ i,i<k->∃ s,hd[i]? = some s/\s.n=q/\q<=s.c/\aU NQr M s.A q (mtx (bvF ls ln) q i),fun L _=>q-(iAt L 1).toNat,⟨0,M,U1,[],none,0,by omega,rfl,B5 _,Sep.refl M,OwnSl.nil,rfl,fun i hi=>by omega⟩,?_⟩
  rintro rA p au z hx ⟨k,g,o,hd,A',c',hk,eL,G,s,Q,H,O⟩
  obtain ⟨⟨rfl,rfl,rfl⟩,rfl⟩:=sI2 eL
  have ai:=B0 af (B0 G s.le)
  refine B8 (fun ac=>?_) (fun V=>?_)
  ·have D:p<q:=by omega
   have h2:(p+1)*q<=q*q:=aG _ D
   have h3:(p+1)*q=p*q+q:=by rw [aT,bF]
   have e0:B7 ((p:Int)+1)=((p+1:Nat):Int):=C0 (by omega) (by omega)
   have e1:B7 ((p:Int)*(q:Int))=((p*q:Nat):Int):=by rw [<- aM];exact K3 (by omega)
   have e2:B7 (B7 ((p:Int)+1)*(q:Int))=(((p+1)*q:Nat):Int):=by rw [e0,<- aM];exact K3 (by omega)
   rw [e1,e2,e0]
   refine ⟨⟨by omega,by omega⟩,⟨by omega,by simp only [aE];omega⟩,?_⟩
   simp only [aE]
   have e5:(p+1)*q-p*q=q:=by omega
   rw [e5]
   have row:aU NQr M (H9 bA S (p*q) 4) q (mtx (bvF ls ln) q p):=rb.cut (c:=S) (l:=p*q) (k:=q) (by omega) ah
   refine L7 (ty:=L9) (n:=p) B6w s Q H.symm (y:=(⟨H9 bA S (p*q) 4,q,S-p*q⟩:HV)) rfl (by decide) (by omega) (by omega) ?_
   intro A3 c3 h3 g3 o3 l3 s3 W _
   rw [H]
   refine ⟨⟨p+1,g3,o3,_,A3,c3,by omega,rfl,B0 G l3,s3,W,by rw [aD,H];rfl,fun i hi=>?_⟩,?_⟩
   ·by_cases e:i=p
    ·subst e
     exact ⟨_,by rw [cV (by omega),H,Nat.sub_self];rfl,rfl,by show q<=S-i*q;omega,row⟩
    ·obtain ⟨u,f1,f2,f3,f4⟩:=O i (by omega)
     exact ⟨u,by rw [cW (by omega)];exact f1,f2,f3,f4⟩
   ·show q-((p+1:Nat):Int).toNat<q-((p:Nat):Int).toNat
    omega
  ·have ag:p=q:=by omega
   subst ag
   have rs:cD hx rA p p (mtx (bvF ls ln) p):=⟨hd,Q.slF s.ole,H,fun i hi=>by
    obtain ⟨u,f1,f2,f3,f4⟩:=O i hi
    exact ⟨u,f1,f2,f3,f4.mono V8 (B0 G s.le)⟩⟩
   clear s Q G
   refine Yq rs F (by omega) (by omega) ?_
   intro b1 h1 T rt
   refine ⟨_,_,_,rfl,?_⟩
   refine Rp (m:=32) rt (rs.mono T) F (by omega) F (by omega) F (by omega) (fun i j _ _=>sE _) (fun i j _ _=>sE _) (by omega) ?_
   intro h2 g2 o2 bo ro l2 t2
   refine ⟨_,_,_,rfl,fun L hy=>∃ (k:Nat) (g o:aH),k<=p/\k<=cn/\L=[I (k:Int)]/\h.le g/\Mt hy g o bo ro p p (fun a b=>C39 (bvF ls ln) p a b-if a=b/\a<k then rv (cs a) else 0),fun L _=>p-(iAt L 0).toNat,⟨0,g2,o2,by omega,by omega,rfl,B0 ai (B0 T l2),t2.congr fun a b _ _=>by rw [iN (by omega),bG,Rat.neg_zero,aN];rfl⟩,?_⟩
   clear t2
   rintro z3 hy ⟨k,g,o,aq,ao,eL,G,t⟩
   obtain rfl:=sI1 eL
   have ad:(k=p\/k=cn)->aV prog Lw #[.slice (some ⟨bo,0,none⟩) p p] hy (fun r6 ae=>∃ (t900:Int) (t901:Int) (t902A:Option aP) (t902n:Nat) (t902c:Nat),r6= .agg #[I t900,I t901,.slice t902A t902n t902c]/\K (.agg #[I t900,I t901,.slice t902A t902n t902c]) ae):=fun hx=>by
    have rM:cD hy (some ⟨bo,0,none⟩) p p (B92 ls ln cs cn p):=t.rowsV.congr fun a b ha _=>by
     unfold B92
     congr 1
     by_cases e:a=b/\a<cn
     ·rw [iP e,iP ⟨e.1,by omega⟩]
     ·rw [iN e,iN (fun x=>e ⟨x.1,by omega⟩)]
    refine Qe (m:=294) rM (by omega) F (by omega) F (fun i j _ _=>B1y hl hc J i j) (by omega) ?_
    intro A9 c9 h9 l9 al r9
    exact ⟨_,_,_,_,_,rfl,hK p F J A9 c9 h9 (B0 G (B0 t.sep.le l9)) al r9⟩
   refine B8 (fun ac=>?_) (fun V=>ad (.inl (by omega)))
   refine B8 (fun an=>?_) (fun V=>ad (.inr (by omega)))
   have D:k<p:=by omega
   have X:k<cn:=by omega
   obtain ⟨ch,ar,hh⟩:=t.head D
   obtain ⟨x,ix,x0,x1,x2,x3⟩:=t.elem D D
   rw [iN (by omega)] at ix
   have N:=t.sep
   have aj:=B0 G N.le
   obtain ⟨u,eu,Z⟩:=(rc.mono O3 aj).sat X
   refine ⟨_,rfl,by omega,by omega,_,_,_,N.cell hh,_,rfl,by omega,by omega,_,_,_,N.cell hh,_,rfl,by omega,by omega,_,_,_,_,_,_,_,_,N.cell x0,N.cell x1,N.cell x2,N.cell x3,u,eu,by omega,by omega,_,Z,?_⟩
   refine N.call (A7z (by have:=hc k X;omega) ?_)
   intro w7 g7 l7 i7 h7 s7
   refine ⟨_,_,_,_,_,_,_,_,rfl,N.le_le s7 l7,?_⟩
   have z1:Sz 300 (C39 (bvF ls ln) p k k-0):=((B1x sE J k k).sub (Sz.zero (m:=1) (aC 1))).mono (by omega)
   refine s7.call (Hy (m:=300) (NQ.mono l7 ix) i7 z1 ((B24 (k:=8) (hc k X) (by omega)).mono (by omega)) (by omega) ?_)
   intro w8 g8 l8 i8 h8 s8
   refine ⟨_,_,_,_,_,_,_,_,rfl,s7.le_le s8 l8,_,rfl,by omega,by omega,?_⟩
   refine ((t.next s7 l7).next s8 l8).store D D i8 ?_
   intro h9 o9 t9 _
   rw [wiS k (by omega)]
   refine ⟨⟨k+1,g8,o9,by omega,by omega,rfl,B0 G (B0 l7 l8),t9.congr fun a b _ _=>?_⟩,by simp only [U9];omega⟩
   unfold A04
   by_cases e:a=k/\b=k
   ·rw [iP e,e.1,e.2,iP ⟨rfl,by omega⟩,bG (C39 _ _ _ _) 0,Rat.neg_zero,aN]
   ·rw [iN e]
    dsimp only
    by_cases e2:a=b/\a<k
    ·rw [iP e2,iP ⟨e2.1,by omega⟩]
    ·rw [iN e2,iN (by omega)]
def A6b(rl:aU SSr h lA ln ls)(rc:aU SSr h cA cn cs)(hK1:ln<=20->cn<=8->(∀ i,i<ln->(ls i).length<=8)->(∀ i,i<cn->(cs i).length<=8)->K (.bool true) h)(hK0:K (.bool false) h):aV prog A1d #[.slice lA ln lc,.slice cA cn cc] h K:=by
 refine B5r _ _ _ _ _ _ ?_
 unfold C0d
 refine B8 (fun d=>?_) (fun _=>hK0)
 refine B8 (fun e=>?_) (fun _=>hK0)
 refine Ut rl (by omega) (fun c=>⟨_,rfl,Kt ?_⟩) (fun _=>⟨_,rfl,Br.no hK0⟩)
 refine Ut rc (by omega) (fun b=>⟨_,rfl,hK1 (by omega) (by omega) (fun i a=>by have:=c i a;omega) (fun i a=>by have:=b i a;omega)⟩) (fun _=>⟨_,rfl,hK0⟩)
def C0y{q:Nat}(h:q<=4):3^q*bnd q 294+bnd q 294<=121000:=by
 have a:bnd q 294<=1471:=by unfold bnd;omega
 have c:3^q*bnd q 294<=3^4*1471:=aL (Nat.pow_le_pow_right (show 3>0 by decide) h) a
 have b:3^4*1471=119151:=by decide
 omega
end
end Go.Proofs.YtmbfcbbkbefgfaaGreatDoor
namespace Go.Proofs.YtmbfcbbkbefgfaaGreatDoor
set_option maxRecDepth 20000
def B6z{k a:Nat}(ha:a<=k)(t:Nat->Rat):sm (k+1) t=t a+sm k (fun i=>t (rhx a i)):=by
 rw [B94 ha]
 have e:sm (k+1) t=sm (k+1) (fun i=>if i=a then t a else 0)+sm (k+1) (fun i=>if i=a then 0 else t i):=by
  rw [<- Aw]
  refine D0 fun i _=>?_
  by_cases c:i=a
  ·rw [iP c,iP c,c,aN]
  ·rw [iN c,iN c,Rat.zero_add]
 rw [e,Ni (show a<k+1 by omega) fun i _ c=>iN c,iP rfl]
def C1f:∀ (L:List (Nat->Rat)) (n:Nat),L.length<n->∃ x:Nat->Rat,(∃ j,j<n/\x j≠0)/\∀ f∈L,sm n (fun j=>f j*x j)=0:=by
 intro L
 generalize hm:L.length=m
 induction m generalizing L with
 | zero=>
  intro n s
  have:L=[]:=List.length_eq_zero_iff.1 hm
  subst this
  exact ⟨fun _=>1,⟨0,s,by decide +kernel⟩,fun f B=>by cases B⟩
 | succ m ih=>
  intro n s
  match L,hm with
  | f::L,hm=>
   have u:L.length=m:=by simpa using hm
   by_cases h:∀ j,j<n->f j=0
   ·obtain ⟨x,D,o⟩:=ih L u n (by omega)
    refine ⟨x,D,fun g r=>?_⟩
    rcases List.mem_cons.1 r with e|e
    ·rw [e];exact Hv fun j l=>by rw [h j l,aX]
    ·exact o g e
   ·have:∃ a,a<n/\f a≠0:=aQ fun c=>h fun j l=>aQ fun A=>c ⟨j,l,A⟩
    obtain ⟨a,E,z⟩:=this
    obtain ⟨k,rfl⟩:∃ k,n=k+1:=⟨n-1,by omega⟩
    obtain ⟨y,⟨j,l,w⟩,o⟩:=ih (L.map fun g=>fun j=>g (rhx a j)-g a/f a*f (rhx a j)) (by simpa using u) k (by omega)
    have d:∀ i,(if rhx a i<a then rhx a i else rhx a i-1)=i:=fun i=>by unfold rhx;repeat' split
                                                                       all_goals omega
    refine ⟨fun b=>if b=a then-(sm k (fun i=>f (rhx a i)*y i)/f a) else y (if b<a then b else b-1),⟨rhx a j,A3c l,?_⟩,fun g r=>?_⟩
    ·show (if rhx a j=a then _ else _)≠(0:Rat)
     rw [iN (B27 a j),d];exact w
    ·rw [B6z (show a<=k by omega)]
     have p:sm k (fun i=>g (rhx a i)*(if rhx a i=a then-(sm k (fun i=>f (rhx a i)*y i)/f a) else y (if rhx a i<a then rhx a i else rhx a i-1)))=sm k (fun i=>g (rhx a i)*y i):=D0 fun i _=>by rw [iN (B27 a i),d]
     show g a*(if a=a then _ else _)+sm k (fun i=>g (rhx a i)*(if rhx a i=a then _ else _))=0
     rw [iP rfl,p]
     rcases List.mem_cons.1 r with e|e
     ·rw [e]
      generalize sm k (fun i=>f (rhx a i)*y i)=q
      clear p h ih o
      grind
     ·have C:=o _ (List.mem_map.2 ⟨g,e,rfl⟩)
      have t:sm k (fun i=>(g (rhx a i)-g a/f a*f (rhx a i))*y i)=sm k (fun i=>g (rhx a i)*y i)-g a/f a*sm k (fun i=>f (rhx a i)*y i):=by
       rw [bG,<- Ep,<- Nj,<- Aw]
       exact D0 fun i _=>by grind
      rw [t] at C
      generalize sm k (fun i=>f (rhx a i)*y i)=q at *
      generalize sm k (fun i=>g (rhx a i)*y i)=q' at *
      clear p h ih o t
      grind
def A34{n:Nat}{f:Nat->Rat}(h:∀ i,i<n->0<=f i):0<=sm n f:=by
 induction n with
 | zero=>exact Rat.le_refl
 | succ n ih=>
  show 0<=sm n f+f n
  have b:=ih fun i a=>h i (by omega)
  have c:=h n (by omega)
  grind
def Xe{n:Nat}{f:Nat->Rat}(h:∀ i,i<n->0<=f i)(hz:sm n f<=0):∀ i,i<n->f i=0:=by
 induction n with
 | zero=>intro i a;omega
 | succ n ih=>
  have e:sm (n+1) f=sm n f+f n:=rfl
  rw [e] at hz
  have b:=A34 fun i (a:i<n)=>h i (by omega)
  have d:=h n (by omega)
  intro i a
  by_cases c:i=n
  ·rw [c];grind
  ·exact ih (fun i a=>h i (by omega)) (by grind) i (by omega)
def A33(q:Rat):0<=q*q:=by
 rcases Rat.le_total (a:=0) (b:=q) with h|h
 ·exact cI h h
 ·have c:0 <= -q:=by grind
  have:=cI c c
  grind
def C10{q:Rat}(h:q*q=0):q=0:=by
 rcases Rat.mul_eq_zero.1 h with e|e<;>exact e
def ev(n:Nat)(f x:Nat->Rat):Rat:=sm n fun j=>f j*x j
structure Diag (n:Nat) (A:Nat->Nat->Rat) (d:Nat->Rat) (F:Nat->Nat->Rat):Prop where
 val:∀ x,qf n A x=sm n fun m=>d m*(ev n (F m) x*ev n (F m) x)
 inj:∀ x,(∀ m,m<n->ev n (F m) x=0)->∀ j,j<n->x j=0
def Bg(d:Nat->Rat):Nat->Nat
 | 0=>0
 | n+1=>Bg d n+if 0<d n then 1 else 0
def Ec(d:Nat->Rat):Nat->Nat
 | 0=>0
 | n+1=>Ec d n+if d n<0 then 1 else 0
def Uo(d:Nat->Rat):Nat->Nat
 | 0=>0
 | n+1=>Uo d n+if d n=0 then 1 else 0
def C52(d:Nat->Rat):∀ n,Bg d n+Uo d n+Ec d n=n:=by
 intro n
 induction n with
 | zero=>rfl
 | succ n ih=>
  show Bg d n+(if 0<d n then 1 else 0)+(Uo d n+if d n=0 then 1 else 0)+(Ec d n+if d n<0 then 1 else 0)=n+1
  have:(if 0<d n then 1 else 0)+(if d n=0 then 1 else 0)+(if d n<0 then 1 else 0)=1:=by
   by_cases a:0<d n
   ·rw [iP a,iN (by grind),iN (by grind)]
   ·by_cases b:d n=0
    ·rw [iN a,iP b,iN (by grind)]
    ·rw [iN a,iN b,iP (by grind)]
  omega
def B2s(d:Nat->Rat):∀ n,Ec d n=Bg (fun m=> - d m) n:=by
 intro n
 induction n with
 | zero=>rfl
 | succ n ih=>
  show Ec d n+(if d n<0 then 1 else 0)=Bg (fun m=> - d m) n+if 0 < - d n then 1 else 0
  rw [ih]
  congr 1
  by_cases a:d n<0
  ·rw [iP a,iP (by grind)]
  ·rw [iN a,iN (by grind)]
def A87(d:Nat->Rat):∀ n,((cU n).filter fun m=>decide (0<d m)).length=Bg d n/\((cU n).filter fun m=>decide (¬ 0<d m)).length+Bg d n=n:=by
 intro n
 induction n with
 | zero=>exact ⟨rfl,rfl⟩
 | succ n ih=>
  rw [List.range_succ,List.filter_append,List.filter_append,aD,aD]
  show _=Bg d n+(if 0<d n then 1 else 0)/\_+(Bg d n+if 0<d n then 1 else 0)=n+1
  by_cases a:0<d n
  ·simp only [List.filter_cons,a,decide_true,not_true_eq_false,decide_false,List.filter_nil,if_true,List.length_cons,cH]
   simp only [Bool.false_eq_true,if_false,cH]
   omega
  ·simp only [List.filter_cons,a,decide_false,not_false_eq_true,decide_true,List.filter_nil,if_true,List.length_cons,cH]
   simp only [Bool.false_eq_true,if_false,cH]
   omega
def Diag.pos_le{n:Nat}{A:Nat->Nat->Rat}{d d':Nat->Rat}{F F':Nat->Nat->Rat}(D:Diag n A d F)(D':Diag n A d' F'):Bg d n<=Bg d' n:=by
 refine aQ fun k=>?_
 have q:=(A87 d n).2
 have r:=(A87 d' n).1
 obtain ⟨x,⟨j,p,l⟩,h⟩:=C1f (((cU n).filter fun m=>decide (¬ 0<d m)).map F++((cU n).filter fun m=>decide (0<d' m)).map F') n (by
  rw [aD,List.length_map,List.length_map];omega)
 have f:∀ m,m<n->¬ 0<d m->ev n (F m) x=0:=fun m a b=>h (F m) (List.mem_append.2 (.inl (List.mem_map.2 ⟨m,List.mem_filter.2 ⟨List.mem_range.2 a,decide_eq_true b⟩,rfl⟩)))
 have o:∀ m,m<n->0<d' m->ev n (F' m) x=0:=fun m a b=>h (F' m) (List.mem_append.2 (.inr (List.mem_map.2 ⟨m,List.mem_filter.2 ⟨List.mem_range.2 a,decide_eq_true b⟩,rfl⟩)))
 have i:∀ m,m<n->0<=d m*(ev n (F m) x*ev n (F m) x):=fun m a=>by
  by_cases c:0<d m
  ·exact cI (by grind) (A33 _)
  ·rw [f m a c];grind
 have g:qf n A x<=0:=by
  rw [D'.val]
  have:0<=sm n fun m=> - (d' m*(ev n (F' m) x*ev n (F' m) x)):=A34 fun m a=>by
   by_cases c:0<d' m
   ·rw [o m a c];grind
   ·have:=cI (show 0 <= - d' m by grind) (A33 (ev n (F' m) x))
    grind
  rw [Nj] at this
  grind
 rw [D.val] at g
 have z:=Xe i g
 refine l (D.inj x (fun m a=>?_) j p)
 by_cases c:0<d m
 ·refine C10 ?_
  rcases Rat.mul_eq_zero.1 (z m a) with e|e
  ·rw [e] at c;exact absurd c (by decide +kernel)
  ·exact e
 ·exact f m a c
def Diag.neg{n:Nat}{A:Nat->Nat->Rat}{d:Nat->Rat}{F:Nat->Nat->Rat}(D:Diag n A d F):Diag n (fun i j=> - A i j) (fun m=> - d m) F:=by
 refine ⟨fun x=>?_,D.inj⟩
 have e:qf n (fun i j=> - A i j) x= - qf n A x:=by
  unfold qf
  rw [<- Nj]
  refine D0 fun i _=>?_
  rw [show (sm n fun j=> - A i j*x j)= - sm n (fun j=>A i j*x j) by rw [<- Nj];exact D0 fun j _=>by grind]
  grind
 rw [e,D.val,<- Nj]
 exact D0 fun m _=>by grind
def Diag.same{n:Nat}{A:Nat->Nat->Rat}{d d':Nat->Rat}{F F':Nat->Nat->Rat}(D:Diag n A d F)(D':Diag n A d' F'):Bg d n=Bg d' n/\Uo d n=Uo d' n/\Ec d n=Ec d' n:=by
 have b:=Nat.le_antisymm (D.pos_le D') (D'.pos_le D)
 have a:=Nat.le_antisymm (D.neg.pos_le D'.neg) (D'.neg.pos_le D.neg)
 rw [<- B2s,<- B2s] at a
 have:=C52 d n
 have:=C52 d' n
 omega
structure PD (n k:Nat) (A0:Nat->Nat->Rat) (d:Nat->Rat) (F A:Nat->Nat->Rat):Prop where
 val:∀ x,qf n A0 x=sm k (fun m=>d m*(ev n (F m) x*ev n (F m) x))+qf n A (fun i=>ev n (F i) x)
 inj:∀ x,(∀ m,m<n->ev n (F m) x=0)->∀ j,j<n->x j=0
 zero:∀ i j,i<n->j<n->i<k\/j<k->A i j=0
 symm:A5d n A
def B3u{n:Nat}{i:Nat}(hi:i<n)(x:Nat->Rat):ev n (fun j=>if j=i then 1 else 0) x=x i:=by
 show (sm n fun j=>(if j=i then (1:Rat) else 0)*x j)=x i
 rw [Ni hi fun j _ c=>by rw [iN c,aX],iP rfl,cP]
def PD.start{n:Nat}{A:Nat->Nat->Rat}(d:Nat->Rat)(hs:A5d n A):PD n 0 A d (fun i j=>if j=i then 1 else 0) A:=by
 refine ⟨fun x=>?_,fun x h j a=>?_,fun i j _ _ h=>by omega,hs⟩
 ·show _=0+_
  rw [Rat.zero_add]
  exact B79 (fun _ _ _ _=>rfl) fun i b=>(B3u b x).symm
 ·have:=h j a
  rwa [B3u a] at this
def PD.adv{n k:Nat}{A0 F A:Nat->Nat->Rat}{d:Nat->Rat}(h:PD n k A0 d F A)(hk:k<n)(hne:A k k≠0):
 PD n (k+1) A0 (fun m=>if m=k then A k k else d m) (fun m=>if m=k then (fun j=>sm n fun i=>A i k/A k k*F i j) else F m) (fun i j=>A i j-A i k*(A k j/A k k)):=by
 have s:∀ x,ev n (fun j=>sm n fun i=>A i k/A k k*F i j) x=sm n fun i=>A i k/A k k*ev n (F i) x:=fun x=>by
  unfold ev
  rw [D0 (n:=n) (f:=fun i=>A i k/A k k*sm n fun j=>F i j*x j) fun i _=>(Ep n _ _).symm,A5s]
  refine D0 fun j _=>?_
  rw [cG,<- Ep]
  exact D0 fun i _=>by grind
 refine ⟨fun x=>?_,fun x u j b=>?_,fun i j g b c=>?_,fun i j g b=>?_⟩
 ·rw [h.val x]
  show _=sm k (fun m=>(if m=k then A k k else d m)*(ev n (if m=k then _ else F m) x*ev n (if m=k then _ else F m) x))+(if k=k then A k k else d k)*(ev n (if k=k then _ else F k) x*ev n (if k=k then _ else F k) x)+qf n _ (fun i=>ev n (if i=k then _ else F i) x)
  rw [iP rfl,iP rfl,s x,Rat.add_assoc]
  have z:sm k (fun m=>d m*(ev n (F m) x*ev n (F m) x))=sm k (fun m=>(if m=k then A k k else d m)*(ev n (if m=k then (fun j=>sm n fun i=>A i k/A k k*F i j) else F m) x*ev n (if m=k then (fun j=>sm n fun i=>A i k/A k k*F i j) else F m) x)):=D0 fun m t=>by rw [iN (show m≠k by omega),iN (show m≠k by omega)]
  rw [<- z]
  congr 1
  have p:∀ i,i<n->A i k-A i k*(A k k/A k k)=0:=fun i _=>by grind
  have r:∀ j,j<n->A k j-A k k*(A k j/A k k)=0:=fun j _=>by grind
  have G:qf n (fun i j=>A i j-A i k*(A k j/A k k)) (fun i=>ev n (if i=k then (fun j=>sm n fun i=>A i k/A k k*F i j) else F i) x)=qf n (fun i j=>A i j-A i k*(A k j/A k k)) (fun i=>ev n (F i) x):=by
   unfold qf
   refine D0 fun i g=>?_
   have l:(sm n fun j=>(A i j-A i k*(A k j/A k k))*ev n (if j=k then (fun j=>sm n fun i=>A i k/A k k*F i j) else F j) x)=sm n fun j=>(A i j-A i k*(A k j/A k k))*ev n (F j) x:=by
    refine D0 fun j b=>?_
    by_cases c:j=k
    ·rw [c,p i g,aX,aX]
    ·rw [iN c]
   rw [l]
   by_cases c:i=k
   ·have y:(sm n fun j=>(A k j-A k k*(A k j/A k k))*ev n (F j) x)=0:=Hv fun j b=>by rw [r j b,aX]
    rw [c]
    show _*(sm n fun j=>(A k j-A k k*(A k j/A k k))*ev n (F j) x)=_*(sm n fun j=>(A k j-A k k*(A k j/A k k))*ev n (F j) x)
    rw [y,bK,bK]
   ·show ev n (if i=k then _ else F i) x*_=ev n (F i) x*_
    rw [iN c]
  rw [G]
  have o:∀ T:Nat->Rat,qf n A T=A k k*((sm n fun i=>A i k/A k k*T i)*sm n fun i=>A i k/A k k*T i)+qf n (fun i j=>A i j-A i k*(A k j/A k k)) T:=fun T=>by
   unfold qf
   have B:(sm n fun i=>T i*sm n fun j=>A i j*T j)=sm n fun i=>(T i*A i k)*(sm n fun j=>A k j/A k k*T j)+T i*sm n fun j=>(A i j-A i k*(A k j/A k k))*T j:=by
    refine D0 fun i g=>?_
    have:(sm n fun j=>A i j*T j)=A i k*(sm n fun j=>A k j/A k k*T j)+sm n fun j=>(A i j-A i k*(A k j/A k k))*T j:=by
     rw [<- Ep,<- Aw]
     exact D0 fun j _=>by grind
    rw [this,Rat.mul_add]
    congr 1
    grind
   rw [B,Aw]
   congr 1
   have E:(sm n fun j=>A k j/A k k*T j)=sm n fun i=>A i k/A k k*T i:=D0 fun j b=>by rw [h.symm k j hk b]
   rw [E]
   have w:∀ q,(sm n fun i=>T i*A i k*q)=A k k*(q*sm n fun i=>A i k/A k k*T i):=fun q=>by
    rw [<- Rat.mul_assoc,<- Ep]
    exact D0 fun i _=>by grind
   exact w _
  exact o _
 ·refine h.inj x (fun m t=>?_) j b
  have a:∀ m,m<n->m≠k->ev n (F m) x=0:=fun m t c=>by
   have:=u m t
   rwa [iN c] at this
  by_cases c:m=k
  ·have:=u k hk
   rw [iP rfl,s,Ni hk fun i g c=>by rw [a i g c,bK]] at this
   rw [c]
   grind
  ·exact a m t c
 ·by_cases e:i=k
  ·rw [e];grind
  ·by_cases C:j=k
   ·rw [C];grind
   ·rw [h.zero i j g b (by omega)]
    by_cases D:i<k
    ·rw [h.zero i k g hk (.inl D)];grind
    ·rw [h.zero k j hk b (.inr (by omega))];grind
 ·rw [h.symm i j g b,h.symm i k g hk,h.symm k j hk b];grind
def PD.skip{n k:Nat}{A0 F A:Nat->Nat->Rat}{d:Nat->Rat}(h:PD n k A0 d F A)(hz:∀ j,j<n->A k j=0)(hk:k<n):PD n (k+1) A0 (fun m=>if m=k then 0 else d m) F A:=by
 refine ⟨fun x=>?_,h.inj,fun i j a b c=>?_,h.symm⟩
 ·rw [h.val x]
  show _=sm k (fun m=>(if m=k then 0 else d m)*(ev n (F m) x*ev n (F m) x))+(if k=k then (0:Rat) else d k)*(ev n (F k) x*ev n (F k) x)+qf n A _
  have f:sm k (fun m=>d m*(ev n (F m) x*ev n (F m) x))=sm k (fun m=>(if m=k then (0:Rat) else d m)*(ev n (F m) x*ev n (F m) x)):=D0 fun m l=>by rw [iN (show m≠k by omega)]
  rw [iP rfl,<- f,aX,aN]
 ·by_cases e:i=k
  ·rw [e];exact hz j b
  ·by_cases g:j=k
   ·rw [g,h.symm i k a hk];exact hz i a
   ·exact h.zero i j a b (by omega)
def PD.done{n k:Nat}{A0 F A:Nat->Nat->Rat}{d:Nat->Rat}(h:PD n k A0 d F A)(hk:k<=n)(hz:∀ i j,i<n->j<n->A i j=0):Diag n A0 (fun m=>if m<k then d m else 0) F:=by
 refine ⟨fun x=>?_,h.inj⟩
 rw [h.val x]
 have f:qf n A (fun i=>ev n (F i) x)=0:=Hv fun i b=>by
  rw [Hv fun j a=>by rw [hz i j b a,aX],bK]
 rw [f,aN]
 have c:∀ j,k+j<=n->sm k (fun m=>d m*(ev n (F m) x*ev n (F m) x))=sm (k+j) fun m=>(if m<k then d m else 0)*(ev n (F m) x*ev n (F m) x):=by
  intro j
  induction j with
  | zero=>exact fun _=>D0 fun m e=>by rw [iP e]
  | succ j ih=>
   intro a
   rw [ih (by omega)]
   show _=sm (k+j) _+(if k+j<k then d (k+j) else 0)*_
   rw [iN (by omega),aX,aN]
 have:=c (n-k) (by omega)
 rwa [show k+(n-k)=n by omega] at this
def B93{n a b:Nat}(ha:a<n)(hb:b<n)(f:Nat->Rat):sm n (fun i=>f (xch a b i))=sm n f:=by
 by_cases g:a=b
 ·refine D0 fun i _=>?_
  unfold xch
  split
  ·rename_i c;rw [c,g]
  ·split
   ·rename_i c;rw [c,g]
   ·rfl
 ·have e:sm n (fun i=>f (xch a b i))=sm n (fun i=>f i+((if i=a then f b-f a else 0)+if i=b then f a-f b else 0)):=by
   refine D0 fun i _=>?_
   unfold xch
   by_cases c:i=a
   ·rw [iP c,iP c,iN (by omega),c];grind
   ·rw [iN c,iN c]
    by_cases d:i=b
    ·rw [iP d,iP d,d];grind
    ·rw [iN d,iN d];grind
  rw [e,Aw,Aw,Ni ha fun i _ c=>iN c,Ni hb fun i _ c=>iN c,iP rfl,iP rfl]
  grind
def PD.swap{n k a b:Nat}{A0 F A:Nat->Nat->Rat}{d:Nat->Rat}(h:PD n k A0 d F A)(ha:a<n)(hb:b<n)(hka:k<=a)(hkb:k<=b):PD n k A0 d (fun m=>F (xch a b m)) (fun i j=>A (xch a b i) (xch a b j)):=by
 have e:∀ m,m<k->xch a b m=m:=fun m g=>by unfold xch;rw [iN (by omega),iN (by omega)]
 refine ⟨fun x=>?_,fun x o j f=>h.inj x (fun m g=>?_) j f,fun i j l f c=>h.zero _ _ (R6 ha hb l) (R6 ha hb f) ?_,fun i j l f=>h.symm _ _ (R6 ha hb l) (R6 ha hb f)⟩
 ·have p:sm k (fun m=>d m*(ev n (F m) x*ev n (F m) x))=sm k (fun m=>d m*(ev n (F (xch a b m)) x*ev n (F (xch a b m)) x)):=D0 fun m g=>by rw [e m g]
  rw [h.val x,p]
  congr 1
  unfold qf
  rw [<- B93 ha hb (fun i=>ev n (F i) x*sm n fun j=>A i j*ev n (F j) x)]
  refine D0 fun i _=>?_
  show _=_*sm n fun j=>A (xch a b i) (xch a b j)*ev n (F (xch a b j)) x
  rw [B93 ha hb (fun j=>A (xch a b i) j*ev n (F j) x)]
 ·have:=o (xch a b m) (R6 ha hb g)
  rwa [A5g] at this
 ·rcases c with c|c
  ·rw [e i c];exact .inl c
  ·rw [e j c];exact .inr c
def Hf(a b:Nat)(A:Nat->Nat->Rat):Nat->Nat->Rat:=fun i j=>A i j+(if i=a then A b j else 0)+(if j=a then A i b+(if i=a then A b b else 0) else 0)
def PD.merge{n k a b:Nat}{A0 F A:Nat->Nat->Rat}{d:Nat->Rat}(h:PD n k A0 d F A)(ha:a<n)(hb:b<n)(hka:k<=a)(hkb:k<=b)(hab:a≠b):PD n k A0 d (fun m=>if m=b then (fun j=>F b j-F a j) else F m) (Hf a b A):=by
 have l:∀ x,ev n (fun j=>F b j-F a j) x=ev n (F b) x-ev n (F a) x:=fun x=>by
  unfold ev
  rw [bG,<- Nj,<- Aw]
  exact D0 fun j _=>by grind
 have key:∀ (T:Nat->Rat) (c:Nat->Rat),(sm n fun j=>(c j+if j=a then c b else 0)*(if j=b then T b-T a else T j))=sm n fun j=>c j*T j:=fun T c=>by
  have e:(sm n fun j=>(c j+if j=a then c b else 0)*(if j=b then T b-T a else T j))=sm n (fun j=>c j*T j+((if j=a then c b*T a else 0)+if j=b then-(c b*T a) else 0)):=by
   refine D0 fun j _=>?_
   by_cases f:j=a
   ·rw [iP f,iN (by omega),iP f,iN (by omega),f];grind
   ·rw [iN f,iN f]
    by_cases p:j=b
    ·rw [iP p,iP p,p];grind
    ·rw [iN p,iN p];grind
  rw [e,Aw,Aw,Ni ha fun i _ c=>iN c,Ni hb fun i _ c=>iN c,iP rfl,iP rfl]
  grind
 refine ⟨fun x=>?_,fun x r j g=>h.inj x (fun m s=>?_) j g,fun i j o g c=>?_,fun i j o g=>?_⟩
 ·have y:sm k (fun m=>d m*(ev n (F m) x*ev n (F m) x))=sm k (fun m=>d m*(ev n (if m=b then (fun j=>F b j-F a j) else F m) x*ev n (if m=b then (fun j=>F b j-F a j) else F m) x)):=D0 fun m s=>by rw [iN (show m≠b by omega)]
  rw [h.val x,y]
  congr 1
  have f:(fun i=>ev n (if i=b then (fun j=>F b j-F a j) else F i) x)=fun i=>if i=b then ev n (F b) x-ev n (F a) x else ev n (F i) x:=by
   funext i
   by_cases c:i=b
   ·rw [iP c,iP c,l]
   ·rw [iN c,iN c]
  rw [f]
  have z:∀ T:Nat->Rat,qf n A T=qf n (Hf a b A) (fun i=>if i=b then T b-T a else T i):=fun T=>by
   unfold qf
   have w:∀ i,(sm n fun j=>Hf a b A i j*(if j=b then T b-T a else T j))=sm n fun j=>(A i j+if i=a then A b j else 0)*T j:=fun i=>by
    rw [<- key T (fun j=>A i j+if i=a then A b j else 0)]
    refine D0 fun j _=>?_
    unfold Hf
    rfl
   have B:(sm n fun i=>(if i=b then T b-T a else T i)*sm n fun j=>Hf a b A i j*(if j=b then T b-T a else T j))=sm n fun i=>((sm n fun j=>A i j*T j)+if i=a then (sm n fun j=>A b j*T j) else 0)*(if i=b then T b-T a else T i):=by
    refine D0 fun i _=>?_
    rw [w,cG]
    congr 1
    by_cases c:i=a
    ·rw [iP c,<- Aw]
     exact D0 fun j _=>by rw [iP c];grind
    ·rw [iN c,aN]
     exact D0 fun j _=>by rw [iN c];grind
   rw [B,key T (fun i=>sm n fun j=>A i j*T j)]
   exact D0 fun i _=>cG _ _
  exact z fun i=>ev n (F i) x
 ·have t:=r m s
  have u:=r a ha
  rw [iN hab] at u
  by_cases c:m=b
  ·rw [iP c,l,u] at t
   rw [c];grind
  ·rwa [iN c] at t
 ·unfold Hf
  rw [h.zero i j o g c]
  rcases c with c|c
  ·rw [iN (show i≠a by omega),iN (show i≠a by omega),h.zero i b o hb (.inl c)]
   split<;>grind
  ·rw [iN (show j≠a by omega),h.zero b j hb g (.inr c)]
   split<;>grind
 ·unfold Hf
  rw [h.symm i j o g,h.symm i b o hb,h.symm j b g hb]
  by_cases c:i=a
  ·by_cases q:j=a
   ·simp only [iP c,iP q];grind
   ·simp only [iP c,iN q];grind
  ·by_cases q:j=a
   ·simp only [iN c,iP q];grind
   ·simp only [iN c,iN q]
end Go.Proofs.YtmbfcbbkbefgfaaGreatDoor
namespace Go.Proofs.YtmbfcbbkbefgfaaGreatDoor
set_option maxRecDepth 20000
structure TE (n k:Nat) (R:Nat->Nat->Rat) (M:Nat->Nat->Int) (S:Nat->Rat) (last:Int):Prop where
 elim:∃ B R',(∀ i j,i<n->j<n->Wh (B i j))/\Elim n n B R' (fun m=>m) k/\(last:Rat)=dp B (fun m=>m) k/\∀ i j,k<=i->i<n->j<n->R' i j=S i*R i j
 ne:last≠0
 val:∀ i j,k<=i->i<n->j<n->(M i j:Rat)=last*(S i*R i j)
 scale:∀ i,k<=i->i<n->0<S i
def TE.start{n:Nat}{A:Nat->Nat->Rat}{M:Nat->Nat->Int}{S:Nat->Rat}(h:∀ i j,i<n->j<n->(M i j:Rat)=S i*A i j)(hS:∀ i,i<n->0<S i):TE n 0 A M S 1:=by
 have c:((1:Int):Rat)=1:=rfl
 refine ⟨⟨fun i j=>S i*A i j,fun i j=>S i*A i j,fun i j a b=>⟨M i j,(h i j a b).symm⟩,Elim.start,rfl,fun _ _ _ _ _=>rfl⟩,by decide,fun i j _ a b=>?_,fun i _ a=>hS i a⟩
 rw [c,cP,h i j a b]
def TE.congr{n k:Nat}{R R':Nat->Nat->Rat}{M M':Nat->Nat->Int}{S S':Nat->Rat}{last:Int}(h:TE n k R M S last)(hR:∀ i j,k<=i->i<n->j<n->R i j=R' i j)(hM:∀ i j,k<=i->i<n->j<n->M i j=M' i j)(hS:∀ i,k<=i->i<n->S i=S' i):TE n k R' M' S' last:=by
 obtain ⟨B,X,f,g,d,e⟩:=h.elim
 exact ⟨⟨B,X,f,g,d,fun i j a b c=>by rw [<- hS i a b,<- hR i j a b c];exact e i j a b c⟩,h.ne,fun i j a b c=>by rw [<- hM i j a b c,<- hS i a b,<- hR i j a b c];exact h.val i j a b c,fun i a b=>by rw [<- hS i a b];exact h.scale i a b⟩
def TE.zero{n k:Nat}{R:Nat->Nat->Rat}{M:Nat->Nat->Int}{S:Nat->Rat}{last:Int}(h:TE n k R M S last){i j:Nat}(hk:k<=i)(hi:i<n)(hj:j<n):M i j=0↔R i j=0:=by
 have a:=h.val i j hk hi hj
 have g:=J6 h.ne
 have f:S i≠0:=by have:=h.scale i hk hi;grind
 constructor
 ·intro e
  rw [e] at a
  have d:((0:Int):Rat)=0:=rfl
  rw [d] at a
  rcases Rat.mul_eq_zero.1 a.symm with c|c
  ·exact absurd c g
  ·rcases Rat.mul_eq_zero.1 c with b|b
   ·exact absurd b f
   ·exact b
 ·intro e
  rw [e,bK,bK] at a
  exact_mod_cast a
def TE.adv{n k:Nat}{R:Nat->Nat->Rat}{M:Nat->Nat->Int}{S:Nat->Rat}{last:Int}(h:TE n k R M S last)(hk:k<n)(hne:R k k≠0):
 TE n (k+1) (fun i j=>R i j-R i k*(R k j/R k k)) (fun i j=>(M k k*M i j-M i k*M k j).tdiv last) S (M k k):=by
 obtain ⟨B,X,q,r,p,d⟩:=h.elim
 have s:S k≠0:=by have:=h.scale k (aC _) hk;grind
 have t:X k k≠0:=by
  rw [d k k (aC _) hk hk]
  intro e
  rcases Rat.mul_eq_zero.1 e with e|e
  ·exact s e
  ·exact hne e
 have E:=r.step (j:=k) hk hk rfl t
 have g:=r.next (j:=k) hk hk rfl
 have o:(M k k:Rat)=last*X k k:=by rw [h.val k k (aC _) hk hk,d k k (aC _) hk hk]
 have f: ∀ i j,k+1<=i->i<n->j<n->Dg X k k i j=S i*(R i j-R i k*(R k j/R k k)):=fun i j a b c=>by
  unfold Dg
  rw [iN (by omega),d i j (by omega) b c,d i k (by omega) b hk,d k j (aC _) hk c,d k k (aC _) hk hk]
  grind
 refine ⟨⟨B,Dg X k k,q,E,by rw [g,<- p,o],f⟩,?_,fun i j a b c=>?_,fun i a b=>h.scale i (by omega) b⟩
 ·intro e
  rw [(h.zero (aC _) hk hk)] at e
  exact hne e
 ·obtain ⟨z,m⟩:=E.whole q (i:=i) (j:=j) b c
  rw [g,<- p,<- o] at m
  have l:=J6 h.ne
  have u:M k k*M i j-M i k*M k j=last*z:=by
   have:((M k k*M i j-M i k*M k j:Int):Rat)=((last*z:Int):Rat):=by
    rw [Rat.intCast_sub,bH,bH,bH,<- m,o,h.val i j (by omega) b c,h.val i k (by omega) b hk,h.val k j (aC _) hk c]
    rw [f i j a b c,d k k (aC _) hk hk]
    grind
   exact_mod_cast this
  rw [Ty h.ne u,<- m,f i j a b c]
def TE.swap{n k l:Nat}{R:Nat->Nat->Rat}{M:Nat->Nat->Int}{S:Nat->Rat}{last:Int}(h:TE n k R M S last)(hkl:k<=l)(hl:l<n):
 TE n k (fun i j=>R (xch k l i) (xch k l j)) (fun i j=>M (xch k l i) (xch k l j)) (fun i=>S (xch k l i)) last:=by
 obtain ⟨B,X,w,y,u,t⟩:=h.elim
 have q:k<n:=by omega
 have lt:∀ {i},i<n->xch k l i<n:=fun e=>R6 q hl e
 have ge:∀ {i},k<=i->k<=xch k l i:=fun e=>A2n hkl e
 have E:=y.swap hkl hl
 refine ⟨⟨fun i j=>B (xch k l i) (xch k l j),fun i j=>X (xch k l i) (xch k l j),fun i j e g=>w _ _ (lt e) (lt g),⟨E.kn,fun m d=>by omega,fun a m o d=>?_,fun i m e f d=>?_,fun a j o g=>?_,fun i j e f g=>?_⟩,?_,fun i j a b c=>t _ _ (ge a) (lt b) (lt c)⟩,h.ne,fun i j a b c=>h.val _ _ (ge a) (lt b) (lt c),fun i a b=>h.scale _ (ge a) (lt b)⟩
 ·rw [At hkl d];exact E.piv a m o d
 ·rw [At hkl d];exact E.low i m e f d
 ·rw [E.top a _ o (lt g)]
  exact D0 fun m d=>by rw [At hkl d]
 ·rw [E.bot i _ e f (lt g)]
  congr 1
  exact D0 fun m d=>by rw [At hkl d]
 ·rw [u]
  exact Q9 fun c r s p=>by show B r c=B (xch k l r) (xch k l c);rw [At hkl p,At hkl s]
def TE.addRow{n k a b:Nat}{R:Nat->Nat->Rat}{M:Nat->Nat->Int}{S:Nat->Rat}{last x y:Int}{s:Rat}(h:TE n k R M S last)(hka:k<=a)(ha:a<n)(hkb:k<=b)(hb:b<n)(hs:0<s)(hx:s=x*S a)(hy:s=y*S b):
 TE n k (fun i j=>R i j+if i=a then R b j else 0) (fun i j=>if i=a then M a j*x+M b j*y else M i j) (fun i=>if i=a then s else S i) last:=by
 obtain ⟨B,X,u,o,A,q⟩:=h.elim
 have w:∀ z:Int,Wh (z:Rat):=fun z=>⟨z,rfl⟩
 refine ⟨⟨fun i j=>if i=a then x*B a j+y*B b j else B i j,fun i j=>if i=a then x*X a j+y*X b j else X i j,fun i j g f=>?_,⟨o.kn,o.cw,fun l m t p=>?_,fun i m g d p=>?_,fun l j t f=>?_,fun i j g d f=>?_⟩,?_,fun i j d g f=>?_⟩,h.ne,fun i j d g f=>?_,fun i d g=>?_⟩
 ·dsimp only;split
  ·exact ((w x).mul (u a j ha f)).add ((w y).mul (u b j hb f))
  ·exact u i j g f
 ·rw [iN (by omega)];exact o.piv l m t p
 ·have z:=fun i g d=>o.low i m g d p
  split
  ·rw [z a ha hka,z b hb hkb];grind
  ·exact z i g d
 ·rw [iN (by omega),o.top l j t f]
  exact D0 fun m p=>by rw [iN (by omega),iN (by omega)]
 ·by_cases c:i=a
  ·rw [iP c,iP c,o.bot a j ha hka f,o.bot b j hb hkb f]
   have e:(sm k fun m=>(if i=a then x*B a m+y*B b m else B i m)*(if m=a then x*X a j+y*X b j else X m j))=x*sm k (fun m=>B a m*X m j)+y*sm k (fun m=>B b m*X m j):=by
    rw [<- Ep,<- Ep,<- Aw]
    exact D0 fun m p=>by rw [iP c,iN (by omega)];grind
   rw [e]
   grind
  ·rw [iN c,iN c,o.bot i j g d f]
   congr 1
   exact D0 fun m p=>by rw [iN c,iN (by omega)]
 ·rw [A]
  exact Q9 fun c r D C=>by dsimp only;rw [iN (by omega)]
 ·dsimp only
  by_cases c:i=a
  ·rw [iP c,iP c,iP c,q a j hka ha f,q b j hkb hb f,c]
   grind
  ·rw [iN c,iN c,iN c,q i j d g f,aN]
 ·by_cases c:i=a
  ·rw [iP c,iP c,iP c,cQ,bH,bH,h.val a j hka ha f,h.val b j hkb hb f,c]
   grind
  ·rw [iN c,iN c,iN c,h.val i j d g f,aN]
 ·split
  ·exact hs
  ·exact h.scale i d g
def TE.addCol{n k a b:Nat}{R:Nat->Nat->Rat}{M:Nat->Nat->Int}{S:Nat->Rat}{last:Int}(h:TE n k R M S last)(hka:k<=a)(ha:a<n)(hkb:k<=b)(hb:b<n):
 TE n k (fun i j=>R i j+if j=a then R i b else 0) (fun i j=>if j=a then M i a+M i b else M i j) S last:=by
 obtain ⟨B,X,t,o,u,s⟩:=h.elim
 refine ⟨⟨fun i j=>B i j+if j=a then B i b else 0,fun i j=>X i j+if j=a then X i b else 0,fun i j f g=>?_,⟨o.kn,o.cw,fun l m q p=>?_,fun i m f d p=>?_,fun l j q g=>?_,fun i j f d g=>?_⟩,?_,fun i j d f g=>?_⟩,h.ne,fun i j d f g=>?_,h.scale⟩
 ·dsimp only;split
  ·exact (t i j f g).add (t i b f hb)
  ·rw [aN];exact t i j f g
 ·rw [iN (by omega),aN];exact o.piv l m q p
 ·rw [iN (by omega),aN];exact o.low i m f d p
 ·have e:(sm k fun m=>(B l m+if m=a then B l b else 0)*(X m j+if j=a then X m b else 0))=sm k (fun m=>B l m*X m j)+if j=a then sm k (fun m=>B l m*X m b) else 0:=by
   by_cases c:j=a
   ·rw [iP c,<- Aw]
    exact D0 fun m p=>by rw [iP c,iN (by omega)];grind
   ·rw [iN c,aN]
    exact D0 fun m p=>by rw [iN c,iN (by omega)];grind
  rw [e,o.top l j q g]
  by_cases c:j=a
  ·rw [iP c,iP c,o.top l b q hb]
  ·rw [iN c,iN c]
 ·have e:(sm k fun m=>(B i m+if m=a then B i b else 0)*(X m j+if j=a then X m b else 0))=sm k (fun m=>B i m*X m j)+if j=a then sm k (fun m=>B i m*X m b) else 0:=by
   by_cases c:j=a
   ·rw [iP c,<- Aw]
    exact D0 fun m p=>by rw [iP c,iN (by omega)];grind
   ·rw [iN c,aN]
    exact D0 fun m p=>by rw [iN c,iN (by omega)];grind
  rw [e,o.bot i j f d g]
  by_cases c:j=a
  ·rw [iP c,iP c,iP c,o.bot i b f d hb];grind
  ·rw [iN c,iN c,iN c];grind
 ·rw [u]
  exact Q9 fun c r y w=>by dsimp only;rw [iN (by omega),aN]
 ·dsimp only
  by_cases c:j=a
  ·rw [iP c,iP c,s i j d f g,s i b d f hb];grind
  ·rw [iN c,iN c,s i j d f g];grind
 ·by_cases c:j=a
  ·rw [iP c,iP c,cQ,h.val i a d f ha,h.val i b d f hb,c];grind
  ·rw [iN c,iN c,h.val i j d f g];grind
end Go.Proofs.YtmbfcbbkbefgfaaGreatDoor
namespace Go.Proofs.YtmbfcbbkbefgfaaGreatDoor
set_option maxRecDepth 20000
def C3b{n:Nat}(p:Nat->Rat)(q:Rat):sm n (fun t=>p t*q)=(sm n p)*q:=by
 rw [cG,<- Ep]
 exact D0 fun t _=>cG _ _
def Kk(ls:Nat->List UInt8)(q a b w:Nat):Nat->List UInt8:=fun t=>ls ((a+t/w)*q+(b+t%w))
def Uk(ls:Nat->List UInt8)(q a b:Nat){w i j:Nat}(hj:j<w):mtx (rvs (Kk ls q a b w)) w i j=mtx (rvs ls) q (a+i) (b+j):=by
 obtain ⟨c,d⟩:=Ot (n:=w) (i:=i) hj
 show rv (ls ((a+(i*w+j)/w)*q+(b+(i*w+j)%w)))=_
 rw [c,d]
 rfl
def Qu(ls:Nat->List UInt8)(q k:Nat):Nat->Rat:=rvs (Kk ls q 0 0 k)
def B76(ls:Nat->List UInt8)(q k:Nat):Nat->Nat->Rat:=fun i j=>mtx (rvs ls) q (k+i) (k+j)-sm k fun t=>(sm k fun s=>mtx (rvs ls) q (k+i) s*Li (Qu ls q k) k s t)*mtx (rvs ls) q t (k+j)
def SchO(r c:Int)(n:Nat)(ls:Nat->List UInt8)(z:Int)(o:MOut):Prop:=
 (∃ e,SqE r c n ls e/\o=noM e)\/(∃ q,SqOk r c n ls q/\((¬ (1<=z/\z<q)/\o=noM 3)\/∃ k l:Nat,z=k/\1<=k/\1<=l/\q=k+l/\((¬ Ya (Qu ls q k) k/\o=noM 7)\/(Ya (Qu ls q k) k/\o=⟨(l:Int),(l:Int),l*l,Db (B76 ls q k) l,0⟩))))
def B2g{a b w t k l q:Nat}(ha:a+k<=q)(hb:b+w<=q)(ht:t<k*w):(a+t/w)*q+(b+t%w)<q*q:=by
 have c:0<w:=by
  rcases Nat.eq_zero_or_pos w with h|h
  ·rw [h] at ht;omega
  ·exact h
 exact O2 (by have:=aJ (show t<w*k by rw [aR];exact ht);omega) (by have:=bJ t c;omega)
section
variable {r c:Int} {n q k l:Nat} {ls:Nat->List UInt8}
def MOk.part(mk:MOk r c n ls q q){a b k w:Nat}(hk:1<=k)(hw:1<=w)(ha:a+k<=q)(hb:b+w<=q):MOk (k:Int) (w:Int) (k*w) (Kk ls q a b w) k w:=
 ⟨rfl,rfl,hk,by have:=mk.r2;omega,hw,by have:=mk.r2;omega,rfl,fun i d=>mk.num _ (by rw [mk.len];exact B2g (l:=0) ha hb d)⟩
def C15(k:Nat)(A V:Nat->Nat->Rat)(f:Nat->Rat)(j:Nat):(sm k fun t=>(sm k fun s=>f s*V s t)*A t j)=sm k fun s=>f s*sm k fun t=>V s t*A t j:=by
 have e:(sm k fun t=>(sm k fun s=>f s*V s t)*A t j)=sm k fun t=>sm k fun s=>f s*(V s t*A t j):=D0 fun t _=>by
  rw [<- C3b]
  exact D0 fun s _=>by grind
 rw [e,A5s]
 exact D0 fun s _=>Ep k _ _
end
section
variable {h:aH} {K:VP} {A:Option aP} {n cap q:Nat} {r c:Int} {ls:Nat->List UInt8}
def Kd(rv':aU SSr h A n ls)(mk:MOk r c n ls q q)(hcap:n<=cap){a b k w:Nat}(hk:1<=k)(hw:1<=w)(ha:a+k<=q)(hb:b+w<=q){z1 z2 z3 z4:Int}(e1:z1=a)(e2:z2=(a+k:Nat))(e3:z3=b)(e4:z4=(b+w:Nat))
 (hK:∀ A' c' h',h.le h'->aU SSr h' A' (k*w) (Kk ls q a b w)->K (Hb k w A' (k*w) c') h'):aV prog Qp #[Hb r c A n cap,I z1,I z2,I z3,I z4] h K:=by
 subst e1 e2 e3 e4
 have F:=mk.r2
 obtain ⟨rfl,rfl,_,_,_,_,rfl,G⟩:=id mk
 refine B8x _ _ _ _ _ _ _ _ _ ?_
 unfold C4x
 have aa:q*q<=64*64:=aL F F
 rw [show B7 (((a+k:Nat):Int)-(a:Int))=(k:Int) by rw [C0]<;>omega,show B7 (((b+w:Nat):Int)-(b:Int))=(w:Int) by rw [C0]<;>omega]
 refine ⟨fun L u=>∃ (i:Nat) (g o:aH) (e:List (List UInt8)) (A':Option aP) (c':Nat),i<=k/\L=[I ((a+i:Nat):Int),I (k:Int),I (w:Int),.slice A' (i*w) c']/\h.le g/\Sep u g o/\bB o W6 A' c' e/\e.length=i*w/\∀ t,t<i*w->e[t]? = some (Kk ls q a b w t),fun L _=>a+k-(iAt L 0).toNat,⟨0,h,U1,[],none,0,by omega,by rw [aY];rfl,B5 _,Sep.refl h,OwnSl.nil,(aY w).symm,fun t E=>by omega⟩,?_⟩
 rintro z u0 u1 bA bn X u ⟨i,g,o,e,A',c',hi,N,D,s,M,d,J⟩
 simp only [cR,Value.int.injEq,Value.slice.injEq,true_and,and_true] at N
 obtain ⟨rfl,rfl,rfl,rfl,rfl,rfl⟩:=N
 refine B8 (fun W=>?_) (fun ac=>?_)
 ·have ab:i<k:=by omega
  have h1:(a+i+1)*q<=q*q:=aG _ (by omega)
  have h2:(a+i+1)*q=(a+i)*q+q:=by rw [aT,bF]
  have em:B7 (((a+i:Nat):Int)*(q:Int))=(((a+i)*q:Nat):Int):=by rw [<- aM];exact K3 (by omega)
  have e3:B7 ((((a+i)*q:Nat):Int)+(b:Int))=(((a+i)*q+b:Nat):Int):=by rw [C0]<;>omega
  have e4:B7 ((((a+i)*q:Nat):Int)+((b+w:Nat):Int))=(((a+i)*q+(b+w):Nat):Int):=by rw [C0]<;>omega
  rw [em,e3,e4]
  refine ⟨⟨by omega,by omega⟩,⟨by omega,by simp only [aE];omega⟩,?_⟩
  simp only [aE]
  have row:aU SSr u (H9 A cap ((a+i)*q+b) 1) w (fun j=>ls ((a+i)*q+b+j)):=(rv'.mono O3 (B0 D s.le)).cut (c:=cap) (l:=(a+i)*q+b) (k:=w) (by omega) hcap
  obtain ⟨Z,sy,m,O⟩:=row
  have f:(i+1)*w=i*w+w:=by rw [aT,bF]
  have T:(i+1)*w<=q*q:=aL (by omega) (by omega)
  refine OwnSl.app (ty:=Kv) Dn s M d.symm (show (a+i)*q+(b+w)-((a+i)*q+b)=Z.length by omega) (by rintro rfl;simp at m;omega) sy (by omega) (by omega) ?_
  intro A3 c3 h3 Q R l3 V B _
  rw [d,show (a+i)*q+(b+w)-((a+i)*q+b)=w by omega,<- f,show B7 (((a+i:Nat):Int)+1)=((a+(i+1):Nat):Int) by rw [C0]<;>omega]
  refine ⟨_,_,_,rfl,⟨i+1,Q,R,_,A3,c3,by omega,rfl,B0 D l3,V,B,by rw [aD,d,m,f],fun t E=>?_⟩,?_⟩
  ·by_cases c1:t<i*w
   ·rw [cW (by omega)];exact J t c1
   ·obtain ⟨j,rfl⟩:∃ j,t=i*w+j:=⟨t-i*w,by omega⟩
    have H:j<w:=by omega
    obtain ⟨y,ey,C⟩:=O j H
    rw [cV (by omega),d,Nat.add_sub_cancel_left,ey]
    have p:y=ls ((a+i)*q+b+j):=C
    obtain ⟨S,d2⟩:=Ot (n:=w) (i:=i) H
    unfold Kk
    rw [S,d2,p,cL]
  ·show a+k-((a+(i+1):Nat):Int).toNat<a+k-((a+i:Nat):Int).toNat
   omega
 ·obtain rfl:i=k:=by omega
  exact hK bA X u (B0 D s.le) ⟨e,M.slF s.ole,d,fun t E=>⟨_,J t E,rfl⟩⟩
structure SchB (k m:Nat) (B1 B2 B3 B4:Nat):Prop where
 h0:1<=m
 h1:3^k*bnd (k+k) m<=B1
 h2:1+k*(2*B1+1)<=B2
 h3:1+k*(2*B2+1)<=B3
 h4:m<=B1/\B1<=B2/\B2<=B3
 h5:2*B3+2<=B4
 h6:B4<=10000000
def C16{m k l B1 B2 B3 B4:Nat}(hq:q=k+l)(hs:∀ i j,i<q->j<q->Sz m (mtx (rvs ls) q i j))(B:SchB k m B1 B2 B3 B4)(hi:Ya (Qu ls q k) k){i j:Nat}(hil:i<l)(hjl:j<l):Sz B4 (B76 ls q k i j):=by
 have o:∀ t,t<k*k->Sz m (Qu ls q k t):=fun t b=>by
  have n:0<k:=by
   rcases Nat.eq_zero_or_pos k with e|e
   ·rw [e] at b;omega
   ·exact e
  have a:=aJ b
  have c:=bJ t n
  exact hs (0+t/k) (0+t%k) (by omega) (by omega)
 have g:∀ s t,s<k->t<k->Sz B1 (Li (Qu ls q k) k s t):=fun s t a c=>(B3a B.h0 o hi s t a c).mono B.h1
 obtain ⟨r,y,w⟩:=B.h4
 have d:∀ t,t<k->Sz B2 (sm k fun s=>mtx (rvs ls) q (k+i) s*Li (Qu ls q k) k s t):=fun t b=>(A5r (m:=B1) (f:=fun s=>mtx (rvs ls) q (k+i) s) (f2:=fun s=>Li (Qu ls q k) k s t) (fun s a=>(hs _ _ (by omega) (by omega)).mono r) (fun s a=>g s t a b) k (aC _)).mono B.h2
 have p:=(A5r (m:=B2) (f:=fun t=>sm k fun s=>mtx (rvs ls) q (k+i) s*Li (Qu ls q k) k s t) (f2:=fun t=>mtx (rvs ls) q t (k+j)) d (fun t a=>(hs _ _ (by omega) (by omega)).mono (by omega)) k (aC _)).mono B.h3
 have u:=B.h5
 exact ((hs (k+i) (k+j) (by omega) (by omega)).sub p).mono (by omega)
def A6o{m:Nat}{z:Int}(gl:Gl h)(rv':aU SSr h A n ls)(hcap:n<=cap)(hn:n<=1000000)(hl:LL n ls)(hs:∀ i,i<n->Sz m (rv (ls i)))(hB:∀ q k,MOk r c n ls q q->1<=k->k<q->∃ B1 B2 B3 B4,SchB k m B1 B2 B3 B4)
 (hK:∀ o,SchO r c n ls z o->∀ A' cap' h',h.le h'->aU SSr h' A' o.n o.f->K (.tuple #[Hb o.r o.c A' o.n cap',I o.e]) h'):aV prog A1h #[Hb r c A n cap,I z] h K:=by
 refine B63 _ _ _ _ _ _ ?_
 unfold C0l
 refine Qr gl rv' hn hl ?_ (fun e he N T=>⟨_,_,_,_,rfl,I4 (fun _=>hK (noM e) (.inl ⟨e,he,rfl⟩) none 0 N T RowV.nil) (fun e0=>by rcases he with ⟨_,x⟩|⟨_,_,x⟩<;>omega)⟩)
 intro q sq b N own
 have T:=own.le
 have mk:=sq.1
 have er:=mk.er
 have an:=mk.r2
 refine ⟨_,_,_,_,rfl,I4 (fun y=>absurd rfl y) (fun _=>?_)⟩
 have ab:¬ (1<=z/\z<q)->K (.tuple #[Hb 0 0 none 0 0,I 3]) N:=fun hx=>hK (noM 3) (.inr ⟨q,sq,.inl ⟨hx,rfl⟩⟩) none 0 N T RowV.nil
 refine B8 (fun hz=>ab (fun x=>by omega)) (fun hz=>?_)
 refine B8 (fun ak=>ab (fun x=>by omega)) (fun ak=>?_)
 obtain ⟨k,rfl⟩:∃ k:Nat,z=k:=⟨z.toNat,by omega⟩
 obtain ⟨l,hq⟩:∃ l,q=k+l:=⟨q-k,by omega⟩
 have g:1<=k:=by omega
 have u:1<=l:=by omega
 have L:=fun o ho=>hK o (.inr ⟨q,sq,.inr ⟨k,l,rfl,g,u,hq,ho⟩⟩)
 obtain ⟨B1,B2,B3,B4,B⟩:=hB q k mk g (by omega)
 obtain ⟨b0,b1,b2,b3,⟨b4,b5,b6⟩,b7,b8⟩:=id B
 have V:=mk.len
 have G:∀ {a b k w t:Nat},a+k<=q->b+w<=q->t<k*w->(a+t/w)*q+(b+t%w)<n:=fun N h2 h3=>by rw [V];exact B2g (l:=0) N h2 h3
 have C:∀ {k w:Nat},k<=q->w<=q->k*w<=1000000:=fun {k w} N h2=>bZ (aL (show k<=64 by omega) (show w<=64 by omega)) (by decide)
 refine Kd (rv'.mono O3 T) mk hcap (a:=0) (b:=0) (k:=k) (w:=k) g g (by omega) (by omega) rfl (by omega) rfl (by omega) ?_
 intro A2 c2 h2 l2 r2
 refine ⟨_,_,_,_,_,rfl,?_⟩
 have R:=B0 T l2
 have M:=mk.part (a:=0) (b:=0) g g (by omega) (by omega)
 refine A0n (m:=m) (gl.mono R) r2 (C (by omega) (by omega)) (fun i S=>hl _ (G (by omega) (by omega) S)) (fun i S=>hs _ (G (by omega) (by omega) S)) b0 (fun q' D=>by obtain rfl:q'=k:=(M.uniq D).1;omega) ?_
 intro o3 am A3 c3 h3 l3 r3
 have O:=B0 R l3
 rcases am with ⟨Q,_⟩|⟨_,y,_⟩|⟨q',D,hx⟩
 ·exact absurd ⟨_,_,M⟩ Q
 ·exact absurd rfl y
 obtain rfl:k=q':=(M.uniq D).1.symm
 rcases hx with ⟨inv,rfl⟩|⟨ad,rfl⟩
 rotate_left
 ·exact ⟨_,_,_,_,_,_,rfl,I4 (fun _=>L (noM 7) (.inl ⟨ad,rfl⟩) none 0 h3 O RowV.nil) (fun e=>absurd e (by decide))⟩
 refine ⟨_,_,_,_,_,_,rfl,I4 (fun e=>absurd rfl e) (fun _=>?_)⟩
 refine Kd (rv'.mono O3 O) mk hcap (a:=k) (b:=0) (k:=l) (w:=k) u g (by omega) (by omega) rfl (by omega) rfl (by omega) ?_
 intro A4 c4 h4 l4 r4
 refine ⟨_,_,_,_,_,rfl,l4,?_⟩
 have W:=B0 O l4
 have E:=mk.part (a:=k) (b:=0) (k:=l) (w:=k) u g (by omega) (by omega)
 have J:MOk (k:Int) (k:Int) (k*k) (Db (Li (Qu ls q k) k) k) k k:=B7n rfl g (by omega)
 have bz:∀ t,t<k*k->Sz m (Qu ls q k t):=fun t p=>hs _ (G (a:=0) (b:=0) (by omega) (by omega) p)
 have vz:∀ i j,i<k->j<k->Sz B1 (Li (Qu ls q k) k i j):=fun i j S hj=>(B3a b0 bz inv i j S hj).mono b1
 have z4:∀ t,t<l*k->Sz B1 (rv (Kk ls q k 0 k t)):=fun t p=>(hs _ (G (by omega) (by omega) p)).mono b4
 refine Yp (m:=B1) (d:=k) (gl.mono W) r4 (r3.mono O3 l4) (C (by omega) (by omega)) (C (by omega) (by omega)) (fun t p=>hl _ (G (by omega) (by omega) p)) (fun t p=>bZ (A40 g vz t p) (by omega)) z4 (Td g vz) (by omega) (fun a b D=>by obtain ⟨_,rfl⟩:=E.uniq D;omega) (by omega) ?_
 intro o5 aj A5 c5 h5 l5 r5
 rcases MulO.ok E J aj with ⟨_,_,rfl⟩|⟨y,_⟩
 rotate_left
 ·exact absurd rfl y
 refine ⟨_,_,_,_,_,_,rfl,l5,?_⟩
 have aa:=B0 W l5
 have F:=E.prod J
 have z5:∀ t,t<l*k->Sz B2 (rv (Sk (Kk ls q k 0 k) k (Db (Li (Qu ls q k) k) k) k t)):=fun t p=>(A0i (m:=B1) E J z4 (Td g vz) t p).mono b2
 have n5:∀ t,t<l*k->(Sk (Kk ls q k 0 k) k (Db (Li (Qu ls q k) k) k) k t).length<=100000000:=fun t p=>bZ (A3h (m:=B1) E J z4 (Td g vz) t p) (by omega)
 refine Kd (rv'.mono O3 aa) mk hcap (a:=0) (b:=k) (k:=k) (w:=l) g u (by omega) (by omega) rfl (by omega) rfl (by omega) ?_
 intro A6 c6 h6 l6 r6
 refine ⟨_,_,_,_,_,rfl,l6,?_⟩
 have Z:=B0 aa l6
 have H:=mk.part (a:=0) (b:=k) (k:=k) (w:=l) g u (by omega) (by omega)
 have z6:∀ t,t<k*l->Sz B2 (rv (Kk ls q 0 k l t)):=fun t p=>(hs _ (G (by omega) (by omega) p)).mono (by omega)
 refine Yp (m:=B2) (d:=k) (gl.mono Z) (r5.mono O3 l6) r6 (C (by omega) (by omega)) (C (by omega) (by omega)) n5 (fun t p=>hl _ (G (by omega) (by omega) p)) z5 z6 (by omega) (fun a b D=>by obtain ⟨_,rfl⟩:=F.uniq D;omega) (by omega) ?_
 intro o7 al A7 c7 h7 l7 r7
 rcases MulO.ok F H al with ⟨_,_,rfl⟩|⟨y,_⟩
 rotate_left
 ·exact absurd rfl y
 refine ⟨_,_,_,_,_,_,rfl,l7,?_⟩
 have ae:=B0 Z l7
 have af:=F.prod H
 have z7:∀ t,t<l*l->Sz B3 (rv (Sk (Sk (Kk ls q k 0 k) k (Db (Li (Qu ls q k) k) k) k) k (Kk ls q 0 k l) l t)):=fun t p=>(A0i (m:=B2) F H z5 z6 t p).mono b3
 have n7:∀ t,t<l*l->(Sk (Sk (Kk ls q k 0 k) k (Db (Li (Qu ls q k) k) k) k) k (Kk ls q 0 k l) l t).length<=100000000:=fun t p=>bZ (A3h (m:=B2) F H z5 z6 t p) (by omega)
 refine Kd (rv'.mono O3 ae) mk hcap (a:=k) (b:=k) (k:=l) (w:=l) u u (by omega) (by omega) rfl (by omega) rfl (by omega) ?_
 intro A8 c8 h8 l8 r8
 refine ⟨_,_,_,_,_,rfl,l8,?_⟩
 have X:=B0 ae l8
 have ah:=mk.part (a:=k) (b:=k) (k:=l) (w:=l) u u (by omega) (by omega)
 refine B2y (m:=B3) (gl.mono X) r8 (r7.mono O3 l8) (C (by omega) (by omega)) (C (by omega) (by omega)) (fun t p=>hl _ (G (by omega) (by omega) p)) n7 (fun t p=>(hs _ (G (by omega) (by omega) p)).mono (by omega)) z7 (by omega) ?_
 intro o9 ag A9 c9 h9 l9 r9
 rcases ag with ⟨Q,_⟩|⟨_,_,y,_⟩|⟨_,_,_,_,rfl⟩
 ·exact absurd ⟨⟨_,_,ah⟩,⟨_,_,af⟩⟩ Q
 ·exact absurd y (by simp)
 refine ⟨_,_,_,_,_,_,rfl,l9,L ⟨(l:Int),(l:Int),l*l,Db (B76 ls q k) l,0⟩ (.inr ⟨inv,rfl⟩) A9 c9 h9 (B0 X l9) (r9.congr fun t p=>?_)⟩
 have hj:=bJ t (show 0<l by omega)
 show K9 (mtx (rvs ls) q (k+t/l) (k+t%l) + -1*rv (K9 (sm k fun j=>mtx (rvs (Sk (Kk ls q k 0 k) k (Db (Li (Qu ls q k) k) k) k)) k (t/l) j*mtx (rvs (Kk ls q 0 k l)) l j (t%l))))=K9 (B76 ls q k (t/l) (t%l))
 unfold B76
 congr 1
 rw [Hx,bG,Rat.neg_mul,cP]
 congr 2
 refine D0 fun j ac=>?_
 rw [B2d _ _ _ ac,Uk _ _ _ _ hj,aS]
 congr 1
 refine D0 fun s ai=>?_
 rw [Uk _ _ _ _ ai,B3h _ ac,aS]
end
