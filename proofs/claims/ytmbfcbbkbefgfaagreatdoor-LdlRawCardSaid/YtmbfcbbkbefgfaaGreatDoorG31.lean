/- A part. -/
import Derived.Test.YtmbfcbbkbefgfaaGreatDoorG29
import Derived.Test.YtmbfcbbkbefgfaaGreatDoorG30
open Go.Proofs.Tryz
set_option linter.all false
open _root_.Go.Addr renaming add->aG
open _root_.Go.Addr.mk renaming injEq->cW
open _root_.Go.Builtin renaming append_->cI
open Classical renaming byContradiction->aP
open _root_.Go.Instr renaming storeAt->aZ
open Int renaming toNat_natCast->aE,natCast_mul->aN,sign_eq_zero_iff_zero->cV
open List renaming length_append->aD,replicate->aI,length_replicate->aK,not_mem_nil->bK,length_set->bM,getElem?_replicate->bO,mem_cons->bW,getD_eq_getElem?_getD->cC,getElem?_eq_getElem->cF,length_nil->cH,range->cU
open List.cons renaming injEq->bX
open Nat renaming le_refl->aC,mul_le_mul_right->aF,div_lt_of_lt_mul->aJ,mul_le_mul->aL,add_mul_mod_self_right->aO,mul_comm->aQ,zero_add->aT,add_mul_div_right->aV,zero_mul->aX,add_mul->aY,mod_eq_of_lt->bB,div_eq_of_lt->bC,one_mul->bH,mod_lt->bI,not_lt_zero->bL,add_comm->bU,lt_irrefl->bV,le_trans->bY,add_assoc->cL
open Option.some renaming injEq->bG
open Rat renaming add_zero->aM,zero_mul->aW,intCast_mul->bF,mul_zero->bJ,mul_inv_cancel->bN,sub_eq_add_neg->bZ,mul_comm->cG,mul_nonneg->cJ,div_def->cK,divInt->cM,divInt_eq_div->cN,one_mul->cQ,intCast_add->cT
open _root_.Go.Value renaming agg->cX
open _root_.Go.Value.bool renaming injEq->cO
open _root_.Go.Value.int renaming injEq->cR
open _root_.Go renaming Addr->aR,Value->cP
open _root_.Go.Proofs.YtmbfcbbkbefgfaaGreatDoor renaming Heap->aH,RowV->aS,FCall->aU,OwnSl->bD,RowsV->cD
namespace Go.Proofs.YtmbfcbbkbefgfaaGreatDoor
set_option maxRecDepth 20000
open Go
def Sep.storeRaw{P:Program}{t:TypeId}{m:Nat}(one:P.cellsOf t=m/\(P.info? t).isSome=true){v:cP}{vs:List cP}(hv:v.cells=vs.toArray)(hl:vs.length=m)(h1:∀ x∈vs,A5q x=true){h g o:aH}(s:Sep h g o){b:Nat}{arr:List cP}{e:TypeId}(hb:o b=some (.cells arr.toArray e)){off:Nat}(hoff:off+m<=arr.length){K:Unit->aH->Prop}
 (x:∀ h' o',o'=o.put b (.cells (L3 arr off vs).toArray e)->Sep h' g o'->K () h'):wpH P (aZ t (.pointer (some ⟨b,off,none⟩)) v) K h:=by
 obtain ⟨f,c⟩:=Option.isSome_iff_exists.1 one.2
 have i:f.size=m:=by simpa [Program.cellsOf,c] using one.1
 have a:(h.without b).put b (.cells arr.toArray e)=h:=M0 (s.own b _ hb)
 unfold aZ
 simp only [C8,Instr.sureAddr,H8,storeVar,L9 c,i,hv,List.size_toArray,hl,ne_eq,not_true_eq_false,if_false]
 rw [<- a]
 refine J9 vs off 0 _ (by omega) h1 ?_
 rw [Nat.add_zero]
 have d:(h.without b).put b (.cells (L3 arr off vs).toArray e)=h.put b (.cells (L3 arr off vs).toArray e):=by
  rw [<- a,Jv,a]
 rw [d]
 exact x _ _ rfl (s.upd hb _)
def B30:prog.cellsOf F9=1/\(prog.info? F9).isSome=true:=⟨by kernel_rfl,by kernel_rfl⟩
def B2z:prog.cellsOf U3=1/\(prog.info? U3).isSome=true:=⟨by kernel_rfl,by kernel_rfl⟩
def QB(g o:aH)(b n:Nat)(f:Nat->Rat):Prop:=∃ xs:List QV,RowX o b xs/\xs.length=n/\Row RQr g xs n f
def onT(T:Tb)(x:Nat):Prop:=x=T.bt\/x=T.bE\/x=T.bS
section
variable {g o:aH} {b n:Nat} {f:Nat->Rat}
def QB.ko(q:QB g o b n f){g' o':aH}(l:g.le g')(e:o' b=o b):QB g' o' b n f:=by
 obtain ⟨a,r,i,c⟩:=q
 exact ⟨a,r.keep fun x d=>by rw [e];exact d,i,c.mono H1 l⟩
def QB.congr(q:QB g o b n f){f':Nat->Rat}(e:∀ i,i<n->f i=f' i):QB g o b n f':=by
 obtain ⟨a,r,d,c⟩:=q
 exact ⟨a,r,d,c.congr e⟩
def QB.at(q:QB g o b n f){i:Nat}(hi:i<n):∃ w:QV,RQ g w (f i)/\o.cell? (aG (aG ⟨b,0,none⟩ (i*4)) 0)=some (.bool w.s)/\o.cell? (aG (aG ⟨b,0,none⟩ (i*4)) 1)=some (.slice w.A w.n w.c)/\o.cell? (aG (aG ⟨b,0,none⟩ (i*4)) 2)=some (.bool w.s2)/\o.cell? (aG (aG ⟨b,0,none⟩ (i*4)) 3)=some (.slice w.A2 w.n2 w.c2):=by
 obtain ⟨e,r,u,t⟩:=q
 obtain ⟨w,d,p⟩:=t i hi
 have a:i<e.length:=by omega
 have cell:∀ k v,(enc e[i])[k]? = some v->o.cell? (aG (aG ⟨b,0,none⟩ (i*4)) k)=some v:=by
  intro k v m
  rw [E6,E6,aT]
  exact r.rowB.cell (i:=i) a (j:=k) m
 rw [cF a] at d
 have l:=Option.some.inj d
 rw [l] at cell
 exact ⟨w,p,cell 0 _ rfl,cell 1 _ rfl,cell 2 _ rfl,cell 3 _ rfl⟩
def QB.rowV(q:QB g o b n f){h:aH}(s:Sep h g o):aS RQr h (some ⟨b,0,none⟩) n f:=by
 obtain ⟨a,r,d,c⟩:=q
 exact ⟨a,r.rowB.slF s.ole,d,c.mono H1 s.le⟩
def QB.store(q:QB g o b n f){h:aH}(s:Sep h g o){i:Nat}(hi:i<n){w:QV}{z:Rat}(hw:RQ g w z){K:Unit->aH->Prop}
 (k:∀ h' o',Sep h' g o'->QB g o' b n (fun a=>if a=i then z else f a)->(∀ y,y≠b->o' y=o y)->K () h'):wpH prog (aZ G2 (.pointer (some (aG ⟨b,0,none⟩ (i*4)))) w.v) K h:=by
 obtain ⟨p,r,d,t⟩:=q
 have c:i<p.length:=by omega
 refine Aj Nq (y:=w) rfl s r (i:=i) c ?_
 intro h' o' u l j e
 exact k h' o' j ⟨_,e,by rw [bM];exact d,Row.upd t c hw⟩ (fun y m=>by rw [l,C0 _ _ m])
end
structure El (h g o:aH) (be:Nat) (T:Tb) (M:Nat->Nat->Int) (S:Nat->Rat) (n k:Nat) (w:IV) (z:Int) (L D:cP):Prop where
 t:Tab h g o T M S
 rows:T.rows=n
 cols:T.cols=n
 hd:∃ e,o be=some (.cells (List.toArray [I (n:Int),I (k:Int),.pointer (some ⟨T.bt,0,none⟩),.bool w.s,.slice w.A w.n w.c,L,D]) e)
 off:¬ onT T be
 last:ZIr g w z
section
variable {h g o:aH} {be:Nat} {T:Tb} {M:Nat->Nat->Int} {S:Nat->Rat} {n k:Nat} {w:IV} {z:Int} {L D:cP} {K:VP} {m:Nat}
def El.cell(X:El h g o be T M S n k w z L D){i:Nat}{v:cP}(hv:[I (n:Int),I (k:Int),.pointer (some ⟨T.bt,0,none⟩),.bool w.s,.slice w.A w.n w.c,L,D][i]? = some v):h.cell? ⟨be,i,none⟩=some v:=by
 obtain ⟨e,a⟩:=X.hd
 refine X.t.sep.cell ?_
 unfold Heap.cell?
 simp only [a]
 simpa using hv
def El.c0(X:El h g o be T M S n k w z L D):h.cell? (aG ⟨be,0,none⟩ 0)=some (I (n:Int)):=by rw [E6];exact X.cell rfl
def El.c1(X:El h g o be T M S n k w z L D):h.cell? (aG ⟨be,0,none⟩ 1)=some (I (k:Int)):=by rw [E6];exact X.cell rfl
def El.c2(X:El h g o be T M S n k w z L D):h.cell? (aG ⟨be,0,none⟩ 2)=some (.pointer (some ⟨T.bt,0,none⟩)):=by rw [E6];exact X.cell rfl
def El.c3(X:El h g o be T M S n k w z L D):h.cell? (aG (aG ⟨be,0,none⟩ 3) 0)=some (.bool w.s):=by rw [E6,E6];exact X.cell rfl
def El.c4(X:El h g o be T M S n k w z L D):h.cell? (aG (aG ⟨be,0,none⟩ 3) 1)=some (.slice w.A w.n w.c):=by rw [E6,E6];exact X.cell rfl
def El.c5(X:El h g o be T M S n k w z L D):h.cell? (aG ⟨be,0,none⟩ 5)=some L:=by rw [E6];exact X.cell rfl
def El.c6(X:El h g o be T M S n k w z L D):h.cell? (aG ⟨be,0,none⟩ 6)=some D:=by rw [E6];exact X.cell rfl
def El.next(X:El h g o be T M S n k w z L D){h' g':aH}(s:Sep h' g' o)(l:g.le g'):El h' g' o be T M S n k w z L D:=⟨X.t.next s l,X.rows,X.cols,X.hd,X.off,Gn _ _ _ _ l X.last⟩
def Tab.away(t:Tab h g o T M S){h' o':aH}(s:Sep h' g o'){b:Nat}(hb:¬ onT T b)(ko:∀ y,y≠b->o' y=o y):Tab h' g o' T M S:=t.keep s (B5 _) (fun k x e a=>by rw [ko k (fun c=>hb (c▸a))];exact e)
def El.away(X:El h g o be T M S n k w z L D){h' o':aH}(s:Sep h' g o'){b:Nat}(hb:¬ onT T b)(hbe:be≠b)(ko:∀ y,y≠b->o' y=o y):El h' g o' be T M S n k w z L D:=by
 obtain ⟨e,a⟩:=X.hd
 exact ⟨X.t.away s hb ko,X.rows,X.cols,⟨e,by rw [ko _ hbe];exact a⟩,X.off,X.last⟩
def El.set(X:El h g o be T M S n k w z L D){t:TypeId}{q off:Nat}{v:cP}{vs:List cP}(one:prog.cellsOf t=q/\(prog.info? t).isSome=true)(hv:v.cells=vs.toArray)(hl:vs.length=q)(h1:∀ x∈vs,A5q x=true)(hoff:off+q<=7){n' k':Nat}{w':IV}{z':Int}{L' D':cP}(hn:n'=n)(hw:ZIr g w' z')
 (hs:L3 [I (n:Int),I (k:Int),.pointer (some ⟨T.bt,0,none⟩),.bool w.s,.slice w.A w.n w.c,L,D] off vs=[I (n':Int),I (k':Int),.pointer (some ⟨T.bt,0,none⟩),.bool w'.s,.slice w'.A w'.n w'.c,L',D'])
 {K:Unit->aH->Prop} (x:∀ h' o',El h' g o' be T M S n' k' w' z' L' D'->(∀ y,y≠be->o' y=o y)->K () h'):wpH prog (aZ t (.pointer (some (aG ⟨be,0,none⟩ off))) v) K h:=by
 obtain ⟨e,b⟩:=X.hd
 rw [E6,aT]
 refine X.t.sep.storeRaw one hv hl h1 b hoff ?_
 intro h' o' a d
 have ko:∀ y,y≠be->o' y=o y:=fun y f=>by rw [a,C0 _ _ f]
 subst hn
 exact x h' o' ⟨X.t.away d X.off ko,X.rows,X.cols,⟨e,by rw [a,C2,hs]⟩,X.off,hw⟩ ko
def B4t(X:El h g o be T M S n k w z L D)(gl:Gl g){i j:Nat}(hi:i<n)(hj:j<n)(bm:ZB m (M i j))(bz:ZB m z)(bs:Sz m (S i))(hd:Sz m (cM (M i j) z))(hm1:1<=m)(hm:m<=6400000000)
 (hK:∀ w' h' g',g.le g'->Sep h' g' o->h.le h'->RQ g' w' (cM (M i j) z/S i)->K w'.v h'):aU prog B0k #[.pointer (some ⟨be,0,none⟩),I (i:Int),I (j:Int)] h K:=by
 have a:i<T.rows:=by rw [X.rows];exact hi
 have e:j<T.cols:=by rw [X.cols];exact hj
 refine C5b _ _ _ ?_
 unfold EAt
 obtain ⟨J,is,C,F,p,y⟩:=X.t.sat a
 obtain ⟨N,E,r,l⟩:=X.t.at a e
 refine ⟨_,rfl,_,X.c2,_,rfl,_,_,_,_,X.c3,X.c4,_,rfl,_,X.c2,_,rfl,_,_,_,X.t.c2,_,rfl,by omega,by omega,_,_,_,_,_,_,_,_,C,F,p,y,?_⟩
 refine O5 X.t a ⟨_,_,_,rfl,B5 _,_,rfl,by omega,by omega,_,_,_,_,r,l,?_⟩
 refine X.t.sep.call (T4 gl.tz E X.last bm bz hm ?_)
 intro O G c u H b
 refine ⟨_,_,_,_,_,_,_,_,rfl,X.t.sep.le_le b c,?_⟩
 refine b.call (Ke (gl.mono c).tz u (H1 _ _ _ _ c is) hd bs hm1 hm ?_)
 intro A q f B s d
 exact ⟨_,_,_,_,_,_,_,_,rfl,b.le_le d f,hK A s q (B0 c f) d (B0 (X.t.sep.le_le b c) (b.le_le d f)) B⟩
def A3u(X:El h g o be T M S n k w z L D)(hk:k<n)(hn:n<=10000)
 (hK1:∀ i:Nat,k<i->i<n->M i k≠0->K (.tuple #[I (i:Int),.bool true]) h) (hK0:(∀ j,k<j->j<n->M j k=0)->K (.tuple #[I 0,.bool false]) h):aU prog Km #[.pointer (some ⟨be,0,none⟩)] h K:=by
 refine A7t _ ?_
 unfold A9o
 refine ⟨_,rfl,_,X.c1,?_⟩
 rw [wiS k (by omega)]
 refine ⟨fun L' q=>∃ i:Nat,k<i/\i<=n/\L'=[I (i:Int)]/\q=h/\∀ j,k<j->j<i->M j k=0,fun L' _=>n-(iAt L' 0).toNat,⟨k+1,by omega,by omega,rfl,rfl,fun j _ _=>by omega⟩,?_⟩
 rintro y q ⟨i,l,B,A,rfl,p⟩
 obtain rfl:=sI1 A
 refine ⟨_,rfl,_,X.c0,B8 (fun s=>?_) (fun E=>hK0 fun j a b=>p j a (by omega))⟩
 have d:i<n:=by omega
 have f:i<T.rows:=by rw [X.rows];exact d
 have m:k<T.cols:=by rw [X.cols];exact hk
 refine ⟨_,rfl,_,X.c2,_,rfl,_,X.c1,?_⟩
 obtain ⟨F,r,C,u⟩:=X.t.at f m
 refine O5 X.t f ⟨_,_,_,rfl,B5 _,_,rfl,by omega,by omega,_,_,_,_,C,u,?_⟩
 refine F5 (r.mono X.t.sep.le) ⟨_,rfl,B5 _,Br.not (B8 (fun e=>?_) (fun e=>hK1 i l d e))⟩
 rw [wiS i (by omega)]
 refine ⟨⟨i+1,by omega,by omega,rfl,rfl,fun j a b=>?_⟩,by simp only [U7];omega⟩
 by_cases c:j=i
 ·rw [c];exact e
 ·exact p j a (by omega)
def Sc(X:El h g o be T M S n k w z L D)(hk:k<n)(hn:n<=10000)(hz:z≠0)(hM:∀ a b,k<=a->a<n->b<n->ZB m (M a b))(bz:ZB m z)(hm1:1<=m)(hm:2*m+1<=100000000)
 (hK:∀ h' g' o' w',g.le g'->El h' g' o' be T (fun a b=>if k<a then (M k k*M a b-M a k*M k b).tdiv z else M a b) S n (k+1) w' (M k k) L D->(∀ b,¬ onT T b->b≠be->o' b=o b)->K (.tuple #[]) h'):aU prog Cw #[.pointer (some ⟨be,0,none⟩)] h K:=by
 refine A7u _ ?_
 unfold A9p
 refine ⟨_,rfl,_,X.c1,?_⟩
 rw [wiS k (by omega)]
 refine ⟨fun L' N=>∃ (i:Nat) (r C:aH),k<i/\i<=n/\L'=[I (i:Int)]/\g.le r/\El N r C be T (fun a b=>if k<a/\a<i then (M k k*M a b-M a k*M k b).tdiv z else M a b) S n k w z L D/\(∀ b,¬ onT T b->b≠be->C b=o b),fun L' _=>n-(iAt L' 0).toNat,⟨k+1,g,o,by omega,by omega,rfl,B5 _,⟨X.t.congr (fun a b _ _=>by rw [iN (by omega)]) (fun _ _=>rfl),X.rows,X.cols,X.hd,X.off,X.last⟩,fun _ _ _=>rfl⟩,?_⟩
 rintro y N ⟨i,r,C,ab,ac,eL,Q,X1,ko⟩
 obtain rfl:=sI1 eL
 refine ⟨_,rfl,_,X1.c0,B8 (fun aa=>?_) (fun ad=>?_)⟩
 ·have B:i<n:=by omega
  refine ⟨_,rfl,_,X1.c2,_,rfl,_,_,_,_,X1.c3,X1.c4,?_⟩
  have er:=X.rows
  have ec:=X.cols
  refine Zl (m:=m) X1.t (i:=i) (p:=k) (c:=k) (by omega) (by omega) (by omega) (by omega) X1.last hz hm1 hm (fun b j=>by rw [iN (by omega)];exact hM i b (by omega) B (by omega)) (fun b j=>by rw [iN (by omega)];exact hM k b (aC _) hk (by omega)) bz ?_
  intro h2 V o2 O t2 ko2
  rw [wiS i (by omega)]
  have F:be≠T.bE:=fun e=>X.off (.inr (.inl e))
  obtain ⟨e,he⟩:=X1.hd
  refine ⟨rfl,⟨i+1,V,o2,by omega,by omega,rfl,B0 Q O,⟨t2.congr (fun a b _ _=>?_) (fun _ _=>rfl),er,ec,⟨e,by rw [ko2 _ F];exact he⟩,X.off,Gn _ _ _ _ O X1.last⟩,fun b j d=>by rw [ko2 b (fun e=>j (.inr (.inl e)))];exact ko b j d⟩,by simp only [U7];omega⟩
  by_cases c:a=i
  ·have q1:¬ (k<k/\k<i):=by omega
   have q2:¬ (k<i/\i<i):=by omega
   simp only [iN q1,iN q2]
   rw [iP c,iP (show k<a/\a<i+1 by omega),c]
  ·rw [iN c]
   by_cases c2:k<a/\a<i
   ·rw [iP c2,iP (by omega)]
   ·rw [iN c2,iN (show ¬ (k<a/\a<i+1) by omega)]
 ·have G:i=n:=by omega
  subst G
  have l:k<T.rows:=by rw [X.rows];exact hk
  have J:k<T.cols:=by rw [X.cols];exact hk
  refine ⟨_,rfl,_,X1.c2,?_⟩
  obtain ⟨f,H,W,R⟩:=X1.t.at l J
  rw [iN (by omega)] at H
  refine O5 X1.t l ⟨_,_,_,rfl,_,rfl,by omega,by omega,_,_,_,_,W,R,?_⟩
  refine ⟨_,rfl,?_⟩
  refine X1.set (n':=i) (k':=k) (w':=f) (z':=M k k) (L':=L) (D':=D) (vs:=[.bool f.s,.slice f.A f.n f.c]) Ug rfl rfl (by intro x q;simp only [bW,bK,or_false] at q;rcases q with rfl|rfl<;>rfl) (by omega) rfl H rfl ?_
  intro h3 o3 X3 E
  refine ⟨_,rfl,_,X3.c1,_,rfl,?_⟩
  rw [wiS k (by omega)]
  refine X3.set (n':=i) (k':=k+1) (w':=f) (z':=M k k) (L':=L) (D':=D) (vs:=[I ((k+1:Nat):Int)]) B30 rfl rfl (by intro x q;simp only [bW,bK,or_false] at q;subst q;rfl) (by omega) rfl H rfl ?_
  intro h4 Z X4 u
  refine hK h4 r Z f Q ⟨X4.t.congr (fun a b ha j=>?_) (fun _ _=>rfl),X4.rows,X4.cols,X4.hd,X4.off,X4.last⟩ (fun b j d=>by rw [u b d,E b d];exact ko b j d)
  have:a<i:=by rw [<- X.rows];exact ha
  by_cases c:k<a
  ·rw [iP ⟨c,this⟩,iP c]
  ·rw [iN (fun x=>c x.1),iN c]
end
def C6b{l s r:Rat}(hl:l≠0)(hs:s≠0):l*(s*r)/l/s=r:=by
 have b:=bN _ hl
 have a:=bN _ hs
 rw [cK,cK]
 grind
section
variable {E:Nat->Rat} {n k:Nat}
def B46(sy:A5r n (mtx E n))(hk:k<=n)(ok:∀ m,m<k->Pz (mtx E n) n m):LdR n k (mtx E n) (elE E n n k):=LdR.run sy k hk ok
def C04(hk:k<n):So n k (elP E n n k)=Gi n k (elE E n n k):=(A8y E (Nat.le_of_lt hk)).row hk
def A8x(sy:A5r n (mtx E n))(hk:k<n)(ok:∀ m,m<=k->Pz (mtx E n) n m)(e:ldA (mtx E n) k k k=0):elP E n n (k+1)=elP E n n k:=by
 have r:=C04 (E:=E) hk
 rw [(B46 sy (by omega) fun m a=>ok m (by omega)).none hk e (ok k (aC _))] at r
 show Eg n k (elP E n n k)=_
 unfold Eg
 rw [r,iN (bV n)]
def A8w(sy:A5r n (mtx E n))(hk:k<n)(ok:∀ m,m<k->Pz (mtx E n) n m)(e:ldA (mtx E n) k k k≠0):
 (∀ i j,k<i->i<n->(elP E n n (k+1)).M i j=((elP E n n k).M k k*(elP E n n k).M i j-(elP E n n k).M i k*(elP E n n k).M k j).tdiv (elP E n n k).last)/\(elP E n n (k+1)).last=(elP E n n k).M k k/\∀ i,k<i->(elP E n n (k+1)).S i=(elP E n n k).S i:=by
 have R:=B46 sy (by omega) ok
 have r:=C04 (E:=E) hk
 rw [R.row hk e] at r
 have d:=R.len
 rw [<- C49 E (Nat.le_of_lt hk)] at d
 have b:elP E n n (k+1)=Eg n k (elP E n n k):=rfl
 unfold Eg at b
 rw [r,iP hk] at b
 generalize elP E n n k=s at *
 have f:=Ak s.cs.length k
 have c:∀ i,k<i->xch s.cs.length k i=i:=fun i a=>by unfold xch;rw [iN (by omega),iN (by omega)]
 rw [b]
 refine ⟨fun i j a _=>?_,rfl,fun i a=>?_⟩
 ·show clr (fun i=>s.M (xch s.cs.length k i)) s.cs.length k s.last i j=_
  unfold clr
  rw [iN (by omega)]
  show (s.M (xch s.cs.length k s.cs.length) k*s.M (xch s.cs.length k i) j-s.M (xch s.cs.length k i) k*s.M (xch s.cs.length k s.cs.length) j).tdiv s.last=_
  rw [f,c i a]
 ·show s.S (xch s.cs.length k i)=_
  rw [c i a]
def C83(sy:A5r n (mtx E n)):∀ k,k<=n->(∀ m,m<k->Pz (mtx E n) n m)->∀ i,k<=i->i<n->(elP E n n k).S i=Uf E n i:=by
 intro k
 induction k with
 | zero=>intro _ _ i _ _;rfl
 | succ k ih=>
  intro c ok i f b
  have a:=ih (by omega) (fun m d=>ok m (by omega)) i (by omega) b
  by_cases e:ldA (mtx E n) k k k=0
  ·rw [A8x sy c (fun m d=>ok m (by omega)) e];exact a
  ·rw [(A8w sy c (fun m d=>ok m (by omega)) e).2.2 i (by omega)];exact a
structure LdF (E:Nat->Rat) (n k Q:Nat):Prop where
 val:∀ i j,k<=i->i<n->j<n->((elP E n n k).M i j:Rat)=(elP E n n k).last*(Uf E n i*ldA (mtx E n) k i j)
 last:(elP E n n k).last≠0
 zM:∀ a b,a<n->b<n->ZB Q ((elP E n n k).M a b)
 zl:ZB Q (elP E n n k).last
 zS:∀ a,a<n->Sz Q (Uf E n a)
 zA:∀ i j,k<=i->i<n->j<n->Sz Q (ldA (mtx E n) k i j)
def ldF{m Q:Nat}(hs:∀ i,i<n*n->Sz m (E i))(hQ1:3^n*bnd n m+bnd n m<=Q)(sy:A5r n (mtx E n))(hk:k<=n)(ok:∀ m,m<k->Pz (mtx E n) n m):LdF E n k Q:=by
 have rel:=A8y E (rows:=n) (cols:=n) hk
 have R:=B46 sy hk ok
 have p:=R.len
 have z:=B45 (E:=E) (rows:=n) (cols:=n) (c:=k) hs hk
 have l:1<=bnd n m:=by unfold bnd;omega
 have r:3^(elP E n n k).cs.length*bnd n m<=3^n*bnd n m:=aF _ (Nat.pow_le_pow_right (by decide) z.len)
 have t:=C83 sy k hk ok
 have val:∀ i j,k<=i->i<n->j<n->((elP E n n k).M i j:Rat)=(elP E n n k).last*(Uf E n i*ldA (mtx E n) k i j):=fun i j o d f=>by
  rw [rel.val i j d f,iN (by omega),R.low i j o d f,t i o d]
 have q:∀ a,a<n->Sz (bnd n m) (Uf E n a):=fun a g=>A0j fun j f=>hs _ (L8 g f)
 refine ⟨val,rel.last,fun a b g s=>(z.M a b g s).mono (by omega),z.last.mono (by omega),fun a g=>(q a g).mono (by omega),fun i j o d f=>?_⟩
 have e:ldA (mtx E n) k i j=cM ((elP E n n k).M i j) (elP E n n k).last/Uf E n i:=by
  have u:=Np E n i
  rw [cN,val i j o d f,C6b (J7 rel.last) (by grind)]
 rw [e]
 exact ((U6 rel.last (z.M i j d f) z.last).div (q i d) l).mono (by omega)
end
def A2w(A:Nat->Nat->Rat)(n k:Nat):Nat->Rat:=fun t=>if t%n<k then ldL A (t/n) (t%n) else 0
def A2x(A:Nat->Nat->Rat)(k:Nat):Nat->Rat:=fun j=>if j<k then ldD A j else 0
structure Ld (h g o:aH) (be bl bd:Nat) (T:Tb) (E:Nat->Rat) (n k:Nat) (M:Nat->Nat->Int) (w:IV) (Lf Df:Nat->Rat):Prop where
 e:El h g o be T M (Uf E n) n k w (elP E n n k).last (.slice (some ⟨bl,0,none⟩) (n*n) (n*n)) (.slice (some ⟨bd,0,none⟩) n n)
 m:∀ i j,k<=i->i<n->j<n->M i j=(elP E n n k).M i j
 l:QB g o bl (n*n) Lf
 d:QB g o bd n Df
 tl:¬ onT T bl
 td:¬ onT T bd
 el:be≠bl
 ed:be≠bd
 ld:bl≠bd
section
variable {h g o:aH} {be bl bd:Nat} {T:Tb} {E:Nat->Rat} {n k:Nat} {M:Nat->Nat->Int} {w:IV} {Lf Df:Nat->Rat} {K:VP} {Q:Nat}
def Ld.next(X:Ld h g o be bl bd T E n k M w Lf Df){h' g':aH}(s:Sep h' g' o)(l:g.le g'):Ld h' g' o be bl bd T E n k M w Lf Df:=⟨X.e.next s l,X.m,X.l.ko l rfl,X.d.ko l rfl,X.tl,X.td,X.el,X.ed,X.ld⟩
def Ld.congr(X:Ld h g o be bl bd T E n k M w Lf Df){Lf' Df':Nat->Rat}(e1:∀ i,i<n*n->Lf i=Lf' i)(e2:∀ i,i<n->Df i=Df' i):Ld h g o be bl bd T E n k M w Lf' Df':=⟨X.e,X.m,X.l.congr e1,X.d.congr e2,X.tl,X.td,X.el,X.ed,X.ld⟩
def Ld.storeL(X:Ld h g o be bl bd T E n k M w Lf Df){i:Nat}(hi:i<n*n){v:QV}{z:Rat}(hv:RQ g v z){K:Unit->aH->Prop}
 (x:∀ h' o',Ld h' g o' be bl bd T E n k M w (fun a=>if a=i then z else Lf a) Df->K () h'):wpH prog (aZ G2 (.pointer (some (aG ⟨bl,0,none⟩ (i*4)))) v.v) K h:=by
 refine X.l.store X.e.t.sep hi hv ?_
 intro h' o' b q ko
 exact x h' o' ⟨X.e.away b X.tl X.el ko,X.m,q,X.d.ko (B5 _) (ko _ X.ld.symm),X.tl,X.td,X.el,X.ed,X.ld⟩
def Ld.storeD(X:Ld h g o be bl bd T E n k M w Lf Df){i:Nat}(hi:i<n){v:QV}{z:Rat}(hv:RQ g v z){K:Unit->aH->Prop}
 (x:∀ h' o',Ld h' g o' be bl bd T E n k M w Lf (fun a=>if a=i then z else Df a)->K () h'):wpH prog (aZ G2 (.pointer (some (aG ⟨bd,0,none⟩ (i*4)))) v.v) K h:=by
 refine X.d.store X.e.t.sep hi hv ?_
 intro h' o' b q ko
 exact x h' o' ⟨X.e.away b X.td X.ed ko,X.m,X.l.ko (B5 _) (ko _ X.ld),q,X.tl,X.td,X.el,X.ed,X.ld⟩
def Ld.at(X:Ld h g o be bl bd T E n k M w Lf Df)(gl:Gl g)(F:LdF E n k Q){i j:Nat}(hk:k<=i)(hi:i<n)(hj:j<n)(hQ1:1<=Q)(hQ:Q<=6400000000)
 (hK:∀ w' h' g',g.le g'->Sep h' g' o->h.le h'->RQ g' w' (ldA (mtx E n) k i j)->K w'.v h'):aU prog B0k #[.pointer (some ⟨be,0,none⟩),I (i:Int),I (j:Int)] h K:=by
 have a:=X.m i j hk hi hj
 have f:=Np E n i
 refine B4t (m:=Q) X.e gl hi hj (by rw [a];exact F.zM i j hi hj) F.zl (F.zS i hi) (by rw [a];exact U6 F.last (F.zM i j hi hj) F.zl) hQ1 hQ ?_
 intro w' h' g' c s d b
 refine hK w' h' g' c s d ?_
 rw [a,cN,F.val i j hk hi hj,C6b (J7 F.last) (by grind)] at b
 exact b
def Ld.partner(X:Ld h g o be bl bd T E n k M w Lf Df)(F:LdF E n k Q)(hk:k<n)(hn:n<=10000):aU prog Km #[.pointer (some ⟨be,0,none⟩)] h (fun r h'=>h'=h/\∃ (a:Nat) (b:Bool),r= .tuple #[I (a:Int),.bool b]/\(b=true->k<a/\a<n/\ldA (mtx E n) k a k≠0)/\(b=false->∀ j,k<j->j<n->ldA (mtx E n) k j k=0)):=by
 have key:∀ i,k<=i->i<n->(M i k=0↔ldA (mtx E n) k i k=0):=fun i f t=>by
  have c:=F.val i k f t hk
  have s:=J7 F.last
  have z:Uf E n i≠0:=by have:=Np E n i;grind
  rw [X.m i k f t hk]
  constructor
  ·intro e
   rw [e] at c
   have y:((0:Int):Rat)=0:=rfl
   rw [y] at c
   rcases Rat.mul_eq_zero.1 c.symm with l|l
   ·exact absurd l s
   ·rcases Rat.mul_eq_zero.1 l with p|p
    ·exact absurd p z
    ·exact p
  ·intro e
   rw [e,bJ,bJ] at c
   exact_mod_cast c
 refine A3u X.e hk hn (fun i q d s=>⟨rfl,i,true,rfl,fun _=>⟨q,d,fun e=>s ((key i (by omega) d).2 e)⟩,fun e=>by cases e⟩) (fun u=>⟨rfl,0,false,rfl,(fun e=>by cases e),fun _ j q d=>(key j (by omega) d).1 (u j q d)⟩)
end
def Yr{q:Rat}:q.num.sign<0↔q<0:=by
 have d:q.num.sign<0↔q.num<0:=by
  rcases Int.lt_trichotomy q.num 0 with c|c|c
  ·rw [Int.sign_eq_neg_one_of_neg c];exact ⟨fun _=>c,fun _=>by decide⟩
  ·rw [c];exact ⟨fun h=>by simp at h,fun h=>by omega⟩
  ·rw [Int.sign_eq_one_of_pos c];exact ⟨fun h=>by omega,fun h=>by omega⟩
 have a:=Rat.num_nonneg (q:=q)
 rw [d]
 constructor
 ·intro h
  refine aP fun b=>?_
  have:0<=q:=by grind
  have:=a.2 this
  omega
 ·intro h
  refine aP fun b=>?_
  have:=a.1 (by omega)
  grind
def Pf{n i j:Nat}(hj:j<n):(i*n+j)/n=i/\(i*n+j)%n=j:=by
 refine ⟨?_,?_⟩
 ·rw [aQ,Nat.mul_add_div (by omega),bC hj,Nat.add_zero]
 ·rw [aQ,Nat.mul_add_mod,bB hj]
def C1y(A:Nat->Nat->Rat)(n k i:Nat):Nat->Rat:=fun t=>if t%n=k/\t/n<i then ldL A (t/n) k else A2w A n k t
def A8e(A:Nat->Nat->Rat){n k i:Nat}(h:i=n\/ldA A k k k=0/\k<i):∀ t,t<n*n->C1y A n k i t=A2w A n (k+1) t:=by
 intro t a
 unfold C1y A2w
 have e:t/n<n:=aJ a
 by_cases c:t%n=k
 ·rw [iP (show t%n<k+1 by omega),c]
  by_cases c2:t/n<i
  ·rw [iP ⟨rfl,c2⟩]
  ·rw [iN (fun x=>c2 x.2),iN (bV k)]
   rcases h with h|⟨b,d⟩
   ·omega
   ·unfold ldL
    rw [iN (by omega),iN (by omega),iP b]
 ·rw [iN (fun x=>c x.1)]
  by_cases c2:t%n<k
  ·rw [iP c2,iP (by omega)]
  ·rw [iN c2,iN (by omega)]
def B4h(A:Nat->Nat->Rat)(k:Nat):(fun a=>if a=k then ldA A k k k else A2x A k a)=A2x A (k+1):=by
 funext a
 unfold A2x ldD
 by_cases c:a=k
 ·rw [iP c,iP (by omega),c]
 ·rw [iN c]
  by_cases c2:a<k
  ·rw [iP c2,iP (by omega)]
  ·rw [iN c2,iN (by omega)]
section
variable {h:aH} {A:Option aR} {E:Nat->Rat} {n cap m Q:Nat} {K:VP}
def Xv(gl:Gl h)(rq:aS RQr h A (n*n) E)(hcap:n*n<=cap)(hn1:1<=n)(hn:n<=64)(sy:A5r n (mtx E n))(hs:∀ i,i<n*n->Sz m (E i))(hQ1:3^n*bnd n m+bnd n m<=Q)(hQ:2*Q+1<=100000000)
 (hK1:(∀ k,k<n->Pz (mtx E n) n k)->∀ h' g' o' be bl bd T M w,h.le h'->h.le g'->Ld h' g' o' be bl bd T E n n M w (A2w (mtx E n) n n) (A2x (mtx E n) n)->K (.tuple #[.pointer (some ⟨be,0,none⟩),.bool true]) h')
 (hK0:∀ k,k<n->(∀ k',k'<k->Pz (mtx E n) n k')->¬ Pz (mtx E n) n k->∀ h' g' o' be bl bd T M w,h.le h'->h.le g'->Ld h' g' o' be bl bd T E n k M w (A2w (mtx E n) n k) (A2x (mtx E n) k)->K (.tuple #[.pointer (some ⟨be,0,none⟩),.bool false]) h'):aU prog Jc #[.slice A (n*n) cap,I (n:Int)] h K:=by
 have ah:n*n<=64*64:=aL hn hn
 have bo:1<=n*n:=Nat.mul_pos hn1 hn1
 have C:bnd n m<=Q:=by omega
 have bm:bnd n m=1+n*m+m:=rfl
 refine A2s _ _ _ _ ?_
 unfold A08
 refine Ee _ _ _ _ ?_
 unfold Dq
 refine Gm (m:=m) gl rq hcap hn1 (by omega) hn1 (by omega) hs (by omega) ?_
 intro h1 g1 o1 T ar t1 er ec
 refine ⟨_,rfl,?_⟩
 refine t1.sep.call (Db (by decide) (by decide) ?_)
 intro W A2 n2 c2 g2 l2 i2 h2 a2
 have t2:=t1.next a2 l2
 refine ⟨_,_,_,_,rfl,Wg ?_⟩
 intro be q
 have fr:∀ {O gg H:aH} {k x b},Sep O gg H->H k=some x->O b=none->k≠b:=by
  rintro O gg H k x b s e C rfl
  rw [s.own k x e] at C;cases C
 obtain ⟨⟨y1,z1⟩,⟨y2,z2⟩,⟨y3,z3⟩⟩:=t2.own
 have p:∀ {O gg H:aH} {b},Tab O gg H T (A0k E n) (Uf E n)->O b=none->¬ onT T b:=by
  intro O gg H b t C g
  obtain ⟨⟨y1,z1⟩,⟨y2,z2⟩,⟨y3,z3⟩⟩:=t.own
  rcases g with rfl|rfl|rfl
  ·exact fr t.sep z1 C rfl
  ·exact fr t.sep z2 C rfl
  ·exact fr t.sep z3 C rfl
 have s3:=t2.sep.new q (.cells (cX #[I (n:Int),I (0:Int),.pointer (some ⟨T.bt,0,none⟩),.bool W,.slice A2 n2 c2,.slice none 0 0,.slice none 0 0]).cells Ge)
 have X3:El _ g2 _ be T (A0k E n) (Uf E n) n 0 ⟨W,A2,n2,c2⟩ 1 (.slice none 0 0) (.slice none 0 0):=⟨t2.keep s3 (B5 _) (fun k x e _=>by rw [C0 _ _ (fr t2.sep e q)];exact e),er,ec,⟨Ge,C2 _ _ _⟩,p t2 q,i2⟩
 refine ⟨_,rfl,_,rfl,?_⟩
 clear t1
 have bn:h.le (h2.put be (.cells (cX #[I (n:Int),I (0:Int),.pointer (some ⟨T.bt,0,none⟩),.bool W,.slice A2 n2 c2,.slice none 0 0,.slice none 0 0]).cells Ge)):=B0 ar (B0 l2 X3.t.sep.le)
 generalize (h2.put be (.cells (cX #[I (n:Int),I (0:Int),.pointer (some ⟨T.bt,0,none⟩),.bool W,.slice A2 n2 c2,.slice none 0 0,.slice none 0 0]).cells Ge))=h3 at *
 generalize (o1.put be (.cells (cX #[I (n:Int),I (0:Int),.pointer (some ⟨T.bt,0,none⟩),.bool W,.slice A2 n2 c2,.slice none 0 0,.slice none 0 0]).cells Ge))=o3 at *
 have a6:h.le g2:=B0 ar l2
 have a9:B7 ((n:Int)*(n:Int))=((n*n:Nat):Int):=by rw [<- aN];exact L6 (by omega)
 rw [a9]
 have B:∀ {O gg H M k w z L D},El O gg H be T M (Uf E n) n k w z L D->∃ x,H be=some x:=fun X=>by obtain ⟨e,he⟩:=X.hd;exact ⟨_,he⟩
 refine N4 A9v (zx:=Z5) rfl (by omega) (by omega) (by omega) (by omega) ?_
 intro bl S
 simp only [aE]
 refine ⟨_,_,_,rfl,_,rfl,?_⟩
 have N:be≠bl:=by obtain ⟨x,g⟩:=B X3;exact fr X3.t.sep g S
 have X4:=X3.away (X3.t.sep.new S (.cells ((aI (n*n) Z5).flatMap enc).toArray G2)) (p X3.t S) N (fun y hy=>C0 _ _ hy)
 have q4:QB g2 (o3.put bl (.cells ((aI (n*n) Z5).flatMap enc).toArray G2)) bl (n*n) (fun _=>0):=⟨_,RowX.mk,aK,fun i hi=>⟨Z5,by rw [bO,iP hi],RQ.zero⟩⟩
 have tl:=p X3.t S
 refine X4.set (n':=n) (k':=0) (w':=⟨W,A2,n2,c2⟩) (z':=1) (L':=.slice (some ⟨bl,0,none⟩) (n*n) (n*n)) (D':=.slice none 0 0) (vs:=[.slice (some ⟨bl,0,none⟩) (n*n) (n*n)]) B2z rfl rfl (by intro x g;simp only [bW,bK,or_false] at g;subst g;rfl) (by omega) rfl X4.last rfl ?_
 intro h5 o5 X5 aq
 have q5:=q4.ko (B5 _) (aq _ N.symm)
 refine N4 A9v (zx:=Z5) rfl (by omega) (by omega) (by omega) (by omega) ?_
 intro bd V
 simp only [aE]
 refine ⟨_,_,_,rfl,_,rfl,?_⟩
 have ac:be≠bd:=by obtain ⟨x,g⟩:=B X5;exact fr X5.t.sep g V
 have ap:bl≠bd:=by obtain ⟨xs,⟨e,g⟩,_⟩:=q5;exact fr X5.t.sep g V
 have td:=p X5.t V
 have X6:=X5.away (X5.t.sep.new V (.cells ((aI n Z5).flatMap enc).toArray G2)) td ac (fun y hy=>C0 _ _ hy)
 have d6:QB g2 (o5.put bd (.cells ((aI n Z5).flatMap enc).toArray G2)) bd n (fun _=>0):=⟨_,RowX.mk,aK,fun i hi=>⟨Z5,by rw [bO,iP hi],RQ.zero⟩⟩
 have q6:=q5.ko (o':=o5.put bd (.cells ((aI n Z5).flatMap enc).toArray G2)) (B5 _) (C0 _ _ ap)
 refine X6.set (n':=n) (k':=0) (w':=⟨W,A2,n2,c2⟩) (z':=1) (L':=.slice (some ⟨bl,0,none⟩) (n*n) (n*n)) (D':=.slice (some ⟨bd,0,none⟩) n n) (vs:=[.slice (some ⟨bd,0,none⟩) n n]) B2z rfl rfl (by intro x g;simp only [bW,bK,or_false] at g;subst g;rfl) (by omega) rfl X6.last rfl ?_
 intro h7 o7 X7 ag
 have X0:Ld h7 g2 o7 be bl bd T E n 0 (A0k E n) ⟨W,A2,n2,c2⟩ (A2w (mtx E n) n 0) (A2x (mtx E n) 0):=⟨X7,fun _ _ _ _ _=>rfl,(q6.ko (B5 _) (ag _ N.symm)).congr (fun i _=>by unfold A2w;rw [iN (by omega)]),(d6.ko (B5 _) (ag _ ac.symm)).congr (fun i _=>by unfold A2x;rw [iN (by omega)]),tl,td,N,ac,ap⟩
 clear X7 X6 X5 X4 X3 q6 d6 q5 q4 ag aq
 have J:1<=Q:=by omega
 have ix:∀ {i j:Nat},i<n->j<n->B7 (B7 ((i:Int)*(n:Int))+(j:Int))=((i*n+j:Nat):Int):=fun {i j} hi hj=>by
  have:=L8 hi hj
  rw [<- aN,L6 (by omega)]
  exact L6 (n:=i*n+j) (by omega)
 have aa:∀ {i:Nat},i<n->B7 ((i:Int)+1)=((i+1:Nat):Int):=fun {i} hi=>by rw [C1]<;>omega
 refine ⟨fun L hq=>∃ (k:Nat) (g' o':aH) (M:Nat->Nat->Int) (w:IV),k<=n/\L=[.bool true,I (k:Int)]/\h.le g'/\(∀ k',k'<k->Pz (mtx E n) n k')/\Ld hq g' o' be bl bd T E n k M w (A2w (mtx E n) n k) (A2x (mtx E n) k),fun L _=>n-(iAt L 1).toNat,⟨0,g2,o7,_,_,by omega,rfl,a6,fun k' ae=>by omega,X0⟩,?_⟩
 clear X0
 rintro ba z5 hq ⟨k,g',o',M,w,hk,eL,lg,ok,X⟩
 simp only [bX,cO,cR,true_and,and_true] at eL
 obtain ⟨rfl,rfl⟩:=eL
 refine B8 (fun ak=>?_) (fun bp=>by
  have:k=n:=by omega
  subst this
  exact hK1 ok hq g' o' be bl bd T M w (B0 lg X.e.t.sep.le) lg X)
 have f:k<n:=by omega
 have F:=ldF hs hQ1 sy hk ok
 refine X.at (gl.mono lg) F (aC _) f f J (by omega) ?_
 intro w1 h1 g1 l1 s1 bf i1
 refine ⟨_,_,_,_,_,_,_,_,rfl,?_⟩
 have X1:=X.next s1 l1
 have o:h.le g1:=B0 lg l1
 refine FCall.mono (X1.partner F f (by omega)) ?_
 rintro r R ⟨rfl,a,b,rfl,a3,ay⟩
 have am:RQ R w1 (ldA (mtx E n) k k k):=H1 _ _ _ _ s1.le i1
 refine ⟨_,_,rfl,fun L g=>L=[.bool true]/\g=R/\Pz (mtx E n) n k,?_,?_⟩
 ·refine Uj am ⟨_,rfl,B8 (fun aj=>?_) (fun al=>?_)⟩
  ·have a4:=Yr.1 aj
   exact hK0 k f ok (fun x=>absurd x.1 (by grind)) R g1 o' be bl bd T M w (B0 o s1.le) o X1
  ·have ah:0<=ldA (mtx E n) k k k:=by
    have:¬ ldA (mtx E n) k k k<0:=fun c=>al (Yr.2 c)
    grind
   refine Rr am ⟨_,rfl,B8 (fun e0=>?_) (fun G=>⟨rfl,rfl,ah,fun e=>absurd e G⟩)⟩
   cases b with
   | true=>
    obtain ⟨b1,b2,b3⟩:=a3 rfl
    exact hK0 k f ok (fun x=>b3 (x.2 e0 a b1 b2)) R g1 o' be bl bd T M w (B0 o s1.le) o X1
   | false=>exact ⟨rfl,rfl,ah,fun _ j c1 c2=>ay rfl j c1 c2⟩
 rintro p1 g ⟨eL,rfl,av⟩
 simp only [bX,cO,and_true] at eL
 subst eL
 have ai: ∀ k',k'<=k->Pz (mtx E n) n k':=fun k' ae=>by
  by_cases c:k'=k
  ·rw [c];exact av
  ·exact ok k' (by omega)
 refine ⟨_,rfl,_,_,_,X1.e.c5,?_⟩
 refine s1.call (Ub (by omega) ?_)
 intro w2 g3 l3 i3 h4 s4
 refine ⟨_,_,_,_,_,_,_,_,rfl,s1.le_le s4 l3,_,rfl,?_⟩
 rw [ix f f]
 have X2:=X1.next s4 l3
 have au:=L8 f f
 refine ⟨by omega,by omega,?_⟩
 refine X2.storeL au (z:=1) i3 ?_
 intro h5 o5 X5
 refine ⟨_,rfl,_,_,_,X5.e.c6,_,rfl,by omega,by omega,?_⟩
 have ad:RQ g3 w1 (ldA (mtx E n) k k k):=H1 _ _ _ _ l3 i1
 refine X5.storeD f ad ?_
 intro h6 o6 X6
 have X7:Ld h6 g3 o6 be bl bd T E n k M w (C1y (mtx E n) n k (k+1)) (A2x (mtx E n) (k+1)):=X6.congr (fun t ht=>by
  show (if t=k*n+k then 1 else A2w (mtx E n) n k t)=_
  unfold C1y
  have dm:=Nat.div_add_mod t n
  by_cases c:t=k*n+k
  ·obtain ⟨d1,d2⟩:=Pf (i:=k) f
   rw [iP c,c,d1,d2,iP ⟨rfl,by omega⟩,B3g]
  ·rw [iN c]
   by_cases c2:t%n=k/\t/n<k+1
   ·rw [iP c2]
    have ak:t/n<k:=by
     refine aP fun bq=>c ?_
     have:t/n=k:=by omega
     rw [c2.1,this,aQ] at dm
     exact dm.symm
    rw [B3h ak]
    unfold A2w
    rw [iN (by omega)]
   ·rw [iN c2]) (fun t _=>by rw [<- B4h])
 clear X6 X5 X2 X1
 have an:h.le g3:=B0 o l3
 refine Rr (H1 _ _ _ _ X7.e.t.sep.le ad) ⟨_,rfl,B8 (fun e0=>?_) (fun G=>?_)⟩
 ·refine ⟨_,rfl,_,X7.e.c1,_,rfl,?_⟩
  rw [aa f]
  refine X7.e.set (n':=n) (k':=k+1) (w':=w) (z':=(elP E n n k).last) (L':=.slice (some ⟨bl,0,none⟩) (n*n) (n*n)) (D':=.slice (some ⟨bd,0,none⟩) n n) (vs:=[I ((k+1:Nat):Int)]) B30 rfl rfl (by intro x g;simp only [bW,bK,or_false] at g;subst g;rfl) (by omega) rfl X7.e.last rfl ?_
  intro h8 o8 Y ko
  have es:=A8x sy f ai e0
  refine ⟨⟨k+1,g3,o8,M,w,by omega,rfl,an,fun k' ae=>ai k' (by omega),⟨by rw [es];exact Y,fun i j a b c=>by rw [es];exact X7.m i j (by omega) b c,(X7.l.ko (B5 _) (ko _ X7.el.symm)).congr (A8e _ (.inr ⟨e0,by omega⟩)),X7.d.ko (B5 _) (ko _ X7.ed.symm),X7.tl,X7.td,X7.el,X7.ed,X7.ld⟩⟩,?_⟩
  show n-((k+1:Nat):Int).toNat<n-((k:Nat):Int).toNat
  omega
 rw [aa f]
 refine ⟨fun L g=>∃ (i:Nat) (g4 o4:aH),k<i/\i<=n/\L=[I (i:Int)]/\g3.le g4/\Ld g g4 o4 be bl bd T E n k M w (C1y (mtx E n) n k i) (A2x (mtx E n) (k+1)),fun L _=>n-(iAt L 0).toNat,⟨k+1,g3,o6,by omega,by omega,rfl,B5 _,X7⟩,?_⟩
 clear X7
 rintro z6 g ⟨i,g4,o4,bi,bg,eL,l4,X8⟩
 obtain rfl:=sI1 eL
 have af:h.le g4:=B0 an l4
 refine B8 (fun bb=>?_) (fun bc=>?_)
 ·have u:i<n:=by omega
  refine ⟨_,rfl,_,_,_,X8.e.c5,?_⟩
  refine X8.at (gl.mono af) F (by omega) u f J (by omega) ?_
  intro w9 h9 g9 Z s9 az i9
  refine ⟨_,_,_,_,_,_,_,_,rfl,az,?_⟩
  refine s9.call (Ke (m:=Q) (gl.mono (B0 af Z)).tz i9 (H1 _ _ _ _ (B0 l4 Z) ad) (F.zA i k (by omega) u f) (F.zA k k (aC _) f f) J (by omega) ?_)
  intro bj a0 ab ax bh ao
  refine ⟨_,_,_,_,_,_,_,_,rfl,s9.le_le ao ab,_,rfl,?_⟩
  rw [ix u f]
  have aw:=L8 u f
  refine ⟨by omega,by omega,?_⟩
  refine ((X8.next s9 Z).next ao ab).storeL aw ax ?_
  intro bk a5 X11
  rw [aa u]
  refine ⟨⟨i+1,a0,a5,by omega,by omega,rfl,B0 l4 (B0 Z ab),X11.congr (fun t ht=>?_) (fun _ _=>rfl)⟩,by simp only [U7];omega⟩
  show (if t=i*n+k then ldA (mtx E n) k i k/ldA (mtx E n) k k k else C1y (mtx E n) n k i t)=_
  unfold C1y
  have dm:=Nat.div_add_mod t n
  by_cases c:t=i*n+k
  ·obtain ⟨d1,d2⟩:=Pf (i:=i) f
   rw [iP c,c,d1,d2,iP ⟨rfl,by omega⟩]
   unfold ldL
   rw [iN (by omega),iN (by omega),iN G]
  ·rw [iN c]
   by_cases c2:t%n=k/\t/n<i
   ·rw [iP c2,iP ⟨c2.1,by omega⟩]
   ·rw [iN c2,iN]
    rintro ⟨c3,c4⟩
    have:t/n=i:=by
     have:¬ t/n<i:=fun x=>c2 ⟨c3,x⟩
     omega
    rw [c3,this,aQ] at dm
    exact c dm.symm
 ·have a1:i=n:=by omega
  subst a1
  refine Sc (m:=Q) X8.e f (by omega) F.last (fun a b ka ha C=>by rw [X8.m a b ka ha C];exact F.zM a b ha C) F.zl J hQ ?_
  intro h9 g9 o9 w9 Z Y ko
  obtain ⟨a8,a7,_⟩:=A8w sy f ok G
  refine ⟨rfl,⟨k+1,g9,o9,_,w9,by omega,rfl,B0 af Z,fun k' ae=>ai k' (by omega),⟨by rw [a7,<- X8.m k k (aC _) f f];exact Y,fun i j a b c=>?_,(X8.l.ko Z (ko _ X8.tl X8.el.symm)).congr (A8e _ (.inl rfl)),X8.d.ko Z (ko _ X8.td X8.ed.symm),X8.tl,X8.td,X8.el,X8.ed,X8.ld⟩⟩,?_⟩
  ·rw [iP (show k<i by omega),a8 i j (by omega) b,X8.m k k (aC _) f f,X8.m i j (by omega) b c,X8.m i k (by omega) b f,X8.m k j (aC _) f c]
  ·show i-((k+1:Nat):Int).toNat<i-((k:Nat):Int).toNat
   omega
end
def ns(f:Nat->Nat):Nat->Nat
 | 0=>0
 | n+1=>ns f n+f n
def C85(A:Nat->Nat->Rat)(n k:Nat)(v:Nat->Rat):Prop:=
 (v k=1/\(∀ i,k<i->i<n->v i=0)/\ldA A k k k<0)\/
 (∃ p,k<p/\p<n/\v p=1/\(∀ i,k<i->i<n->i≠p->v i=0)/\ldA A k k k=0/\ldA A k p k≠0/\v k=(ldA A k p p+1)/(ldA A k p k * -2))
def C80(n k Q:Nat):Nat:=(n-k)*(2*Q+2)+4*Q+10
structure Wv (E:Nat->Rat) (n k Q t:Nat) (v:Nat->Rat) (s:Nat->Nat):Prop where
 seed:C85 (mtx E n) n k v
 low:∀ i,i<t->v i=0
 zero:∀ m,t<=m->m<k->sm n (fun i=>ldL (mtx E n) i m*v i)=0
 sz:∀ i,i<n->Sz (s i) (v i)
 tot:ns (fun i=>if i<t then 0 else 2*Q+1+s i) n+(2*Q+2)<=2^(k-t)*C80 n k Q
def C2q:Sz 1 (1:Rat):=(⟨ZB.one (aC 1),ZB.one (aC 1)⟩:Sz 1 1)
def B3f{E:Nat->Rat}{n Q m:Nat}(F:LdF E n m Q)(hm:m<n)(hQ:1<=Q){i:Nat}(hi:i<n):Sz (2*Q) (ldL (mtx E n) i m):=by
 unfold ldL
 by_cases c:i=m
 ·rw [iP c];exact C2q.mono (by omega)
 ·rw [iN c]
  by_cases c2:i<m
  ·rw [iP c2];exact (Sz.zero (aC 1)).mono (by omega)
  ·rw [iN c2]
   split
   ·exact (Sz.zero (aC 1)).mono (by omega)
   ·exact ((F.zA i m (by omega) hi hm).div (F.zA m m (aC _) hm hm) hQ).mono (by omega)
section
variable {h g o:aH} {be bl bd bv:Nat} {T:Tb} {E:Nat->Rat} {n k Q W m:Nat} {M:Nat->Nat->Int} {w:IV} {K:VP}
structure Lv (h g o:aH) (be bl bd bv:Nat) (T:Tb) (E:Nat->Rat) (n k:Nat) (M:Nat->Nat->Int) (w:IV) (v:Nat->Rat):Prop where
 x:Ld h g o be bl bd T E n k M w (A2w (mtx E n) n k) (A2x (mtx E n) k)
 q:QB g o bv n v
 t:¬ onT T bv
 e:be≠bv
 l:bl≠bv
 d:bd≠bv
end
def SymT(q:Nat)(ls:Nat->List UInt8):Prop:=∀ i j,i<q->j<i->ls (i*q+j)=ls (j*q+i)
def SqOk(r c:Int)(n:Nat)(ls:Nat->List UInt8)(q:Nat):Prop:=MOk r c n ls q q/\SymT q ls
def SqE(r c:Int)(n:Nat)(ls:Nat->List UInt8)(e:Int):Prop:=(¬ Mx r c n ls/\e=1)\/(Mx r c n ls/\(¬ ∃ q,SqOk r c n ls q)/\e=4)
def SymT.symm{q:Nat}{ls:Nat->List UInt8}(h:SymT q ls):A5r q (mtx (rvs ls) q):=fun i j a b=>by
 show rv (ls (i*q+j))=rv (ls (j*q+i))
 rcases Nat.lt_trichotomy i j with c|c|c
 ·rw [h j i b c]
 ·rw [c]
 ·rw [h i j a c]
section
variable {h:aH} {K:VP} {A:Option aR} {n cap m:Nat} {r c:Int} {ls:Nat->List UInt8}
def MOk.sq{q q':Nat}(mk:MOk r c n ls q q')(e:r=c):q=q':=by have:=mk.er;have:=mk.ec;omega
def Fk(gl:Gl h)(rv':aS SSr h A n ls)(hn:n<=1000000)(hl:LL n ls)
 (hK1:∀ q,SqOk r c n ls q->∀ b h',Own RQr h h' b (q*q) (rvs ls)->K (.tuple #[.slice (some ⟨b,0,none⟩) (q*q) (q*q),I 0]) h')
 (hK0:∀ e,SqE r c n ls e->∀ h',h.le h'->K (.tuple #[.slice none 0 0,I e]) h'):aU prog Mo #[Dr r c A n cap] h K:=by
 refine B99 _ _ _ _ _ ?_
 unfold C5c
 refine T1 gl rv' hn hl ?_ (fun C g T=>⟨_,_,_,_,rfl,hK0 1 (.inl ⟨C,rfl⟩) g T⟩)
 intro q q' mk b g own
 refine ⟨_,_,_,_,rfl,?_⟩
 show Br _ _ _
 refine F8 (fun f=>hK0 4 (.inr ⟨⟨_,_,mk⟩,(fun ⟨a,x,_⟩=>f (by have:=x.er;have:=x.ec;omega)),rfl⟩) g own.le) (fun B=>?_)
 obtain rfl:=mk.sq B
 have:=mk.r2
 obtain ⟨rfl,rfl,_,_,_,_,rfl,M⟩:=id mk
 have E:aS SSr g A (q*q) ls:=rv'.mono J5 own.le
 have Z:q*q<=64*64:=aL (by omega) (by omega)
 have O:∀ {i j:Nat},i<q->j<q->B7 (B7 ((i:Int)*(q:Int))+(j:Int))=((i*q+j:Nat):Int):=fun {i j} o m=>by
  have:=L8 o m
  rw [<- aN,L6 (by omega)]
  exact L6 (n:=i*q+j) (by omega)
 have t:∀ {i j:Nat},i<q->j<i->ls (i*q+j)≠ls (j*q+i)->¬ ∃ a,SqOk (q:Int) (q:Int) (q*q) ls a:=by
  rintro i j o m f ⟨a,x,y⟩
  obtain rfl:a=q:=by have:=x.er;omega
  exact f (y i j o m)
 refine ⟨fun L l=>∃ i:Nat,i<=q/\L=[I (i:Int)]/\l=g/\∀ a b,a<i->b<a->ls (a*q+b)=ls (b*q+a),fun L _=>q-(iAt L 0).toNat,⟨0,by omega,rfl,rfl,fun a b G=>by omega⟩,?_⟩
 rintro z l ⟨i,o,s,rfl,F⟩
 obtain rfl:=sI1 s
 refine B8 (fun Q=>?_) (fun V=>hK1 q ⟨mk,fun a b G k=>F a b (by omega) k⟩ b l own)
 have d:i<q:=by omega
 refine ⟨fun L w=>∃ j:Nat,j<=i/\L=[I (j:Int)]/\w=l/\∀ b,b<j->ls (i*q+b)=ls (b*q+i),fun L _=>i-(iAt L 0).toNat,⟨0,by omega,rfl,rfl,fun b k=>by omega⟩,?_⟩
 rintro z2 w ⟨j,m,s,rfl,J⟩
 obtain rfl:=sI1 s
 refine B8 (fun H=>?_) (fun N=>?_)
 ·have p:j<i:=by omega
  have R:=L8 d (show j<q by omega)
  have W:=L8 (show j<q by omega) d
  obtain ⟨u,rfl,X⟩:=E.sat R
  obtain ⟨u',D,S⟩:=E.sat W
  simp only [bG] at D
  subst D
  rw [O d (show j<q by omega),O (show j<q by omega) d]
  refine ⟨_,rfl,by omega,by omega,_,X,_,rfl,by omega,by omega,_,S,?_⟩
  rw [Lb]
  refine Br.not (B8 (fun e=>?_) (fun e=>hK0 4 (.inr ⟨⟨_,_,mk⟩,t d p e,rfl⟩) w own.le))
  rw [wiS j (by omega)]
  refine ⟨⟨j+1,by omega,rfl,rfl,fun b k=>?_⟩,by simp only [U7];omega⟩
  by_cases c:b=j
  ·rw [c];exact e
  ·exact J b (by omega)
 ·rw [wiS i (by omega)]
  refine ⟨⟨i+1,by omega,rfl,rfl,fun a b G k=>?_⟩,by simp only [U7];omega⟩
  by_cases c:a=i
  ·rw [c];exact J b (by omega)
  ·exact F a b (by omega) k
def Bc(rv':aS SSr h A n ls)(hn:n<=1000000)(hl:LL n ls)
 (hK1:∀ q,SqOk r c n ls q->∀ bo cp h',h.le h'->q<=cp->cD h' (some ⟨bo,0,none⟩) q q (mtx (rvs ls) q)->K (.tuple #[.slice (some ⟨bo,0,none⟩) q cp,I 0]) h')
 (hK0:∀ e,SqE r c n ls e->∀ h',h.le h'->K (.tuple #[.slice none 0 0,I e]) h'):aU prog Bg #[Dr r c A n cap] h K:=by
 refine B1g _ _ _ _ _ ?_
 unfold B65
 refine Zc rv' hn hl ?_ (fun D k g=>⟨_,_,_,_,rfl,hK0 1 (.inl ⟨D,rfl⟩) k g⟩)
 intro q q' mk bo k g V
 refine ⟨_,_,_,_,rfl,?_⟩
 show Br _ _ _
 refine F8 (fun f=>hK0 4 (.inr ⟨⟨_,_,mk⟩,(fun ⟨a,x,_⟩=>f (by have:=x.er;have:=x.ec;omega)),rfl⟩) k g) (fun C=>?_)
 obtain rfl:=mk.sq C
 have:=mk.r2
 obtain ⟨rfl,rfl,_,_,_,_,rfl,N⟩:=id mk
 have F:aS SSr k A (q*q) ls:=rv'.mono J5 g
 have aa:q*q<=64*64:=aL (by omega) (by omega)
 have Q:∀ {i j:Nat},i<q->j<q->B7 (B7 ((i:Int)*(q:Int))+(j:Int))=((i*q+j:Nat):Int):=fun {i j} p o=>by
  have:=L8 p o
  rw [<- aN,L6 (by omega)]
  exact L6 (n:=i*q+j) (by omega)
 have w:∀ {i j:Nat},i<q->j<i->ls (i*q+j)≠ls (j*q+i)->¬ ∃ a,SqOk (q:Int) (q:Int) (q*q) ls a:=by
  rintro i j p o f ⟨a,x,y⟩
  obtain rfl:a=q:=by have:=x.er;omega
  exact f (y i j p o)
 refine ⟨fun L m=>∃ i:Nat,i<=q/\L=[I (i:Int)]/\m=k/\∀ a b,a<i->b<a->ls (a*q+b)=ls (b*q+a),fun L _=>q-(iAt L 0).toNat,⟨0,by omega,rfl,rfl,fun a b H=>by omega⟩,?_⟩
 rintro z m ⟨i,p,t,rfl,G⟩
 obtain rfl:=sI1 t
 refine B8 (fun R=>?_) (fun W=>hK1 q ⟨mk,fun a b H l=>G a b (by omega) l⟩ bo _ m g (aC _) V)
 have d:i<q:=by omega
 refine ⟨fun L B=>∃ j:Nat,j<=i/\L=[I (j:Int)]/\B=m/\∀ b,b<j->ls (i*q+b)=ls (b*q+i),fun L _=>i-(iAt L 0).toNat,⟨0,by omega,rfl,rfl,fun b l=>by omega⟩,?_⟩
 rintro z2 B ⟨j,o,t,rfl,M⟩
 obtain rfl:=sI1 t
 refine B8 (fun J=>?_) (fun O=>?_)
 ·have s:j<i:=by omega
  have S:=L8 d (show j<q by omega)
  have X:=L8 (show j<q by omega) d
  obtain ⟨u,rfl,Z⟩:=F.sat S
  obtain ⟨u',E,T⟩:=F.sat X
  simp only [bG] at E
  subst E
  rw [Q d (show j<q by omega),Q (show j<q by omega) d]
  refine ⟨_,rfl,by omega,by omega,_,Z,_,rfl,by omega,by omega,_,T,?_⟩
  rw [Lb]
  refine Br.not (B8 (fun e=>?_) (fun e=>hK0 4 (.inr ⟨⟨_,_,mk⟩,w d s e,rfl⟩) B g))
  rw [wiS j (by omega)]
  refine ⟨⟨j+1,by omega,rfl,rfl,fun b l=>?_⟩,by simp only [U7];omega⟩
  by_cases c:b=j
  ·rw [c];exact e
  ·exact M b (by omega)
 ·rw [wiS i (by omega)]
  refine ⟨⟨i+1,by omega,rfl,rfl,fun a b H l=>?_⟩,by simp only [U7];omega⟩
  by_cases c:a=i
  ·rw [c];exact M b (by omega)
  ·exact G a b (by omega) l
structure FacV (h:aH) (q:Nat) (A1:Option aR) (A2:Option aR) (E:Nat->Rat):Prop where
 l:aS SSr h A1 (q*q) (fun t=>K4 (A2w (mtx E q) q q t))
 d:aS SSr h A2 q (fun t=>K4 (A2x (mtx E q) q t))
def Jg{Q:Nat}(gl:Gl h)(rv':aS SSr h A n ls)(hn:n<=1000000)(hl:LL n ls)(hs:∀ i,i<n->Sz m (rv (ls i)))(hb:∀ q,MOk r c n ls q q->3^q*bnd q m+bnd q m<=Q)(hQ:Q<=20000000)
 (hK1:∀ q,SqOk r c n ls q->(∀ k,k<q->Pz (mtx (rvs ls) q) q k)->∀ b1 b2 h',h.le h'->FacV h' q (some ⟨b1,0,none⟩) (some ⟨b2,0,none⟩) (rvs ls)->K (.tuple #[.agg #[I r,I c,.slice (some ⟨b1,0,none⟩) (q*q) (q*q),.slice (some ⟨b2,0,none⟩) q q],.bool true,I 0]) h')
 (hK2:∀ q,SqOk r c n ls q->(¬ ∀ k,k<q->Pz (mtx (rvs ls) q) q k)->∀ h',h.le h'->K (.tuple #[.agg #[I 0,I 0,.slice none 0 0,.slice none 0 0],.bool false,I 0]) h')
 (hK0:∀ e,SqE r c n ls e->∀ h',h.le h'->K (.tuple #[.agg #[I 0,I 0,.slice none 0 0,.slice none 0 0],.bool false,I e]) h'):aU prog Fj #[Dr r c A n cap] h K:=by
 refine B1j _ _ _ _ _ ?_
 unfold B6g
 refine Fk gl rv' hn hl ?_ (fun e G E V=>⟨_,_,_,_,rfl,F8 (fun _=>hK0 e G E V) (fun e0=>by rcases G with ⟨_,x⟩|⟨_,_,x⟩<;>omega)⟩)
 intro q sq b E own
 obtain ⟨mk,J⟩:=id sq
 have g:=hb q mk
 have:=mk.r1;have:=mk.r2
 obtain ⟨rfl,rfl,_,_,_,_,rfl,H⟩:=id mk
 refine ⟨_,_,_,_,rfl,F8 (fun y=>absurd rfl y) (fun _=>?_)⟩
 refine Xv (Q:=Q) (gl.mono own.le) (own.vis H1) (aC _) (by omega) (by omega) J.symm hs g (by omega) ?_ ?_
 ·intro ok u D o2 be W S T M w p L X
  have aa:q*q<=64*64:=aL (by omega) (by omega)
  have z:1<=Q:=by unfold bnd at g;omega
  have F:=fun k (s:k<=q)=>ldF hs g J.symm s fun m C=>ok m (by omega)
  have N:Gl D:=gl.mono (B0 own.le L)
  refine ⟨_,_,rfl,?_⟩
  show Br false _ _
  refine ⟨_,rfl,_,_,_,X.e.c5,?_⟩
  have j:Gl u:=gl.mono (B0 own.le p)
  refine Ij (m:=2*Q) j (X.l.rowV X.e.t.sep) (by omega) (fun i o=>?_) (by omega) ?_
  ·unfold A2w
   have C:i%q<q:=bI _ (by omega)
   rw [iP C]
   exact B3f (F _ (by omega)) C z (aJ o)
  intro O h3 a
  refine ⟨_,_,_,rfl,a.le,_,rfl,_,_,_,B9 a.le X.e.c6,?_⟩
  refine Ij (m:=Q) (j.mono a.le) ((X.d.rowV X.e.t.sep).mono H1 a.le) (by omega) (fun i o=>?_) (by omega) ?_
  ·unfold A2x ldD
   rw [iP o]
   exact (F i (by omega)).zA i i (aC _) o o
  intro Z R f
  exact ⟨_,_,_,rfl,f.le,hK1 q sq ok O Z R (B0 (B0 own.le p) (B0 a.le f.le)) ⟨(a.vis J5).mono J5 f.le,f.vis J5⟩⟩
 ·intro k s ok B u D o2 be W S T M w p L X
  refine ⟨_,_,rfl,?_⟩
  show Br true _ _
  exact hK2 q sq (fun x=>B (x k s)) u (B0 own.le p)
end
def Xj{X Y:Prop}(x:X):Br true X Y:=x
def C5i:K4 0=[48]:=B1z
def C81:K4 (1/2)=[49,47,50]:=by
 have b:P0 1=[49]:=by decide +kernel
 have c:P0 2=[50]:=by decide +kernel
 have d:(1/2:Rat).den=2:=by decide +kernel
 have a:(1/2:Rat).num=1:=by decide +kernel
 simp [K4,Nl,b,c,d,a]
abbrev E4:Nat->Rat:=fun i=>([4,2,2,1]:List Rat).getD i 0
abbrev E0:Nat->Rat:=fun i=>([0,1,1,0]:List Rat).getD i 0
def aw4:ldA (mtx E4 2) 0 0 0=4/\ldA (mtx E4 2) 1 1 1=0:=by decide +kernel
def aw5:∀ t,t<4->A2w (mtx E4 2) 2 2 t=([1,0,1/2,1]:List Rat).getD t 0:=by decide +kernel
def aw6:∀ t,t<2->A2x (mtx E4 2) 2 t=([4,0]:List Rat).getD t 0:=by decide +kernel
def aw7:ldA (mtx E0 2) 0 0 0=0/\ldA (mtx E0 2) 0 1 0≠0:=by decide +kernel
def C6n:∀ k,k<2->Pz (mtx E4 2) 2 k:=by
 intro k a
 have h:=aw4
 by_cases c:k=0
 ·subst c
  exact ⟨by rw [h.1];decide +kernel,fun e=>by rw [h.1] at e;exact absurd e (by decide +kernel)⟩
 ·have:k=1:=by omega
  subst this
  exact ⟨by rw [h.2];exact Rat.le_refl,fun _ i d b=>by omega⟩
def C6o:¬ ∀ k,k<2->Pz (mtx E0 2) 2 k:=fun x=>aw7.2 ((x 0 (by omega)).2 aw7.1 1 (by omega) (by omega))
def B3d(l:List Rat)(hl:∀ q∈l,(K4 q).length<=1){i:Nat}(hi:i<(l.map K4).length):((l.map K4).getD i []).length<=1:=by
 rw [cC,cF hi]
 have a:i<l.length:=by simpa using hi
 simp only [List.getElem_map,Option.getD_some]
 exact hl _ (List.getElem_mem a)
def Va(l:List Rat){i:Nat}(hi:i<l.length):(l.map K4).getD i []=K4 (l.getD i 0):=by
 rw [cC,cC,List.getElem?_map,cF hi]
 rfl
def C6x(l:List Rat)(hl:l.length=4):MOk 2 2 4 (fun i=>(l.map K4).getD i []) 2 2:=by
 refine MOk.of (r:=2) (c:=2) ⟨by omega,by omega,by omega,by omega,by omega⟩ fun i a=>⟨l.getD i 0,Va l (by omega)⟩
def C3o(l:List Rat)(hl:l.length=4)(e:l.getD 2 0=l.getD 1 0):SymT 2 (fun i=>(l.map K4).getD i []):=fun i j d c=>by
 have b:i=1:=by omega
 have a:j=0:=by omega
 subst b
 subst a
 show (l.map K4).getD 2 []=(l.map K4).getD 1 []
 rw [Va l (by omega),Va l (by omega),e]
def A7b{h:aH}{K:VP}(gl:Gl h)(hK:∀ h',h.le h'->K (.bool true) h'):aU prog Gz #[] h K:=by
 refine B5k ?_
 unfold C0m
 have W:∀ q,MOk 2 2 4 (fun i=>(([4,2,2,1]:List Rat).map K4).getD i []) q q->3^q*bnd q 4+bnd q 4<=1000:=fun q mk=>by
  have:=mk.er
  have:q=2:=by omega
  subst this
  decide
 have F:∀ q,MOk 2 2 4 (fun i=>(([0,1,1,0]:List Rat).map K4).getD i []) q q->3^q*bnd q 4+bnd q 4<=1000:=fun q mk=>by
  have:=mk.er
  have:q=2:=by omega
  subst this
  decide
 have f:=C6x [4,2,2,1] rfl
 have j:=C6x [0,1,1,0] rfl
 have n:=C3o [4,2,2,1] rfl rfl
 have o:=C3o [0,1,1,0] rfl rfl
 have r:∀ e,¬ SqE 2 2 4 (fun i=>(([4,2,2,1]:List Rat).map K4).getD i []) e:=fun e x=>by
  rcases x with ⟨x,_⟩|⟨_,x,_⟩
  ·exact x ⟨_,_,f⟩
  ·exact x ⟨2,f,n⟩
 have p:∀ e,¬ SqE 2 2 4 (fun i=>(([0,1,1,0]:List Rat).map K4).getD i []) e:=fun e x=>by
  rcases x with ⟨x,_⟩|⟨_,x,_⟩
  ·exact x ⟨_,_,j⟩
  ·exact x ⟨2,j,o⟩
 have w:∀ {i:Nat},i<4->((([4,2,2,1]:List Rat).map K4).getD i []).length<=1:=fun {i} a=>B3d _ (by simp [C3l,C6v,C5y]) (by simpa using a)
 have E:∀ {i:Nat},i<4->((([0,1,1,0]:List Rat).map K4).getD i []).length<=1:=fun {i} a=>B3d _ (by simp [C3l,C5i]) (by simpa using a)
 refine A14 Ao (ls:=[4,2,2,1].map K4) rfl (by simp) (by rw [show ([4,2,2,1]:List Rat).map K4=[[52],[50],[50],[49]] by simp [C3l,C6v,C5y]];rfl) ?_
 intro b1 h1 z H
 have O:=Ip H
 refine ⟨_,_,_,rfl,?_⟩
 refine Jg (m:=4) (Q:=1000) (gl.mono z) O (by simp) (fun i a=>bY (w (by simpa using a)) (by omega)) (fun i a=>B7i (k:=1) (w (by simpa using a)) (by omega)) W (by omega) ?_ (fun q sq b _ _=>?_) (fun e s _ _=>absurd s (r e))
 rotate_left
 ·obtain rfl:q=2:=by have:=sq.1.er;omega
  rw [A0p] at b
  exact absurd C6n b
 intro q sq T c1 c2 h2 L D
 obtain rfl:q=2:=by have:=sq.1.er;omega
 have t:=D.l
 have u:=D.d
 rw [A0p] at t u
 refine ⟨_,_,_,_,_,_,_,_,_,_,rfl,?_⟩
 refine A14 Ao (ls:=[0,1,1,0].map K4) rfl (by simp) (by rw [show ([0,1,1,0]:List Rat).map K4=[[48],[49],[49],[48]] by simp [C3l,C5i]];rfl) ?_
 intro b3 Z A X
 have J:=Ip X
 have g:=B0 z (B0 L A)
 refine ⟨_,_,_,rfl,?_⟩
 refine Jg (m:=4) (Q:=1000) (gl.mono g) J (by simp) (fun i a=>bY (E (by simpa using a)) (by omega)) (fun i a=>B7i (k:=1) (E (by simpa using a)) (by omega)) F (by omega) (fun q sq ok _ _ _ _ _=>?_) ?_ (fun e s _ _=>absurd s (p e))
 ·obtain rfl:q=2:=by have:=sq.1.er;omega
  rw [A0p] at ok
  exact absurd ok C6o
 intro q N _ h4 y
 refine ⟨_,_,_,_,_,_,_,_,_,_,rfl,Xj (Xj ?_)⟩
 refine A14 Ao (ls:=[4,0].map K4) rfl (by simp) (by rw [show ([4,0]:List Rat).map K4=[[52],[48]] by simp [C5y,C5i]];rfl) ?_
 intro b5 h5 B M
 have R:=Ip M
 refine ⟨_,_,_,rfl,?_⟩
 have c:=B0 A (B0 y B)
 refine Cg (u.mono J5 c) R (by omega) (fun _ _=>⟨_,rfl,Xj ?_⟩) (fun b=>absurd ⟨by simp,fun i a=>?_⟩ b)
 rotate_left
 ·rw [Va _ (by simpa using a),aw6 i a]
 refine A14 Ao (ls:=[1,0,1/2,1].map K4) rfl (by simp) (by rw [show ([1,0,1/2,1]:List Rat).map K4=[[49],[48],[49,47,50],[49]] by simp only [List.map_cons,List.map_nil,C3l,C5i,C81]];rfl) ?_
 intro b6 G C S
 have V:=Ip S
 refine ⟨_,_,_,rfl,?_⟩
 refine Cg (t.mono J5 (B0 c C)) V (by omega) (fun _ _=>⟨_,rfl,Xj (Xj ?_)⟩) (fun b=>absurd ⟨by simp,fun i a=>?_⟩ b)
 rotate_left
 ·rw [Va _ (by simpa using a),aw5 i a]
 exact hK G (B0 g (B0 y (B0 B C)))
section
variable {h:aH} {A:Option aR} {n cap:Nat} {r c:Int} {ls:Nat->List UInt8}
def B2d{m:Nat}(sm:Small r c n ls 5 12)(hm:m=48):(∀ i,i<n->(ls i).length<=100000000)/\(∀ i,i<n->Sz m (rv (ls i)))/\n<=1000000/\∀ rows cols,MOk r c n ls rows cols->rows<=5/\cols<=5:=by
 subst hm
 refine ⟨fun i a=>by have:=sm.hl i a;omega,fun i a=>B7i (k:=12) (by have:=sm.hl i a;omega) (by omega),by have:=sm.hn;omega,fun rows cols mk=>⟨by have:=mk.er;have:=sm.hr;omega,by have:=mk.ec;have:=sm.hc;omega⟩⟩
def C41{q:Nat}(h:q<=5):3^q*bnd q 48+bnd q 48<=71000:=by
 have a:bnd q 48<=289:=by unfold bnd;omega
 have b:3^q*bnd q 48<=3^5*289:=aL (Nat.pow_le_pow_right (show 3>0 by decide) h) a
 have c:3^5*289=70227:=by decide
 omega
end
section
variable {h:aH} {K:VP} {A:Option aR} {n cap m w:Nat} {r c:Int} {ls:Nat->List UInt8} {R:Nat->Nat->Rat}
def Gt(hn:n<=10000)(hw:w<=10000)
 (hK:∀ h' g' o' bo rb,h.le g'->Mt h' g' o' bo rb n w (fun _ _=>0)->K (.slice (some ⟨bo,0,none⟩) n n) h'):aU prog Pc #[I (n:Int),I (w:Int)] h K:=by
 refine B6d _ _ ?_
 unfold C11
 refine N4 B9g (zx:=(⟨none,0,0⟩:HV)) rfl (by omega) (by omega) (by omega) (by omega) ?_
 intro bo C
 simp only [aE]
 refine ⟨_,_,_,rfl,fun L A=>∃ (k:Nat) (g o:aH) (l:List HV) (rb:Nat->Nat),k<=n/\L=[I (k:Int)]/\h.le g/\Sep A g o/\RowX o bo l/\l.length=n/\(∀ i,i<k->l[i]? = some ⟨some ⟨rb i,0,none⟩,w,w⟩)/\(∀ i,i<k->rb i≠bo)/\(∀ i j,i<k->j<k->rb i=rb j->i=j)/\(∀ i,i<k->RowX o (rb i) (aI w Z5)),fun L _=>n-(iAt L 0).toNat,
  ⟨0,h,V7.put bo _,aI n ⟨none,0,0⟩,fun _=>0,by omega,rfl,B5 _,Da C,RowX.mk,aK,fun i a=>by omega,fun i a=>by omega,fun i j a=>by omega,fun i a=>by omega⟩,?_⟩
 rintro z A ⟨k,g,o,l,rb,W,S,O,s,F,G,M,u,H,B⟩
 obtain rfl:=sI1 S
 refine B8 (fun R=>?_) (fun V=>?_)
 ·have Q:k<n:=by omega
  refine N4 Sk (zx:=Z5) rfl (by omega) (by omega) (by omega) (by omega) ?_
  intro b d
  simp only [aE]
  have m:∀ q x,o q=some x->q≠b:=by
   rintro q x e rfl
   rw [s.own q x e] at d;cases d
  have c:bo≠b:=by obtain ⟨e,D⟩:=F;exact m _ _ D
  have f:∀ i,i<k->rb i≠b:=fun i a=>by obtain ⟨e,D⟩:=B i a;exact m _ _ D
  refine ⟨_,_,_,rfl,_,rfl,by omega,by omega,?_⟩
  refine Aj Tf (y:=(⟨some ⟨b,0,none⟩,w,w⟩:HV)) rfl (s.new d _) (F.other c _) (i:=k) (by omega) ?_
  intro Z J X p T E
  rw [wiS k (by omega)]
  refine ⟨⟨k+1,g,J,_,fun i=>if i=k then b else rb i,by omega,rfl,O,T,E,by rw [bM];exact G,fun i a=>?_,fun i a=>?_,fun i j a N e=>?_,fun i a=>?_⟩,by simp only [U7];omega⟩
  ·show (l.set k _)[i]? = some (⟨some ⟨if i=k then b else rb i,0,none⟩,w,w⟩:HV)
   by_cases e:i=k
   ·subst e
    rw [iP rfl,List.getElem?_set_self (by omega)]
   ·rw [iN e,List.getElem?_set_ne (fun x=>e x.symm)]
    exact M i (by omega)
  ·show (if i=k then b else rb i)≠bo
   by_cases e:i=k
   ·rw [iP e];exact c.symm
   ·rw [iN e];exact u i (by omega)
  ·change (if i=k then b else rb i)=(if j=k then b else rb j) at e
   by_cases t:i=k
   ·by_cases r:j=k
    ·omega
    ·rw [iP t,iN r] at e
     exact absurd e.symm (f j (by omega))
   ·by_cases r:j=k
    ·rw [iN t,iP r] at e
     exact absurd e (f i (by omega))
    ·rw [iN t,iN r] at e
     exact H i j (by omega) (by omega) e
  ·show RowX J (if i=k then b else rb i) _
   by_cases e:i=k
   ·rw [iP e,p]
    exact RowX.mk.other c.symm _
   ·rw [iN e,p]
    exact ((B i (by omega)).other (f i (by omega)) _).other (u i (by omega)) _
 ·have:k=n:=by omega
  subst this
  refine hK A g o bo rb O ⟨s,⟨l,F.rowB,G,fun i a=>⟨w,M i a,aC _⟩⟩,u,H,fun i a=>⟨_,(B i a).rowB,aK,fun j N=>⟨Z5,by rw [bO,iP N],NQ.zero⟩⟩⟩
def A9r(R:Nat->Nat->Rat)(i k:Nat):Nat->Nat->Rat:=fun a b=>if b<i\/(b=i/\a<k) then R b a else 0
def A6v(rs:cD h A n w R)(hn1:1<=n)(hn:n<=10000)(hw:w<=10000)
 (hK:∀ h' g' o' bo rb,h.le g'->Mt h' g' o' bo rb w n (fun a b=>R b a)->K (.slice (some ⟨bo,0,none⟩) w w) h'):aU prog A1t #[.slice A n cap] h K:=by
 refine B95 _ _ _ ?_
 unfold C57
 obtain ⟨a,sv,M,F,e2,hc,_⟩:=rs.at (i:=0) (by omega)
 refine ⟨a,M,by omega,by omega,_,_,_,hc,?_⟩
 rw [F]
 refine Gt hw hn ?_
 intro h1 H O bo rb Z t1
 refine ⟨_,_,_,rfl,fun L p=>∃ (i:Nat) (g o:aH),i<=n/\L=[I (i:Int)]/\h.le g/\Mt p g o bo rb w n (A9r R i 0),fun L _=>n-(iAt L 0).toNat,⟨0,H,O,by omega,rfl,Z,t1.congr fun a b _ _=>by unfold A9r;rw [iN (by omega)]⟩,?_⟩
 rintro z p ⟨i,g,o,hi,T,E,t⟩
 obtain rfl:=sI1 T
 refine B8 (fun J=>?_) (fun aa=>?_)
 ·have l:i<n:=by omega
  obtain ⟨C,s1,m,X,f2,r,row⟩:=rs.at l
  refine ⟨fun L p=>∃ (k:Nat) (g o:aH),k<=w/\L=[I (k:Int)]/\h.le g/\Mt p g o bo rb w n (A9r R i k),fun L _=>w-(iAt L 0).toNat,⟨0,g,o,by omega,rfl,E,t⟩,?_⟩
  rintro z W ⟨k,y,o2,hk,s,c,d⟩
  obtain rfl:=sI1 s
  have j:=B0 c d.sep.le
  refine ⟨C,m,by omega,by omega,_,_,_,B9 j r,?_⟩
  rw [X]
  refine B8 (fun B=>?_) (fun D=>?_)
  ·have f:k<w:=by omega
   obtain ⟨cc,Q,N⟩:=d.head f
   obtain ⟨a5,w5,S,G,c0,c1,u,c3⟩:=(row.mono R6 c).qat f
   refine ⟨_,rfl,by omega,by omega,_,_,_,d.sep.cell N,C,m,by omega,by omega,_,_,_,B9 j r,a5,S,by omega,by omega,_,_,_,_,_,_,_,_,B9 d.sep.le c0,B9 d.sep.le c1,B9 d.sep.le u,B9 d.sep.le c3,_,rfl,by omega,by omega,?_⟩
   refine d.store f l G ?_
   intro h6 o6 V _
   rw [wiS k (by omega)]
   refine ⟨⟨k+1,y,o6,by omega,rfl,c,V.congr fun a b _ _=>?_⟩,by simp only [U7];omega⟩
   unfold A2v A9r
   by_cases e:a=k/\b=i
   ·rw [iP e,iP (by omega),e.1,e.2]
   ·rw [iN e]
    by_cases q:b<i\/(b=i/\a<k)
    ·rw [iP q,iP (by omega)]
    ·rw [iN q,iN (by omega)]
  ·have:k=w:=by omega
   subst this
   rw [wiS i (by omega)]
   refine ⟨⟨i+1,y,o2,by omega,rfl,c,d.congr fun a b ha _=>?_⟩,by simp only [U7];omega⟩
   unfold A9r
   by_cases q:b<i\/(b=i/\a<k)
   ·rw [iP q,iP (by omega)]
   ·rw [iN q,iN (by omega)]
 ·have:i=n:=by omega
  subst this
  exact hK p g o bo rb E (t.congr fun a b _ hb=>by unfold A9r;rw [iP (.inl hb)])
def B0j(rs:cD h A n w R)(hn1:1<=n)(hn:n<=10000)(hw:w<=10000)
 (hK:∀ bo h',h.le h'->cD h' (some ⟨bo,0,none⟩) w n (fun a b=>R b a)->K (.slice (some ⟨bo,0,none⟩) w w) h'):aU prog A1t #[.slice A n cap] h K:=A6v rs hn1 hn hw fun h' d e bo c l t=>hK bo h' (B0 l t.sep.le) t.rowsV
def Ks{α:Type}[E:Enc α]{o:aH}{b:Nat}{e:TypeId}{c:Nat}{zx:α}:bD (o.put b (.cells ((aI c zx).flatMap enc).toArray e)) e (some ⟨b,0,none⟩) c ([]:List α):=
 ⟨Nat.zero_le _,.inr ⟨b,_,rfl,C2 _ _ _,by rw [L7,aK],by simp⟩⟩
def OwnS(h h':aH)(A:Option aR)(c n:Nat)(f:Nat->List UInt8):Prop:=∃ g o xs,h.le g/\Sep h' g o/\bD o Q1 A c xs/\xs.length=n/\Row SSr g xs n f
def OwnS.le{h h':aH}{c n:Nat}{f:Nat->List UInt8}(w:OwnS h h' A c n f):h.le h':=by
 obtain ⟨g,o,b,a,s,_⟩:=w
 exact B0 a s.le
def OwnS.vis{h h':aH}{c n:Nat}{f:Nat->List UInt8}(w:OwnS h h' A c n f):aS SSr h' A n f:=by
 obtain ⟨g,o,a,d,s,b,e,q⟩:=w
 exact ⟨a,b.slF s.ole,e,q.mono J5 s.le⟩
end
def Br.nt{X Y:Prop}(y:Y):Br (!true) X Y:=y
def Hp{X Y:Prop}(x:X):Br (!false) X Y:=x
def RowX.qcells{o:aH}{b:Nat}{ys:List QV}(r:RowX o b ys){i:Nat}(hi:i<ys.length):o.cell? (aG (aG ⟨b,0,none⟩ (i*4)) 0)=some (.bool ys[i].s)/\o.cell? (aG (aG ⟨b,0,none⟩ (i*4)) 1)=some (.slice ys[i].A ys[i].n ys[i].c)/\o.cell? (aG (aG ⟨b,0,none⟩ (i*4)) 2)=some (.bool ys[i].s2)/\o.cell? (aG (aG ⟨b,0,none⟩ (i*4)) 3)=some (.slice ys[i].A2 ys[i].n2 ys[i].c2):=by
 obtain ⟨x,e,a⟩:=SlF.at (by decide) (r.rowB.slF (B5 o)) hi
 simp only [bG] at e
 subst e
 exact ⟨a 0 _ rfl,a 1 _ rfl,a 2 _ rfl,a 3 _ rfl⟩
structure MOut where
 r:Int
 c:Int
 n:Nat
 f:Nat->List UInt8
 e:Int
def noM(e:Int):MOut:=⟨0,0,0,fun _=>[],e⟩
def C5e(r c:Int)(n:Nat)(la:Nat->List UInt8)(r2 c2:Int)(n2:Nat)(lb:Nat->List UInt8)(q:Rat)(o:MOut):Prop:=
 (¬ (Mx r c n la/\Mx r2 c2 n2 lb)/\o=noM 1)\/(Mx r c n la/\Mx r2 c2 n2 lb/\(r≠r2\/c≠c2)/\o=noM 4)\/(Mx r c n la/\Mx r2 c2 n2 lb/\r=r2/\c=c2/\o=⟨r,c,n,fun k=>K4 (rv (la k)+q*rv (lb k)),0⟩)
section
variable {h:aH} {K:VP} {A B:Option aR} {n n2 cap cap2 m w:Nat} {r c r2 c2:Int} {la lb:Nat->List UInt8}
def Xq(gl:Gl h)(ra:aS SSr h A n la)(rb:aS SSr h B n2 lb)(hn:n<=1000000)(hn2:n2<=1000000)(hl:LL n la)(hl2:LL n2 lb)(hs:∀ i,i<n->Sz m (rv (la i)))(hs2:∀ i,i<n2->Sz m (rv (lb i)))(hm:2*m+1<=40000000)
 (hK:∀ o,C5e r c n la r2 c2 n2 lb (-1) o->∀ A' cap' h',h.le h'->aS SSr h' A' o.n o.f->K (.tuple #[Dr o.r o.c A' o.n cap',I o.e]) h'):aU prog Qw #[Dr r c A n cap,Dr r2 c2 B n2 cap2,.func (.func A8n) #[] #[]] h K:=by
 refine A5e _ _ _ _ _ _ _ _ _ _ ?_
 unfold A5f
 have E:¬ (Mx r c n la/\Mx r2 c2 n2 lb)->∀ h',h.le h'->K (.tuple #[Dr 0 0 none 0 0,I 1]) h':=fun hx h' l=>hK (noM 1) (.inl ⟨hx,rfl⟩) none 0 h' l RowV.nil
 refine T1 gl ra hn hl (fun G N mk b1 h1 own=>?_) (fun w h1 T=>⟨_,_,_,_,rfl,?_⟩)
 ·obtain ⟨g1,o1,xs,d,s1,O,hx,J⟩:=own.ex
  refine ⟨_,_,_,_,rfl,s1.call (T1 (gl.mono d) (rb.mono J5 d) hn2 hl2 ?_ ?_)⟩
  ·intro u q j b2 V p C S
   refine ⟨_,_,_,_,rfl,Br.nt (Br.nt ?_)⟩
   have t:=p.le
   have R:=B0 d (B0 t S.le)
   refine F8 (fun e=>hK (noM 4) (.inr (.inl ⟨⟨_,_,mk⟩,⟨_,_,j⟩,.inl e,rfl⟩)) none 0 C R RowV.nil) (fun er=>F8 (fun e=>hK (noM 4) (.inr (.inl ⟨⟨_,_,mk⟩,⟨_,_,j⟩,.inr e,rfl⟩)) none 0 C R RowV.nil) (fun ec=>?_))
   have M:=hK ⟨r,c,n,fun k=>K4 (rv (la k)+(-1)*rv (lb k)),0⟩ (.inr (.inr ⟨⟨_,_,mk⟩,⟨_,_,j⟩,er,ec,rfl⟩))
   have en:n2=n:=by
    have e1:u=G:=by have:=mk.er;have:=j.er;omega
    have Z:q=N:=by have:=mk.ec;have:=j.ec;omega
    rw [mk.len,j.len,e1,Z]
   have ov:=p.vis H1
   refine ⟨fun L W=>∃ (k:Nat) (g o:aH) (F:List QV),k<=n/\L=[I (k:Int)]/\V.le g/\Sep W g o/\RowX o b1 F/\F.length=n/\Row RQr g F n (fun i=>if i<k then rv (la i)+(-1)*rv (lb i) else rv (la i)),fun L _=>n-(iAt L 0).toNat,⟨0,V,o1,xs,by omega,rfl,B5 _,S,O,hx,(J.mono H1 t).congr fun i _=>by rw [iN (bL i)]⟩,?_⟩
   rintro z W ⟨k,g,o,F,hk,eL,Q,s,O,hy,J⟩
   obtain rfl:=sI1 eL
   refine B8 (fun ac=>?_) (fun ad=>?_)
   ·have H:k<n:=by omega
    obtain ⟨c0,c1,aa,c3⟩:=O.qcells (i:=k) (by omega)
    obtain ⟨a2,w2,Z,i2,d0,d1,d2,d3⟩:=(ov.mono H1 Q).qat (i:=k) (by omega)
    have iq:=J.get (i:=k) H (by omega)
    rw [iN (bV k)] at iq
    refine ⟨_,rfl,by omega,by omega,_,_,_,_,_,_,_,_,s.cell c0,s.cell c1,s.cell aa,s.cell c3,a2,Z,by omega,by omega,_,_,_,_,_,_,_,_,B9 s.le d0,B9 s.le d1,B9 s.le d2,B9 s.le d3,?_⟩
    refine s.call (B00 (a:=F[k]) (b:=w2) (gl.mono (B0 d (B0 t Q))).tz iq i2 (hs k H) (hs2 k (by omega)) (by omega) ?_)
    intro w6 g6 l6 i6 h6 s6
    refine ⟨_,_,_,_,_,_,_,_,rfl,_,rfl,by omega,by omega,?_⟩
    refine Aj Nq (y:=w6) rfl s6 O (i:=k) (by omega) ?_
    intro h7 o7 x7 eo s7 ab
    rw [wiS k (by omega)]
    refine ⟨⟨k+1,g6,o7,_,by omega,rfl,B0 Q l6,s7,ab,by rw [bM];exact hy,((J.mono H1 l6).upd (by omega) i6).congr fun i _=>?_⟩,by simp only [U7];omega⟩
    show (if i=k then _ else _)=_
    by_cases e:i=k
    ·subst e
     rw [iP rfl,iP (Nat.lt_succ_self i)]
     rw [bZ,Rat.neg_mul,cQ]
    ·rw [iN e]
     by_cases e3:i<k
     ·rw [iP e3,iP (by omega)]
     ·rw [iN e3,iN (by omega)]
   ·have:k=n:=by omega
    subst this
    have rq:aS RQr W (some ⟨b1,0,none⟩) k (fun i=>rv (la i)+(-1)*rv (lb i)):=⟨F,O.rowB.slF s.ole,hy,(J.mono H1 s.le).congr fun i hi=>by rw [iP hi]⟩
    have q1:Sz 1 (-1):=⟨by unfold ZB;decide +kernel,by unfold ZB;decide +kernel⟩
    refine Lp (m:=m+(1+m)+1) (gl.mono (B0 d (B0 t (B0 Q s.le)))) rq hn (fun i hi=>(hs i hi).add (q1.mul (hs2 i (by omega)))) (by omega) ?_
    intro b9 h9 D
    exact ⟨_,_,_,_,_,rfl,M _ _ h9 (B0 d (B0 t (B0 Q (B0 s.le D.le)))) (D.vis J5)⟩
  ·intro w V X C S
   exact ⟨_,_,_,_,rfl,Br.nt (Hp (E (fun x=>w x.2) C (B0 d (B0 X S.le))))⟩
 ·refine T1 (gl.mono T) (rb.mono J5 T) hn2 hl2 (fun u q j b2 C p=>⟨_,_,_,_,rfl,Hp (E (fun x=>w x.1) C (B0 T p.le))⟩) (fun _ C X=>⟨_,_,_,_,rfl,Hp (E (fun x=>w x.1) C (B0 T X))⟩)
end
structure VV where
 A:Option aR
 n:Nat
 c:Nat
 s:Bool
 B:Option aR
 bn:Nat
 bc:Nat
abbrev VV.v(w:VV):cP:=.agg #[.slice w.A w.n w.c,.bool w.s,.slice w.B w.bn w.bc]
instance:Enc VV:=⟨⟨fun w=>[.slice w.A w.n w.c,.bool w.s,.slice w.B w.bn w.bc],3,fun _=>rfl,fun w v hv=>by
 simp only [bW,bK,or_false] at hv
 rcases hv with rfl|rfl|rfl<;>rfl⟩⟩
def VQr(w:Nat):aH->VV->(Nat->Rat)->Prop:=fun h v f=>v.n=w/\ZI h v.s v.B v.bn v.bc (Cb f w:Int)/\aS ZIr h v.A w (fun j=>scl (f j) (Cb f w:Int))
def A3z(w:Nat):Mon (VQr w):=fun _ _ _ _ l i=>⟨i.1,i.2.1.mono l,i.2.2.mono Gn l⟩
section
variable {h:aH} {K:VP} {A B:Option aR} {n cap m w:Nat} {f f2:Nat->Rat}
def Ux(gl:Gl h)(r:aS RQr h A n f)(hn:n<=10000)(hs:∀ i,i<n->Sz m (f i))(hm:1+n*m+m<=6400000000)
 (hK:∀ v h',h.le h'->VQr n h' v f->K v.v h'):aU prog Dx #[.slice A n cap] h K:=by
 refine A2n _ _ _ ?_
 unfold A05
 have hd:=Lu (f:=f) n hs
 refine ⟨?_,?_⟩
 ·refine N4 tZs (zx:=(⟨false,none,0,0⟩:IV)) rfl (by omega) (by omega) (by omega) (by omega) ?_
  intro b hb
  simp only [aE]
  have H:=(Sep.refl h).new hb (.cells ((aI n (⟨false,none,0,0⟩:IV)).flatMap enc).toArray Fz)
  refine ⟨_,_,_,rfl,H.le,H.call (En gl r (by omega) hs hm ?_)⟩
  intro sd Bd O N B t id h1 C
  refine ⟨_,_,_,_,rfl,H.le_le C t,?_⟩
  refine ⟨fun L p=>∃ (k:Nat) (g o:aH) (d:List IV),k<=n/\L=[I (k:Int)]/\B.le g/\Sep p g o/\RowX o b d/\d.length=n/\Row ZIr g d k (fun j=>scl (f j) (Cb f n:Int)),fun L _=>n-(iAt L 0).toNat,⟨0,B,_,aI n ⟨false,none,0,0⟩,by omega,rfl,B5 _,C,RowX.mk,aK,Row.nil⟩,?_⟩
  rintro z p ⟨k,g,o,d,hk,S,l,s,E,F,D⟩
  obtain rfl:=sI1 S
  refine B8 (fun Q=>?_) (fun V=>?_)
  ·have c:k<n:=by omega
   obtain ⟨a,w,R,T,c0,c1,c2,c3⟩:=(r.mono H1 (B0 t l)).qat c
   refine ⟨a,R,by omega,by omega,_,_,_,_,_,_,_,_,B9 s.le c0,B9 s.le c1,B9 s.le c2,B9 s.le c3,?_⟩
   refine s.call (Lm (m:=1+n*m+m) T (id.mono l) ((hs k c).mono (by omega)) (hd.mono (by omega)) hm ?_)
   intro G A2 W c2 J q X h2 e
   refine ⟨_,_,_,_,rfl,s.le_le e q,_,rfl,by omega,by omega,?_⟩
   refine Aj Ug (y:=(⟨G,A2,W,c2⟩:IV)) rfl e E (i:=k) (by omega) ?_
   intro h7 M x7 eo Z u
   rw [wiS k (by omega)]
   exact ⟨⟨k+1,J,M,_,by omega,rfl,B0 l q,Z,u,by rw [bM];exact F,(D.mono Gn q).set (by omega) X⟩,by simp only [U7];omega⟩
  ·have:k=n:=by omega
   subst this
   exact hK ⟨some ⟨b,0,none⟩,k,k,sd,Bd,O,N⟩ p (B0 t (B0 l s.le)) ⟨rfl,id.mono (B0 l s.le),d,E.rowB.slF s.ole,F,D.mono Gn s.le⟩
 ·refine En gl r (by omega) hs hm ?_
  intro sd Bd O N B t id
  refine ⟨_,_,_,_,rfl,t,N4 tZs (zx:=(⟨false,none,0,0⟩:IV)) rfl (by omega) (by omega) (by omega) (by omega) ?_⟩
  intro b hb
  simp only [aE]
  have C:=(Sep.refl B).new hb (.cells ((aI n (⟨false,none,0,0⟩:IV)).flatMap enc).toArray Fz)
  refine ⟨_,_,_,rfl,C.le,?_⟩
  refine ⟨fun L p=>∃ (k:Nat) (g o:aH) (d:List IV),k<=n/\L=[I (k:Int)]/\B.le g/\Sep p g o/\RowX o b d/\d.length=n/\Row ZIr g d k (fun j=>scl (f j) (Cb f n:Int)),fun L _=>n-(iAt L 0).toNat,⟨0,B,_,aI n ⟨false,none,0,0⟩,by omega,rfl,B5 _,C,RowX.mk,aK,Row.nil⟩,?_⟩
  rintro z p ⟨k,g,o,d,hk,S,l,s,E,F,D⟩
  obtain rfl:=sI1 S
  refine B8 (fun Q=>?_) (fun V=>?_)
  ·have c:k<n:=by omega
   obtain ⟨a,w,R,T,c0,c1,c2,c3⟩:=(r.mono H1 (B0 t l)).qat c
   refine ⟨a,R,by omega,by omega,_,_,_,_,_,_,_,_,B9 s.le c0,B9 s.le c1,B9 s.le c2,B9 s.le c3,?_⟩
   refine s.call (Lm (m:=1+n*m+m) T (id.mono l) ((hs k c).mono (by omega)) (hd.mono (by omega)) hm ?_)
   intro G A2 W c2 J q X h2 e
   refine ⟨_,_,_,_,rfl,s.le_le e q,_,rfl,by omega,by omega,?_⟩
   refine Aj Ug (y:=(⟨G,A2,W,c2⟩:IV)) rfl e E (i:=k) (by omega) ?_
   intro h7 M x7 eo Z u
   rw [wiS k (by omega)]
   exact ⟨⟨k+1,J,M,_,by omega,rfl,B0 l q,Z,u,by rw [bM];exact F,(D.mono Gn q).set (by omega) X⟩,by simp only [U7];omega⟩
  ·have:k=n:=by omega
   subst this
   exact hK ⟨some ⟨b,0,none⟩,k,k,sd,Bd,O,N⟩ p (B0 t (B0 l s.le)) ⟨rfl,id.mono (B0 l s.le),d,E.rowB.slF s.ole,F,D.mono Gn s.le⟩
def smZ(x y:Nat->Int):Nat->Int
 | 0=>0
 | k+1=>smZ x y k+x k*y k
def smA(x y:Nat->Int):Nat->Int
 | 0=>0
 | k+1=>smA x y k+(x k*y k).natAbs
def B9k{x y:Nat->Int}{m w:Nat}(hx:∀ j,j<w->ZB m (x j))(hy:∀ j,j<w->ZB m (y j)):∀ k,k<=w->smA x y k<=k*2^(2*m):=by
 intro k
 induction k with
 | zero=>intro _;simp [smA]
 | succ k ih=>
  intro b
  have d:=ih (by omega)
  have c:=A6h (hx k (by omega)) (hy k (by omega))
  have a:((k+1:Nat):Int)*2^(2*m)=(k:Int)*2^(2*m)+2^(2*m):=by rw [Int.natCast_add,Int.add_mul];simp
  show smA x y k+((x k*y k).natAbs:Int)<=_
  rw [a]
  omega
def C1j(x y:Nat->Int):∀ k,((smZ x y k).natAbs:Int)<=smA x y k:=by
 intro k
 induction k with
 | zero=>exact Int.le_refl _
 | succ k ih=>
  show ((smZ x y k+x k*y k).natAbs:Int)<=smA x y k+((x k*y k).natAbs:Int)
  omega
def C3q{x y:Nat->Int}{m w:Nat}(hx:∀ j,j<w->ZB m (x j))(hy:∀ j,j<w->ZB m (y j))(hw:w<=10000):ZB (2*m+14) (smZ x y w):=by
 have a:=B9k hx hy w (aC _)
 have d:=C1j x y w
 have e:(2:Int)^(2*m)=((2^(2*m):Nat):Int):=by simp
 rw [e,<- aN] at a
 have c:w*2^(2*m)<=10000*2^(2*m):=aF _ hw
 have b:2^(2*m+14)=2^(2*m)*16384:=by rw [Nat.pow_add]
 have f:0<2^(2*m):=Nat.pow_pos (by decide)
 unfold ZB
 rw [b]
 omega
def C3r{p q:Nat->Rat}{x y:Nat->Int}{d e:Int}{w:Nat}(hx:∀ j,j<w->(x j:Rat)=p j*d)(hy:∀ j,j<w->(y j:Rat)=q j*e):∀ k,k<=w->(smZ x y k:Rat)=sm k (fun j=>p j*q j)*((d*e:Int):Rat):=by
 intro k
 induction k with
 | zero=>intro _;show ((0:Int):Rat)=0*_;rw [aW];rfl
 | succ k ih=>
  intro a
  show ((smZ x y k+x k*y k:Int):Rat)=(sm k (fun j=>p j*q j)+p k*q k)*((d*e:Int):Rat)
  rw [cT,ih (by omega),bF d e,bF (x k) (y k),hx k (by omega),hy k (by omega)]
  grind
def Yn{v u:VV}(gl:Gl h)(iv:VQr w h v f)(iu:VQr w h u f2)(hw:w<=10000)(hs:∀ i,i<w->Sz m (f i))(hs2:∀ i,i<w->Sz m (f2 i))(hm1:1<=m)(hm:2*(1+w*m+m)+14<=100000000)
 (hK:∀ q h',h.le h'->RQ h' q (sm w (fun j=>f j*f2 j))->K q.v h'):aU prog Tm #[v.v,u.v] h K:=by
 refine B5x _ _ _ _ _ _ _ _ _ _ _ _ _ _ ?_
 unfold C0r
 obtain ⟨aa,B,D⟩:=iv
 obtain ⟨ae,t,s⟩:=iu
 have l:=Lu (f:=f) w hs
 have e:=Lu (f:=f2) w hs2
 have C:∀ j,j<w->ZB (1+w*m+m) (scl (f j) (Cb f w:Int)):=fun j d=>(B2e (hs j d) l).mono (by omega)
 have E:∀ j,j<w->ZB (1+w*m+m) (scl (f2 j) (Cb f2 w:Int)):=fun j d=>(B2e (hs2 j d) e).mono (by omega)
 refine Hl A83 ?_
 intro bs y
 have Z0:SumS (h.put bs (.cells #[.slice none 0 0,.slice none 0 0] Lj)) h bs Lj 200000001 0 0:=SumS.zero y
 refine ⟨_,rfl,fun L J=>∃ (k:Nat) (g:aH),k<=w/\L=[I (k:Int)]/\h.le g/\SumS J g bs Lj 200000001 (smA (fun j=>scl (f j) (Cb f w:Int)) (fun j=>scl (f2 j) (Cb f2 w:Int)) k) (smZ (fun j=>scl (f j) (Cb f w:Int)) (fun j=>scl (f2 j) (Cb f2 w:Int)) k),fun L _=>w-(iAt L 0).toNat,⟨0,h,by omega,rfl,B5 _,Z0⟩,?_⟩
 rintro z J ⟨k,g,hk,eL,p,Z⟩
 obtain rfl:=sI1 eL
 refine B8 (fun W=>?_) (fun ac=>?_)
 ·have b:k<w:=by omega
  obtain ⟨a,S,ea,M,c0,c1⟩:=(D.mono Gn p).zat b
  obtain ⟨T,y1,F,Q,d0,d1⟩:=(s.mono Gn p).zat b
  refine ⟨a,ea,by omega,by omega,_,_,_,_,B9 Z.le c0,B9 Z.le c1,T,F,by omega,by omega,_,_,_,_,B9 Z.le d0,B9 Z.le d1,?_⟩
  have lx:S.n<=100000000:=ZI.len M (C k b) (by omega)
  have ly:y1.n<=100000000:=ZI.len Q (E k b) (by omega)
  have hA:=B9k C E (k+1) b
  have H:=B2p (m:=1+w*m+m) (k:=k+1) (by omega) (by omega)
  refine Bp Z M Q (by omega) (by omega) (N1:=1+w*m+m) (by show smA _ _ (k+1)<_;omega) (by omega) ?_
  intro h3 V l3 Z3
  rw [wiS k (by omega)]
  exact ⟨rfl,⟨k+1,V,by omega,rfl,B0 p l3,Z3⟩,by simp only [U7];omega⟩
 ·have:k=w:=by omega
  subst this
  refine Nr Z (by omega) ?_
  intro sv Av nv cv h5 N X
  have c:=B0 p (B0 Z.le N)
  refine ⟨_,_,_,_,rfl,N,?_⟩
  refine N2 (m:=1+k*m+m) (B.mono c) (t.mono c) (l.mono (by omega)) (e.mono (by omega)) (by omega) ?_
  intro s6 A6 n6 c6 h6 A z6
  refine ⟨_,_,_,_,rfl,A,?_⟩
  have o:=B0 c A
  have R:∀ j,j<k->(scl (f j) (Cb f k:Int):Rat)=f j*((Cb f k:Int):Rat):=fun j d=>B2f (Int.natCast_dvd_natCast.2 (A16 f k j d))
  have e2:∀ j,j<k->(scl (f2 j) (Cb f2 k:Int):Rat)=f2 j*((Cb f2 k:Int):Rat):=fun j d=>B2f (Int.natCast_dvd_natCast.2 (A16 f2 k j d))
  have es:=C3r R e2 k (aC _)
  have ad:=A15 f k
  have ab:=A15 f2 k
  have r:((Cb f k:Int)*(Cb f2 k:Int))≠0:=Int.mul_ne_zero (by omega) (by omega)
  have zb:ZB (2*(1+k*m+m)+14) (smZ (fun j=>scl (f j) (Cb f k:Int)) (fun j=>scl (f2 j) (Cb f2 k:Int)) k):=C3q C E (by omega)
  refine T4 (m:=2*(1+k*m+m)+14) (gl.mono o).tz (X.mono A) z6 zb ((l.mul e).mono (by omega)) (by omega) ?_
  intro q h7 G O
  refine ⟨_,_,_,_,_,_,_,_,rfl,G,hK q h7 (B0 o G) ?_⟩
  have:cM (smZ (fun j=>scl (f j) (Cb f k:Int)) (fun j=>scl (f2 j) (Cb f2 k:Int)) k) ((Cb f k:Int)*(Cb f2 k:Int))=sm k (fun j=>f j*f2 j):=by
   rw [cN,es]
   exact Rat.mul_div_cancel (J7 r)
  rw [this] at O
  exact O
end
def B7b:prog.cellsOf Nk=1/\(prog.info? Nk).isSome=true:=by constructor<;>kernel_rfl
section
variable {h:aH} {K:VP} {A:Option aR} {cap m rows cols:Nat} {E:Nat->Rat}
def Id(gl:Gl h)(r:aS RQr h A (rows*cols) E)(hcap:rows*cols<=cap)(hr2:rows<=10000)(hc:1<=cols)(hc2:cols<=10000)(hs:∀ i,i<rows*cols->Sz m (E i))(hm:1+cols*m+m<=6400000000)
 (hK:∀ A' c' h',h.le h'->aS (VQr cols) h' A' rows (A3m E cols)->K (.slice A' rows c') h'):aU prog Fi #[.slice A (rows*cols) cap,I (cols:Int)] h K:=by
 refine A7m _ _ _ _ ?_
 unfold A9g
 have ab:rows*cols<=100000000:=by
  have:rows*cols<=10000*10000:=aL hr2 hc2
  omega
 refine Hl (z:=.slice none 0 0) (by kernel_rfl) ?_
 intro s D
 refine ⟨_,rfl,?_⟩
 have W:=(Sep.refl h).new D (.cells #[.slice none 0 0] Nk)
 refine W.call (Zm hc ?_)
 intro v Q V ic ac s3
 have bound:∀ k,k<rows->∀ j,j<cols->Sz m (E (k*cols+j)):=fun k X j hj=>hs _ (L8 X hj)
 refine ⟨_,rfl,Un ic hc (by omega) hcap (fun k R=>∃ (p q:aH) (n:List VV) (A1:Option aR) (c1:Nat),Q.le p/\Sep R p q/\(∃ e,q s=some (.cells #[.slice A1 k c1] e))/\bD q Ym A1 c1 n/\A1≠some ⟨s,0,none⟩/\n.length=k/\Row (VQr cols) p n k (A3m E cols)) ?_ ?_ ?_ ?_⟩
 ·exact ⟨Q,_,[],none,0,B5 _,s3,⟨_,C2 _ _ _⟩,OwnSl.nil,by simp,rfl,Row.nil⟩
 ·rintro k R ⟨p,q,n,A1,c1,lg,s1,_⟩
  exact B0 lg s1.le
 ·rintro k a C ⟨p,q,n,A1,c1,f,g,⟨e,d⟩,L,S,o,G⟩
  have bk:=bound k C
  have aa:(k+1)*cols<=rows*cols:=aF _ C
  have ad:(k+1)*cols=k*cols+cols:=by rw [aY,bH]
  have u:=B0 V f
  have B:aS RQr h A ((k+1)*cols) E:=by
   have:=r.cut (c:=cap) (l:=0) (k:=(k+1)*cols) (by omega) hcap
   rw [J0] at this
   exact this.congr fun i _=>by rw [aT]
  have t:aS RQr h (I5 A ((k+1)*cols) (k*cols) 4) cols (A3m E cols k):=B.cut (c:=(k+1)*cols) (l:=k*cols) (k:=cols) (by omega) (aC _)
  have cp:a.cell? ⟨s,0,none⟩=some (.slice A1 k c1):=g.cell (by unfold Heap.cell?;simp only [d];rfl)
  refine ⟨_,_,_,rfl,_,_,_,cp,g.call (Ux (gl.mono u) (t.mono H1 u) (by omega) bk hm ?_)⟩
  intro w g2 H iw M T
  refine ⟨_,_,_,_,_,_,_,rfl,g.le_le T H,?_⟩
  subst o
  refine OwnSl.push (ty:=Nk) C60 T L (y:=w) (v:=w.v) rfl (by decide) (by omega) (by omega) (K1:=fun hq=>M.le hq) (fun _ l=>l) ?_
  intro A3 c3 h6 g6 o6 N s6 J kp
  have F:=kp s _ d S
  show wpH _ (aZ _ (.pointer (some (aG ⟨s,0,none⟩ 0))) _) _ _
  refine A2g B7b rfl rfl s6 F.1 (by simp) ?_
  intro h7 Z s7 O
  exact ⟨g6,Z,n++[w],A3,c3,B0 f (B0 H N),s7,⟨e,by rw [O,C2];simp⟩,J.keep fun b y hb he=>by rw [O,C0 _ _ (fun e=>F.2 (by rw [<- e];exact hb))];exact he,F.2,by simp,by
   have:=(Row.push (G.mono (A3z cols) (B0 H N)) (A3z cols _ _ _ _ N iw))
   simpa using this⟩
 ·rintro a ⟨p,q,n,A1,c1,f,g,⟨e,d⟩,L,S,o,G⟩
  have cp:a.cell? ⟨s,0,none⟩=some (.slice A1 rows c1):=g.cell (by unfold Heap.cell?;simp only [d];rfl)
  exact ⟨_,_,_,cp,hK A1 c1 a (B0 V (B0 f g.le)) ⟨n,L.slF g.ole,o,G.mono (A3z cols) g.le⟩⟩
end
section
variable {h:aH} {K:VP} {A B:Option aR} {n n2 cap cap2 m:Nat} {r c r2 c2:Int} {la lb:Nat->List UInt8} {w:QV} {q:Rat}
end
section
variable {h:aH} {K:VP} {A B:Option aR} {n w cap cap2 m:Nat} {f f2:Nat->Rat} {R:Nat->Nat->Rat}
def Xm(hs:∀ i,i<w->Sz m (f i))(hs2:∀ i,i<w->Sz m (f2 i)):∀ k,k<=w->Sz (1+k*(2*m+1)) (sm k (fun j=>f j*f2 j)):=by
 intro k
 induction k with
 | zero=>intro _;exact Sz.zero (by omega)
 | succ k ih=>
  intro c
  have b:=ih (by omega)
  have a:=(hs k (by omega)).mul (hs2 k (by omega))
  have e:1+(k+1)*(2*m+1)=1+k*(2*m+1)+(m+m)+1:=by rw [aY];omega
  rw [e]
  exact b.add a
def A4e(ra:aS NQr h A w f)(rb:aS NQr h B w f2)(hw:w<=10000)(hs:∀ i,i<w->Sz m (f i))(hs2:∀ i,i<w->Sz m (f2 i))(hm:1+w*(2*m+1)+2*m<=400000000)
 (hK:∀ v h',h.le h'->NQ h' v (sm w (fun j=>f j*f2 j))->K v.v h'):aU prog A8t #[.slice A w cap,.slice B w cap2] h K:=by
 refine C36 _ _ _ _ _ _ ?_
 unfold C7w
 refine ⟨fun L t=>∃ (k:Nat) (v:QV),k<=w/\L=I (k:Int)::qc v/\h.le t/\NQ t v (sm k (fun j=>f j*f2 j)),fun L _=>w-(iAt L 0).toNat,⟨0,Z5,by omega,rfl,B5 _,NQ.zero⟩,?_⟩
 rintro z D q o r y g e p t ⟨k,v,E,u,l,G⟩
 simp only [bX,cR,true_and] at u
 obtain ⟨rfl,u⟩:=u
 obtain ⟨rfl,_⟩:=C1q (by simpa only [bX,cO,Value.slice.injEq,and_true] using u:(.bool D:cP) :: .slice q o r :: .bool y :: .slice g e p::[]= .bool v.s :: .slice v.A v.n v.c :: .bool v.s2 :: .slice v.A2 v.n2 v.c2::[])
 refine B8 (fun T=>?_) (fun ab=>?_)
 ·have d:k<w:=by omega
  obtain ⟨a5,V,Z,H,c0,c1,c2,c3⟩:=(ra.mono R6 l).qat d
  obtain ⟨N,J,e6,O,W,Q,M,S⟩:=(rb.mono R6 l).qat d
  have aa:k*(2*m+1)<=w*(2*m+1):=aF _ E
  refine ⟨a5,Z,by omega,by omega,_,_,_,_,_,_,_,_,c0,c1,c2,c3,N,e6,by omega,by omega,_,_,_,_,_,_,_,_,W,Q,M,S,?_⟩
  refine Fa (a:=V) (b:=J) H O (hs k d) (hs2 k d) (by omega) ?_
  intro X h7 C i7
  refine ⟨_,_,_,_,_,_,_,_,rfl,C,?_⟩
  refine Iq (a:=⟨D,q,o,r,y,g,e,p⟩) (b:=X) (m:=1+k*(2*m+1)+2*m) (NQ.mono C G) i7 ((Xm hs hs2 k E).mono (by omega)) (((hs k d).mul (hs2 k d)).mono (by omega)) (by omega) ?_
  intro R h8 F i8
  rw [wiS k (by omega)]
  refine ⟨_,_,_,_,_,_,_,_,rfl,F,⟨k+1,R,by omega,rfl,B0 l (B0 C F),i8⟩,?_⟩
  show w-((k+1:Nat):Int).toNat<w-(k:Int).toNat
  omega
 ·have:k=w:=by omega
  subst this
  exact hK ⟨D,q,o,r,y,g,e,p⟩ t l G
def B3v(rs:cD h A n w R)(rx:aS NQr h B w f)(hn:n<=10000)(hw:w<=10000)(hs:∀ i j,i<n->j<w->Sz m (R i j))(hs2:∀ i,i<w->Sz m (f i))(hm:1+w*(2*m+1)+2*m<=400000000)
 (hK:∀ b h',Own NQr h h' b n (fun i=>sm w (fun j=>R i j*f j))->K (.slice (some ⟨b,0,none⟩) n n) h'):aU prog B3z #[.slice A n cap,.slice B w cap2] h K:=by
 refine C37 _ _ _ _ _ _ ?_
 unfold C7x
 refine N4 Sk (zx:=Z5) rfl (by omega) (by omega) (by omega) (by omega) ?_
 intro b S
 simp only [aE]
 refine ⟨_,_,_,rfl,fun L l=>∃ k:Nat,k<=n/\L=[I (k:Int)]/\OwnK NQr h l b n k (fun i=>sm w (fun j=>R i j*f j)),fun L _=>n-(iAt L 0).toNat,⟨0,by omega,rfl,OwnK.zero S⟩,?_⟩
 rintro z l ⟨k,T,F,g,o,C,d,s,r,t,q⟩
 obtain rfl:=sI1 F
 refine B8 (fun D=>?_) (fun J=>?_)
 ·have a:k<n:=by omega
  obtain ⟨M,X,e,H,Q,p,c⟩:=rs.at a
  refine ⟨M,e,by omega,by omega,_,_,_,B9 (B0 d s.le) p,?_⟩
  rw [H]
  refine s.call (A4e (c.mono R6 d) (rx.mono R6 d) hw (fun j N=>hs k j a N) hs2 hm ?_)
  intro v V E O Z u
  refine ⟨_,_,_,_,_,_,_,_,rfl,_,rfl,by omega,by omega,?_⟩
  refine OwnK.store R6 Uh (y:=v) d E u r t q a rfl O ?_
  intro W G
  rw [wiS k (by omega)]
  exact ⟨⟨k+1,by omega,rfl,G⟩,by simp only [U7];omega⟩
 ·have:k=n:=by omega
  subst this
  exact hK b l ⟨g,o,C,d,s,r,t,q⟩
end
structure VOut where
 n:Nat
 f:Nat->List UInt8
 e:Int
def noV(e:Int):VOut:=⟨0,fun _=>[],e⟩
def C5h(r c:Int)(n:Nat)(la:Nat->List UInt8)(n2:Nat)(lx:Nat->List UInt8)(o:VOut):Prop:=
 (¬ (Mx r c n la/\∀ i,i<n2->IsNum (lx i))/\o=noV 1)\/(Mx r c n la/\(∀ i,i<n2->IsNum (lx i))/\(n2:Int)≠c/\o=noV 4)\/(∃ rows cols,MOk r c n la rows cols/\(∀ i,i<n2->IsNum (lx i))/\(n2:Int)=c/\o=⟨rows,fun i=>K4 (sm cols (fun j=>mtx (rvs la) cols i j*rv (lx j))),0⟩)
section
variable {h:aH} {K:VP} {A B:Option aR} {n n2 cap cap2 m:Nat} {r c:Int} {la lx:Nat->List UInt8}
end
section
variable {h:aH} {K:VP} {A B:Option aR} {n n2 cap cap2 m:Nat} {r c:Int} {la lx:Nat->List UInt8}
def RowV.vat{w n:Nat}{f:Nat->Nat->Rat}(r:aS (VQr w) h A n f){i:Nat}(hi:i<n):∃ a v,A=some a/\VQr w h v (f i)/\h.cell? (aG (aG a (i*3)) 0)=some (.slice v.A v.n v.c)/\h.cell? (aG (aG a (i*3)) 1)=some (.bool v.s)/\h.cell? (aG (aG a (i*3)) 2)=some (.slice v.B v.bn v.bc):=by
 obtain ⟨a,v,e,q,b⟩:=RowV.at (by decide) r hi
 exact ⟨a,v,e,q,b 0 _ rfl,b 1 _ rfl,b 2 _ rfl⟩
def OwnS.none{h h':aH}{f:Nat->List UInt8}(l:h.le h'):OwnS h h' none 0 0 f:=⟨h',V7,[],l,Sep.refl h',OwnSl.nil,rfl,Row.nil⟩
def A41(gl:Gl h)(ra:aS SSr h A n la)(rx:aS SSr h B n2 lx)(hn:n<=1000000)(hn2:n2<=1000000)(hl:LL n la)(hl2:LL n2 lx)(hs:∀ i,i<n->Sz m (rv (la i)))(hs2:∀ i,i<n2->Sz m (rv (lx i)))(hm1:1<=m)(hm:∀ rows cols,MOk r c n la rows cols->2*(1+cols*(2*m+1)+2*m)+14<=40000000)
 (hK:∀ o,C5h r c n la n2 lx o->∀ A' cap' h',OwnS h h' A' cap' o.n o.f->K (.tuple #[.slice A' o.n cap',I o.e]) h'):aU prog To #[Dr r c A n cap,.slice B n2 cap2] h K:=by
 refine B60 _ _ _ _ _ _ _ _ ?_
 unfold C0t
 have M:¬ (Mx r c n la/\∀ i,i<n2->IsNum (lx i))->∀ h',h.le h'->K (.tuple #[.slice none 0 0,I 1]) h':=fun hx h' l=>hK (noV 1) (.inl ⟨hx,rfl⟩) none 0 h' (OwnS.none l)
 refine T1 gl ra hn hl (fun rows cols mk b1 h1 own=>?_) (fun E h1 D=>⟨_,_,_,_,rfl,?_⟩)
 ·have D:=own.le
  refine ⟨_,_,_,_,rfl,V6 (gl.mono D) (rx.mono J5 D) hn2 hl2 (fun t b2 G p=>⟨_,_,_,_,rfl,Br.nt (Br.nt ?_)⟩) (fun E G N=>⟨_,_,_,_,rfl,Br.nt (Hp (M (fun x=>E x.2) G (B0 D N)))⟩)⟩
  have N:=p.le
  have F:=B0 D N
  refine F8 (fun e=>hK (noV 4) (.inr (.inl ⟨⟨_,_,mk⟩,t,e,rfl⟩)) none 0 G (OwnS.none F)) (fun e=>?_)
  have Q:=hK _ (.inr (.inr ⟨rows,cols,mk,t,e,rfl⟩))
  have:=mk.r1;have:=mk.r2;have:=mk.c1;have:=mk.c2
  obtain rfl:n2=cols:=by have:=mk.ec;omega
  obtain ⟨rfl,rfl,_,_,_,_,rfl,_⟩:=id mk
  have ms:=A8d hs
  have ac:=hm _ _ mk
  have aa:n2*m<=n2*(2*m+1):=Nat.mul_le_mul_left n2 (by omega)
  refine Ux (m:=m) (gl.mono F) (p.vis H1) (by omega) hs2 (by omega) ?_
  intro w h3 Z iw
  refine ⟨_,_,_,_,_,_,_,rfl,?_⟩
  refine N4 Ao (zx:=([]:List UInt8)) rfl (by omega) (by omega) (by omega) (by omega) ?_
  intro b hb
  simp only [aE]
  refine ⟨_,_,_,rfl,Sep.call ((Sep.refl h3).new hb _) (Id (m:=m) (gl.mono (B0 F Z)) ((own.vis H1).mono H1 (B0 N Z)) (aC _) (by omega) (by omega) (by omega) hs (by omega) ?_)⟩
  intro A4 c4 g4 l4 X h4 s4
  have H:=B0 F (B0 Z l4)
  refine ⟨_,_,_,rfl,fun L T=>∃ (k:Nat) (g o:aH) (xs:List (List UInt8)) (A':Option aR) (V:Nat),k<=rows/\L=[.slice A' k V,I (k:Int)]/\g4.le g/\Sep T g o/\bD o Q1 A' V xs/\xs.length=k/\Row SSr g xs k (fun i=>K4 (sm n2 (fun j=>mtx (rvs la) n2 i j*rv (lx j)))),fun L _=>rows-(iAt L 1).toNat,
   ⟨0,g4,_,[],_,_,by omega,rfl,B5 _,s4,Ks,rfl,Row.nil⟩,?_⟩
  rintro rA C rc z T ⟨k,g,o,xs,A',V,hk,eL,O,s,ow,d,rr⟩
  obtain ⟨⟨rfl,rfl,rfl⟩,rfl⟩:=sI2 eL
  refine B8 (fun ab=>?_) (fun ad=>?_)
  ·have J:C<rows:=by omega
   obtain ⟨a,v,ea,iv,c0,c1,W⟩:=(X.mono (A3z n2) O).vat J
   refine ⟨a,ea,by omega,by omega,_,_,_,_,_,_,_,B9 s.le c0,B9 s.le c1,B9 s.le W,?_⟩
   refine s.call (Yn (m:=m) (v:=v) (u:=w) (gl.mono (B0 H O)) iv (A3z n2 _ _ _ _ (B0 l4 O) iw) (by omega) (fun j hj=>ms C j J hj) hs2 hm1 (by omega) ?_)
   intro q g5 l5 iq h5 s5
   refine ⟨_,_,_,_,_,_,_,_,rfl,s5.call (Io (gl.mono (B0 H (B0 O l5))).p10 iq (Xm (fun j hj=>ms C j J hj) hs2 n2 (aC _)) (by omega) ?_)⟩
   intro h6 s6
   refine ⟨_,rfl,?_⟩
   refine O3 (ty:=Gb) Ao s6 ow d.symm (y:=K4 (sm n2 (fun j=>mtx (rvs la) n2 C j*rv (lx j)))) rfl (by decide) (by omega) (by omega) ?_
   intro A7 c7 h7 g7 o7 l7 s7 S _
   rw [d,wiS C (by omega)]
   refine ⟨⟨C+1,g7,o7,_,A7,c7,by omega,rfl,B0 O (B0 l5 l7),s7,S,by rw [aD,d];rfl,?_⟩,?_⟩
   ·have rB:=Row.push (R:=SSr) (g:=g7) (xs:=xs) (f:=fun i=>K4 (sm n2 (fun j=>mtx (rvs la) n2 i j*rv (lx j)))) (by rw [d];exact rr.mono J5 (B0 l5 l7)) (w:=K4 (sm n2 (fun j=>mtx (rvs la) n2 C j*rv (lx j)))) (by rw [d])
    rw [aD,d] at rB
    exact rB
   ·show rows-((C+1:Nat):Int).toNat<rows-(C:Int).toNat
    omega
  ·have:C=rows:=by omega
   subst this
   exact Q rA rc T ⟨g,o,xs,B0 H O,s,ow,d,rr⟩
 ·refine V6 (gl.mono D) (rx.mono J5 D) hn2 hl2 (fun t b2 G p=>⟨_,_,_,_,rfl,Hp (M (fun x=>E x.1) G (B0 D p.le))⟩) (fun _ G N=>⟨_,_,_,_,rfl,Hp (M (fun x=>E x.1) G (B0 D N))⟩)
def A6n(gl:Gl h)(ra:aS SSr h A n la)(rx:aS SSr h B n2 lx)(hn:n<=1000000)(hn2:n2<=1000000)(hl:LL n la)(hl2:LL n2 lx)(hs:∀ i,i<n->Sz m (rv (la i)))(hs2:∀ i,i<n2->Sz m (rv (lx i)))(hm1:1<=m)(hm:2*(1+64*(2*m+1)+2*m)+14<=40000000)
 (hK:∀ o,C5h r c n la n2 lx o->∀ A' cap' h',h.le h'->aS SSr h' A' o.n o.f->K (.tuple #[.slice A' o.n cap',I o.e]) h'):aU prog To #[Dr r c A n cap,.slice B n2 cap2] h K:=A41 gl ra rx hn hn2 hl hl2 hs hs2 hm1 (fun b a mk=>by have:=aF (2*m+1) mk.c2;omega) fun o d A' cap' h' w=>hK o d A' cap' h' w.le w.vis
end
def MulO(r c:Int)(n:Nat)(la:Nat->List UInt8)(r2 c2:Int)(n2:Nat)(lb:Nat->List UInt8)(o:MOut):Prop:=
 (¬ (Mx r c n la/\Mx r2 c2 n2 lb)/\o=noM 1)\/(Mx r c n la/\Mx r2 c2 n2 lb/\c≠r2/\o=noM 4)\/(∃ rows mid cols,MOk r c n la rows mid/\MOk r2 c2 n2 lb mid cols/\o=⟨r,c2,rows*cols,fun k=>K4 (sm mid (fun j=>mtx (rvs la) mid (k/cols) j*mtx (rvs lb) cols j (k%cols))),0⟩)
def B0e{f f':Nat->Rat}: ∀ n,(∀ i,i<n->f i=f' i)->Cb f n=Cb f' n:=by
 intro n
 induction n with
 | zero=>intro _;rfl
 | succ n ih=>
  intro e
  show Nat.lcm (Cb f n) (f n).den=Nat.lcm (Cb f' n) (f' n).den
  rw [ih fun i a=>e i (by omega),e n (by omega)]
def VQr.congr{h:aH}{w:Nat}{v:VV}{f f':Nat->Rat}(x:VQr w h v f)(e:∀ i,i<w->f i=f' i):VQr w h v f':=by
 have d:Cb f w=Cb f' w:=B0e w e
 obtain ⟨a,b,c⟩:=x
 rw [d] at b c
 exact ⟨a,b,c.congr fun j g=>by rw [e j g]⟩
section
variable {h:aH} {K:VP} {A B:Option aR} {n n2 cap cap2 m:Nat} {r c r2 c2:Int} {la lb:Nat->List UInt8} {E:Nat->Rat}
def A0y{rows cols:Nat}(rv':aS RQr h A (rows*cols) E)(hr:rows<=10000)(hc:cols<=10000)
 (hK:∀ A' c' h' g' o' xs,h.le g'->Sep h' g' o'->bD o' G2 A' c' xs->xs.length=rows*cols->Row RQr g' xs (rows*cols) (fun k=>E (k%rows*cols+k/rows))->K (.slice A' (rows*cols) c') h'):aU prog Cn #[.slice A (rows*cols) cap,I (rows:Int),I (cols:Int)] h K:=by
 refine Yh _ _ _ _ _ ?_
 unfold Xf
 have aa:rows*cols<=10000*10000:=aL hr hc
 refine N4 A9v (zx:=Z5) rfl (by omega) (by omega) (by omega) (by omega) ?_
 intro b hb
 simp only [aE]
 refine ⟨_,_,_,rfl,fun L q=>∃ (j:Nat) (g o:aH) (xs:List QV) (A':Option aR) (c':Nat),j<=cols/\L=[.slice A' (j*rows) c',I (j:Int)]/\h.le g/\Sep q g o/\bD o G2 A' c' xs/\xs.length=j*rows/\Row RQr g xs (j*rows) (fun k=>E (k%rows*cols+k/rows)),fun L _=>cols-(iAt L 1).toNat,
  ⟨0,h,V7.put b _,[],some ⟨b,0,none⟩,rows*cols,by omega,by rw [aX];rfl,B5 _,Da hb,Ks,by simp,by rw [aX];exact Row.nil⟩,?_⟩
 rintro S rn rc z q ⟨j,g,o,xs,A',c',hj,G,W,s,T,d,F⟩
 obtain ⟨⟨rfl,rfl,rfl⟩,rfl⟩:=sI2 G
 refine B8 (fun ab=>?_) (fun ad=>?_)
 ·have B:j<cols:=by omega
  have t:(j+1)*rows=j*rows+rows:=by rw [aY,bH]
  have H:(j+1)*rows<=cols*rows:=aF _ B
  rw [aQ cols rows] at H
  refine ⟨fun L q=>∃ (i:Nat) (g o:aH) (xs:List QV) (A':Option aR) (c':Nat),i<=rows/\L=[.slice A' (j*rows+i) c',I (i:Int)]/\h.le g/\Sep q g o/\bD o G2 A' c' xs/\xs.length=j*rows+i/\Row RQr g xs (j*rows+i) (fun k=>E (k%rows*cols+k/rows)),fun L _=>rows-(iAt L 1).toNat,
   ⟨0,g,o,xs,S,rc,by omega,rfl,W,s,T,d,F⟩,?_⟩
  rintro qA qn qc z ac ⟨i,X,o2,C,A2,c2,hi,G,e,p,u,c,l⟩
  obtain ⟨⟨rfl,rfl,rfl⟩,rfl⟩:=sI2 G
  refine B8 (fun Q=>?_) (fun V=>?_)
  ·have m:i<rows:=by omega
   have r:=L8 m B
   have Z:B7 (B7 ((i:Int)*(cols:Int))+(j:Int))=((i*cols+j:Nat):Int):=by
    rw [<- aN,L6 (by omega)]
    exact L6 (n:=i*cols+j) (by omega)
   rw [Z]
   obtain ⟨a,w,ea,iw,c0,c1,J,c3⟩:=(rv'.mono H1 e).qat r
   refine ⟨a,ea,by omega,by omega,_,_,_,_,_,_,_,_,B9 p.le c0,B9 p.le c1,B9 p.le J,B9 p.le c3,?_⟩
   refine O3 (ty:=U3) A9v p u c.symm (y:=w) rfl (by decide) (by rw [c];omega) (by rw [c];omega) ?_
   intro A3 c3 h3 D o3 M s3 N _
   rw [c,wiS i (by omega)]
   refine ⟨⟨i+1,D,o3,_,A3,c3,by omega,by rw [cL],B0 e M,s3,N,by rw [aD,c];rfl,?_⟩,?_⟩
   ·have O:=Row.push (R:=RQr) (g:=D) (xs:=C) (f:=fun k=>E (k%rows*cols+k/rows)) (by rw [c];exact l.mono H1 M) (w:=w) (by
     show RQ D w (E (C.length%rows*cols+C.length/rows))
     rw [c,bU (j*rows) i,aO,bB m,aV _ _ (by omega),bC m,aT]
     exact H1 _ _ _ _ M iw)
    rw [aD,c] at O
    exact O
   ·show rows-((i+1:Nat):Int).toNat<rows-(i:Int).toNat
    omega
  ·have:i=rows:=by omega
   subst this
   rw [wiS j (by omega),<- t]
   rw [<- t] at c l
   refine ⟨⟨j+1,X,o2,C,qA,qc,by omega,rfl,e,p,u,c,l⟩,?_⟩
   show cols-((j+1:Nat):Int).toNat<cols-(j:Int).toNat
   omega
 ·have:j=cols:=by omega
  subst this
  rw [aQ j rows] at d F ⊢
  exact hK S rc q g o xs W s T d F
def A3y{rows cols:Nat}(rv':aS RQr h A (rows*cols) E)(hr:rows<=10000)(hc:cols<=10000)
 (hK:∀ A' c' h',h.le h'->rows*cols<=c'->aS RQr h' A' (rows*cols) (fun k=>E (k%rows*cols+k/rows))->K (.slice A' (rows*cols) c') h'):aU prog Cn #[.slice A (rows*cols) cap,I (rows:Int),I (cols:Int)] h K:=
 A0y rv' hr hc fun A' c' h' _ _ e d s b a c=>hK A' c' h' (B0 d s.le) (by have:=b.1;omega) ⟨e,b.slF s.ole,a,c.mono H1 s.le⟩
def Zb{d:Nat}(gl:Gl h)(ra:aS SSr h A n la)(rb:aS SSr h B n2 lb)(hn:n<=1000000)(hn2:n2<=1000000)(hl:LL n la)(hl2:LL n2 lb)(hs:∀ i,i<n->Sz m (rv (la i)))(hs2:∀ i,i<n2->Sz m (rv (lb i)))(hm1:1<=m)(hd:∀ rows mid,MOk r c n la rows mid->mid<=d)(hm:2*(1+d*(2*m+1)+2*m)+14<=40000000)
 (hK:∀ o,MulO r c n la r2 c2 n2 lb o->∀ A' cap' h',h.le h'->aS SSr h' A' o.n o.f->K (.tuple #[Dr o.r o.c A' o.n cap',I o.e]) h'):aU prog A8s #[Dr r c A n cap,Dr r2 c2 B n2 cap2] h K:=by
 refine C34 _ _ _ _ _ _ _ _ _ _ ?_
 unfold C7v
 have S:¬ (Mx r c n la/\Mx r2 c2 n2 lb)->∀ h',h.le h'->K (.tuple #[Dr 0 0 none 0 0,I 1]) h':=fun hx h' l=>hK (noM 1) (.inl ⟨hx,rfl⟩) none 0 h' l RowV.nil
 refine T1 gl ra hn hl (fun rows mid mk b1 h1 own=>?_) (fun N h1 J=>⟨_,_,_,_,rfl,?_⟩)
 ·have J:=own.le
  refine ⟨_,_,_,_,rfl,T1 (gl.mono J) (rb.mono J5 J) hn2 hl2 (fun C p E b2 T F=>⟨_,_,_,_,rfl,Br.nt (Br.nt ?_)⟩) (fun N T l2=>⟨_,_,_,_,rfl,Br.nt (Hp (S (fun x=>N x.2) T (B0 J l2)))⟩)⟩
  have l2:=F.le
  have X:=B0 J l2
  refine F8 (fun e=>hK (noM 4) (.inr (.inl ⟨⟨_,_,mk⟩,⟨_,_,E⟩,e,rfl⟩)) none 0 T X RowV.nil) (fun e=>?_)
  obtain rfl:C=mid:=by have:=mk.ec;have:=E.er;omega
  have ag:=hK _ (.inr (.inr ⟨rows,C,p,mk,E,rfl⟩))
  have:=mk.r1;have:=mk.r2;have:=mk.c1;have:=mk.c2;have:=E.c1;have:=E.c2
  obtain ⟨rfl,rfl,_,_,_,_,rfl,_⟩:=id mk
  obtain ⟨rfl,rfl,_,_,_,_,rfl,_⟩:=id E
  clear e
  have ms:=A8d hs
  have af:=A8d hs2
  have aa:=hd _ _ mk
  have az:C*(2*m+1)<=d*(2*m+1):=aF _ aa
  have ay:C*m<=d*m:=aF _ aa
  have aw:d*(2*m+1)=2*(d*m)+d:=by rw [Nat.mul_add,Nat.mul_one,Nat.mul_left_comm]
  have a1:rows*p<=64*64:=aL (by omega) (by omega)
  refine Id (m:=m) (gl.mono X) ((own.vis H1).mono H1 l2) (aC _) (by omega) (by omega) (by omega) hs (by omega) ?_
  intro A3 c3 h3 l3 ap
  refine ⟨_,_,_,rfl,?_⟩
  refine A3y ((F.vis H1).mono H1 l3) (by omega) (by omega) ?_
  intro A4 c4 h4 l4 ab ac
  refine ⟨_,_,_,rfl,l4,?_⟩
  have aj:=B0 X (B0 l3 l4)
  rw [aQ C p] at ac ab ⊢
  refine Id (m:=m) (gl.mono aj) ac ab (by omega) (by omega) (by omega) (fun i Z=>?_) (by omega) ?_
  ·have am:i/C<p:=aJ (by rw [aQ];exact Z)
   exact hs2 _ (L8 (bI i (show 0<C by omega)) am)
  intro A5 c5 h5 l5 O
  have aq:aS (VQr C) h5 A5 p (fun j i=>mtx (rvs lb) p i j):=by
   obtain ⟨vs,sv,el,rr⟩:=O
   refine ⟨vs,sv,el,fun j hj=>?_⟩
   obtain ⟨w,e1,hw⟩:=rr j hj
   refine ⟨w,e1,?_⟩
   have:=VQr.congr (f':=fun i=>mtx (rvs lb) p i j) hw fun i Z=>?_
   ·exact this
   ·show rvs lb ((j*C+i)%C*p+(j*C+i)/C)=rvs lb (i*p+j)
    rw [bU (j*C) i,aO,bB Z,aV _ _ (by omega),bC Z,aT]
  clear O
  refine ⟨_,_,_,rfl,l5,?_⟩
  have ak:=B0 aj l5
  have ao:=B0 l4 l5
  have ar:B7 ((rows:Int)*(p:Int))=((rows*p:Nat):Int):=by rw [<- aN];exact L6 (by omega)
  rw [ar]
  refine N4 A9v (zx:=Z5) rfl (by omega) (by omega) (by omega) (by omega) ?_
  intro b hb
  simp only [aE]
  have sz:∀ i j,i<rows->j<p->Sz (1+d*(2*m+1)) (sm C (fun t=>mtx (rvs la) C i t*mtx (rvs lb) p t j)):=fun i j Z hj=>(Xm (f:=fun t=>mtx (rvs la) C i t) (f2:=fun t=>mtx (rvs lb) p t j) (fun t H=>ms i t Z H) (fun t H=>af t j H hj) C (aC _)).mono (by omega)
  refine ⟨_,_,_,rfl,fun L hp=>∃ (k:Nat) (g o:aH) (xs:List QV) (A':Option aR) (c':Nat),k<=rows/\L=[.slice A' (k*p) c',I (k:Int)]/\h5.le g/\Sep hp g o/\bD o G2 A' c' xs/\xs.length=k*p/\Row RQr g xs (k*p) (fun k=>sm C (fun j=>mtx (rvs la) C (k/p) j*mtx (rvs lb) p j (k%p))),fun L _=>rows-(iAt L 1).toNat,
   ⟨0,h5,V7.put b _,[],some ⟨b,0,none⟩,rows*p,by omega,by rw [aX];rfl,B5 _,Da hb,Ks,by simp,by rw [aX];exact Row.nil⟩,?_⟩
  rintro rA rn rc z hp ⟨k,g,o,xs,A',c',hk,eL,lg,s,ow,ae,rr⟩
  obtain ⟨⟨rfl,rfl,rfl⟩,rfl⟩:=sI2 eL
  refine B8 (fun a0=>?_) (fun a4=>?_)
  ·have V:k<rows:=by omega
   have ad:(k+1)*p=k*p+p:=by rw [aY,bH]
   have a2:(k+1)*p<=rows*p:=aF _ V
   obtain ⟨a,v,ea,iv,c0,c1,al⟩:=(ap.mono (A3z C) (B0 ao lg)).vat V
   refine ⟨a,ea,by omega,by omega,_,_,_,_,_,_,_,B9 s.le c0,B9 s.le c1,B9 s.le al,?_⟩
   refine ⟨fun L hp=>∃ (j:Nat) (g' o:aH) (xs:List QV) (A':Option aR) (c':Nat),j<=p/\L=[.slice A' (k*p+j) c',I (j:Int)]/\g.le g'/\Sep hp g' o/\bD o G2 A' c' xs/\xs.length=k*p+j/\Row RQr g' xs (k*p+j) (fun k=>sm C (fun j=>mtx (rvs la) C (k/p) j*mtx (rvs lb) p j (k%p))),fun L _=>p-(iAt L 1).toNat,
    ⟨0,g,o,xs,rA,rc,by omega,rfl,B5 _,s,ow,ae,rr⟩,?_⟩
   rintro qA qn qc z a3 ⟨j,g2,o2,ys,A2,c2,hj,eL,G,s2,ah,D,W⟩
   obtain ⟨⟨rfl,rfl,rfl⟩,rfl⟩:=sI2 eL
   refine B8 (fun av=>?_) (fun ax=>?_)
   ·have M:j<p:=by omega
    obtain ⟨a6,u,an,iu,d0,d1,d2⟩:=(aq.mono (A3z C) (B0 lg G)).vat M
    refine ⟨a6,an,by omega,by omega,_,_,_,_,_,_,_,B9 s2.le d0,B9 s2.le d1,B9 s2.le d2,?_⟩
    refine s2.call (Yn (m:=m) (v:=v) (u:=u) (gl.mono (B0 ak (B0 lg G))) (A3z C _ _ _ _ G iv) iu (by omega) (fun t H=>ms k t V H) (fun t H=>af t j H M) hm1 (by omega) ?_)
    intro q g7 l7 iq h7 s7
    refine ⟨_,_,_,_,_,_,_,_,rfl,?_⟩
    refine O3 (ty:=U3) A9v s7 ah D.symm (y:=q) rfl (by decide) (by rw [D];omega) (by rw [D];omega) ?_
    intro A8 c8 h8 g8 o8 l8 s8 au _
    rw [D,wiS j (by omega)]
    refine ⟨⟨j+1,g8,o8,_,A8,c8,by omega,by rw [cL],B0 G (B0 l7 l8),s8,au,by rw [aD,D];rfl,?_⟩,?_⟩
    ·have rB:=Row.push (R:=RQr) (g:=g8) (xs:=ys) (f:=fun k=>sm C (fun j=>mtx (rvs la) C (k/p) j*mtx (rvs lb) p j (k%p))) (by rw [D];exact W.mono H1 (B0 l7 l8)) (w:=q) (by
      show RQ g8 q (sm C (fun t=>mtx (rvs la) C (ys.length/p) t*mtx (rvs lb) p t (ys.length%p)))
      rw [D,bU (k*p) j,aO,bB M,aV _ _ (by omega),bC M,aT]
      exact H1 _ _ _ _ l8 iq)
     rw [aD,D] at rB
     exact rB
    ·show p-((j+1:Nat):Int).toNat<p-(j:Int).toNat
     omega
   ·have:j=p:=by omega
    subst this
    rw [wiS k (by omega),<- ad]
    rw [<- ad] at D W
    refine ⟨⟨k+1,g2,o2,ys,qA,qc,by omega,rfl,B0 lg G,s2,ah,D,W⟩,?_⟩
    show rows-((k+1:Nat):Int).toNat<rows-(k:Int).toNat
    omega
  ·have:k=rows:=by omega
   subst this
   have ai:=B0 ak (B0 lg s.le)
   have rq:aS RQr hp rA (k*p) (fun t=>sm C (fun j=>mtx (rvs la) C (t/p) j*mtx (rvs lb) p j (t%p))):=⟨xs,ow.slF s.ole,ae,rr.mono H1 s.le⟩
   refine Lp (m:=1+d*(2*m+1)) (gl.mono ai) rq (by omega) (fun t H=>?_) (by omega) ?_
   ·exact sz _ _ (aJ (by rw [aQ];exact H)) (bI t (show 0<p by omega))
   intro b9 h9 Q
   exact ⟨_,_,_,_,_,rfl,ag _ _ h9 (B0 ai Q.le) (Q.vis J5)⟩
 ·refine T1 (gl.mono J) (rb.mono J5 J) hn2 hl2 (fun C p E b2 T F=>⟨_,_,_,_,rfl,Hp (S (fun x=>N x.1) T (B0 J F.le))⟩) (fun _ T l2=>⟨_,_,_,_,rfl,Hp (S (fun x=>N x.1) T (B0 J l2))⟩)
end
def Gk(P Q:Nat->Nat->Rat)(w i k j:Nat):Nat->Nat->Rat:=fun a b=>if a<i then sm w (fun t=>P a t*Q t b) else if a=i then (if b<j then sm (k+1) (fun t=>P a t*Q t b) else sm k (fun t=>P a t*Q t b)) else 0
def A6i(P Q:Nat->Nat->Rat)(w a b:Nat):Gk P Q w 0 0 0 a b=0:=by
 unfold Gk
 rw [iN (bL a),iN (bL b)]
 split<;>rfl
def B06(P Q:Nat->Nat->Rat)(w i k j a b:Nat):A2v (Gk P Q w i k j) i j (sm k (fun t=>P i t*Q t j)+P i k*Q k j) a b=Gk P Q w i k (j+1) a b:=by
 unfold A2v Gk
 by_cases e:a=i/\b=j
 ·obtain ⟨rfl,rfl⟩:=e
  rw [iP ⟨rfl,rfl⟩,iN (bV a),iP rfl,iP (Nat.lt_succ_self b)]
  rfl
 ·rw [iN e]
  by_cases d:a<i
  ·rw [iP d,iP d]
  ·rw [iN d,iN d]
   by_cases c:a=i
   ·rw [iP c,iP c]
    by_cases f:b<j
    ·rw [iP f,iP (by omega)]
    ·rw [iN f,iN (by omega)]
   ·rw [iN c,iN c]
def B07(P Q:Nat->Nat->Rat){w i k j c:Nat}(h:j=c\/P i k=0){a b:Nat}(hb:b<c):Gk P Q w i k j a b=Gk P Q w i (k+1) 0 a b:=by
 unfold Gk
 by_cases d:a<i
 ·rw [iP d,iP d]
 ·rw [iN d,iN d]
  by_cases e:a=i
  ·subst e
   rw [iP rfl,iP rfl,iN (bL b)]
   by_cases f:b<j
   ·rw [iP f]
   ·rw [iN f]
    rcases h with h|h
    ·omega
    ·show _=sm k (fun t=>P a t*Q t b)+P a k*Q k b
     rw [h,aW,aM]
  ·rw [iN e,iN e]
def B2n(P Q:Nat->Nat->Rat)(w i a b:Nat):Gk P Q w i w 0 a b=Gk P Q w (i+1) 0 0 a b:=by
 unfold Gk
 by_cases d:a<i
 ·rw [iP d,iP (by omega)]
 ·rw [iN d]
  by_cases c:a=i
  ·rw [iP c,iN (bL b),iP (by omega)]
  ·rw [iN c,iN (by omega)]
   split
   ·rw [iN (bL b)];rfl
   ·rfl
section
variable {h:aH} {K:VP} {A B:Option aR} {n n2 cap cap2 m w cols:Nat} {r c r2 c2:Int} {la lb:Nat->List UInt8} {P Q:Nat->Nat->Rat}
def A4a(ra:cD h A n w P)(rb:cD h B w cols Q)(hn1:1<=n)(hn:n<=10000)(hw1:1<=w)(hw:w<=10000)(hc1:1<=cols)(hc:cols<=10000)(hs:∀ i j,i<n->j<w->Sz m (P i j))(hs2:∀ i j,i<w->j<cols->Sz m (Q i j))(hm:1+w*(2*m+1)+2*m<=400000000)
 (hK:∀ h' g' o' bo rb,h.le g'->Mt h' g' o' bo rb n cols (fun a b=>sm w (fun t=>P a t*Q t b))->K (.slice (some ⟨bo,0,none⟩) n n) h'):aU prog Pb #[.slice A n cap,.slice B w cap2] h K:=by
 refine B6a _ _ _ _ _ _ ?_
 unfold C10
 obtain ⟨aB,sB,eB,y,ae,G,_⟩:=rb.at (i:=0) (by omega)
 refine ⟨aB,eB,by omega,by omega,_,_,_,G,?_⟩
 rw [y]
 refine Gt hn hc ?_
 intro h1 g1 o1 bo l l1 t1
 refine ⟨_,_,_,rfl,fun L s=>∃ (i:Nat) (g o:aH),i<=n/\L=[I (i:Int)]/\h.le g/\Mt s g o bo l n cols (Gk P Q w i 0 0),fun L _=>n-(iAt L 0).toNat,⟨0,g1,o1,by omega,rfl,l1,t1.congr fun a b _ _=>(A6i P Q w a b).symm⟩,?_⟩
 rintro z s ⟨i,g,o,hi,eL,lg,t⟩
 obtain rfl:=sI1 eL
 refine B8 (fun ag=>?_) (fun ak=>?_)
 ·have d:i<n:=by omega
  obtain ⟨a1,s1,E,f1,f2,hc1,D⟩:=ra.at d
  refine ⟨fun L s=>∃ (k:Nat) (g o:aH),k<=w/\L=[I (k:Int)]/\h.le g/\Mt s g o bo l n cols (Gk P Q w i k 0),fun L _=>w-(iAt L 0).toNat,⟨0,g,o,by omega,rfl,lg,t⟩,?_⟩
  rintro z ai ⟨k,g2,o2,hk,T,F,t2⟩
  obtain rfl:=sI1 T
  refine B8 (fun aa=>?_) (fun ab=>?_)
  ·have e:k<w:=by omega
   obtain ⟨a2,s2,S,f3,f4,R,C⟩:=rb.at e
   refine ⟨fun L s=>∃ (j:Nat) (g o:aH),j<=cols/\L=[I (j:Int)]/\h.le g/\Mt s g o bo l n cols (Gk P Q w i k j),fun L _=>cols-(iAt L 0).toNat,⟨0,g2,o2,by omega,rfl,F,t2⟩,?_⟩
   rintro z N ⟨j,g3,W,hj,J,q,c⟩
   obtain rfl:=sI1 J
   have r:=B0 q c.sep.le
   have next:(j=cols\/P i k=0)->((∃ (k':Nat) (g o:aH),k'<=w/\[I (B7 ((k:Int)+1))]=[I (k':Int)]/\h.le g/\Mt N g o bo l n cols (Gk P Q w i k' 0))/\w-(iAt [I (B7 ((k:Int)+1))] 0).toNat<w-(iAt [I (k:Int)] 0).toNat):=by
    intro hx
    rw [wiS k (by omega)]
    exact ⟨⟨k+1,g3,W,by omega,rfl,q,c.congr fun a b _ hb=>B07 P Q hx hb⟩,by simp only [U7];omega⟩
   refine ⟨aB,eB,by omega,by omega,_,_,_,B9 r G,?_⟩
   rw [y]
   refine B8 (fun ad=>?_) (fun ac=>next (.inl (by omega)))
   have p:j<cols:=by omega
   obtain ⟨a5,w5,e5,n5,c0,c1,u,c3⟩:=(D.mono R6 q).qat e
   obtain ⟨a6,w6,e6,n6,d0,d1,d2,d3⟩:=(C.mono R6 q).qat p
   obtain ⟨cc,ah,hh⟩:=c.head d
   obtain ⟨x,ix,x0,x1,x2,x3⟩:=c.elem d p
   refine ⟨a1,E,by omega,by omega,_,_,_,B9 r hc1,a5,e5,by omega,by omega,_,_,_,_,_,_,_,_,B9 c.sep.le c0,B9 c.sep.le c1,B9 c.sep.le u,B9 c.sep.le c3,?_⟩
   refine Q8 (NQ.mono c.sep.le n5) ⟨_,rfl,F8 (fun aj=>?_) (fun X=>next (.inr (by rw [cV] at X;exact Rat.num_eq_zero.1 X)))⟩
   refine ⟨_,rfl,by omega,by omega,_,_,_,c.sep.cell hh,_,rfl,by omega,by omega,_,_,_,c.sep.cell hh,_,rfl,by omega,by omega,_,_,_,_,_,_,_,_,c.sep.cell x0,c.sep.cell x1,c.sep.cell x2,c.sep.cell x3,a1,E,by omega,by omega,_,_,_,B9 r hc1,a5,e5,by omega,by omega,_,_,_,_,_,_,_,_,B9 c.sep.le c0,B9 c.sep.le c1,B9 c.sep.le u,B9 c.sep.le c3,a2,S,by omega,by omega,_,_,_,B9 r R,a6,e6,by omega,by omega,_,_,_,_,_,_,_,_,B9 c.sep.le d0,B9 c.sep.le d1,B9 c.sep.le d2,B9 c.sep.le d3,?_⟩
   refine c.sep.call (Fa (a:=w5) (b:=w6) n5 n6 (hs i k d e) (hs2 k j e p) (by omega) ?_)
   intro w7 g7 H i7 h7 V
   refine ⟨_,_,_,_,_,_,_,_,rfl,c.sep.le_le V H,?_⟩
   have ev:Gk P Q w i k j i j=sm k (fun t=>P i t*Q t j):=by
    unfold Gk
    rw [iN (bV i),iP rfl,iN (bV j)]
   rw [ev] at ix
   have af:k*(2*m+1)<=w*(2*m+1):=aF _ hk
   refine V.call (Iq (a:=x) (b:=w7) (m:=1+k*(2*m+1)+2*m) (NQ.mono H ix) i7 ((Xm (f:=fun t=>P i t) (f2:=fun t=>Q t j) (fun t M=>hs i t d M) (fun t M=>hs2 t j M p) k hk).mono (by omega)) (((hs i k d e).mul (hs2 k j e p)).mono (by omega)) (by omega) ?_)
   intro w8 g8 O i8 h8 Z
   have t8:Mt h8 g8 W bo l n cols (Gk P Q w i k j):=c.next Z (B0 H O)
   refine ⟨_,_,_,_,_,_,_,_,rfl,V.le_le Z O,_,rfl,by omega,by omega,?_⟩
   refine t8.store d p i8 ?_
   intro h9 o9 t9 _
   rw [wiS j (by omega)]
   exact ⟨⟨j+1,g8,o9,by omega,rfl,B0 q (B0 H O),t9.congr fun a b _ _=>B06 P Q w i k j a b⟩,by simp only [U7];omega⟩
  ·have:k=w:=by omega
   subst this
   rw [wiS i (by omega)]
   exact ⟨⟨i+1,g2,o2,by omega,rfl,F,t2.congr fun a b _ _=>B2n P Q k i a b⟩,by simp only [U7];omega⟩
 ·have:i=n:=by omega
  subst this
  exact hK s g o bo l lg (t.congr fun a b ha _=>by unfold Gk;rw [iP ha])
def Vg(ra:cD h A n w P)(rb:cD h B w cols Q)(hn1:1<=n)(hn:n<=10000)(hw1:1<=w)(hw:w<=10000)(hc1:1<=cols)(hc:cols<=10000)(hs:∀ i j,i<n->j<w->Sz m (P i j))(hs2:∀ i j,i<w->j<cols->Sz m (Q i j))(hm:1+w*(2*m+1)+2*m<=400000000)
 (hK:∀ bo h',h.le h'->cD h' (some ⟨bo,0,none⟩) n cols (fun a b=>sm w (fun t=>P a t*Q t b))->K (.slice (some ⟨bo,0,none⟩) n n) h'):aU prog Pb #[.slice A n cap,.slice B w cap2] h K:=
 A4a ra rb hn1 hn hw1 hw hc1 hc hs hs2 hm fun h' c _ bo _ l t=>hK bo h' (B0 l t.sep.le) t.rowsV
end
def unP(k:Nat):Nat->Nat->Rat:=fun a b=>if a=b/\a<k then 1 else 0
def inR(bo:Nat)(rb:Nat->Nat)(n x:Nat):Prop:=x=bo\/∃ i,i<n/\x=rb i
def Mt.blk{h g o:aH}{bo n w:Nat}{rb:Nat->Nat}{M:Nat->Nat->Rat}(t:Mt h g o bo rb n w M){x:Nat}(hx:inR bo rb n x):∃ y,o x=some y:=by
 obtain ⟨c,a⟩:=t.own
 rcases hx with rfl|⟨i,b,rfl⟩
 ·exact c
 ·exact a i b
section
variable {h:aH} {K:VP} {n:Nat}
def A6u(hn:n<=10000)
 (hK:∀ h' g' o' bo rb,h.le g'->Mt h' g' o' bo rb n n (fun a b=>if a=b then 1 else 0)->K (.slice (some ⟨bo,0,none⟩) n n) h'):aU prog Vp #[I (n:Int)] h K:=by
 refine A9l _ ?_
 unfold C35
 refine Gt hn hn ?_
 intro H r A bo rb D t1
 refine ⟨_,_,_,rfl,fun L f=>∃ (k:Nat) (g o:aH),k<=n/\L=[I (k:Int)]/\h.le g/\Mt f g o bo rb n n (unP k),fun L _=>n-(iAt L 0).toNat,⟨0,r,A,by omega,rfl,D,t1.congr fun a b _ _=>by unfold unP;rw [iN (by omega)]⟩,?_⟩
 rintro z f ⟨k,g,o,F,C,m,t⟩
 obtain rfl:=sI1 C
 refine B8 (fun u=>?_) (fun E=>?_)
 ·have c:k<n:=by omega
  obtain ⟨N,B,w⟩:=t.head c
  refine ⟨_,rfl,by omega,by omega,_,_,_,t.sep.cell w,?_⟩
  refine t.sep.call (B2l ⟨by omega,by omega⟩ ?_)
  intro J p d l M j
  have one:((1:Int):Rat)=1:=rfl
  rw [one] at l
  refine ⟨_,_,_,_,_,_,_,_,rfl,t.sep.le_le j d,_,rfl,by omega,by omega,?_⟩
  refine (t.next j d).store c c l ?_
  intro G q s _
  rw [wiS k (by omega)]
  refine ⟨⟨k+1,p,q,by omega,rfl,B0 m d,s.congr fun a b _ _=>?_⟩,by simp only [U7];omega⟩
  unfold A2v unP
  by_cases e:a=k/\b=k
  ·rw [iP e,iP (by omega)]
  ·rw [iN e]
   by_cases i:a=b/\a<k
   ·rw [iP i,iP (by omega)]
   ·rw [iN i,iN (by omega)]
 ·have:k=n:=by omega
  subst this
  exact hK f g o bo rb m (t.congr fun a b y _=>by
   unfold unP
   by_cases e:a=b
   ·rw [iP ⟨e,y⟩,iP e]
   ·rw [iN (fun x=>e x.1),iN e])
end
structure Gd (h g o:aH) (ba:Nat) (ra:Nat->Nat) (bl:Nat) (rl:Nat->Nat) (n:Nat) (P L:Nat->Nat->Rat) (A:Option aR) (c k:Nat) (D:Nat->Rat):Prop where
 a:Mt h g o ba ra n n P
 l:Mt h g o bl rl n n L
 d:∃ xs:List QV,bD o E9 A c xs/\xs.length=k/\Row NQr g xs k D
 al:∀ x,inR ba ra n x->¬ inR bl rl n x
 ad:∀ x,A=some ⟨x,0,none⟩->¬ inR ba ra n x/\¬ inR bl rl n x
section
variable {h g o:aH} {ba bl n c k:Nat} {ra rl:Nat->Nat} {P L:Nat->Nat->Rat} {A:Option aR} {D:Nat->Rat}
def Gd.next(X:Gd h g o ba ra bl rl n P L A c k D){h' g':aH}(s:Sep h' g' o)(l:g.le g'):Gd h' g' o ba ra bl rl n P L A c k D:=by
 obtain ⟨b,f,e,q⟩:=X.d
 exact ⟨X.a.next s l,X.l.next s l,⟨b,f,e,q.mono R6 l⟩,X.al,X.ad⟩
def Gd.congr(X:Gd h g o ba ra bl rl n P L A c k D){P' L':Nat->Nat->Rat}(e1:∀ i j,i<n->j<n->P i j=P' i j)(e2:∀ i j,i<n->j<n->L i j=L' i j):Gd h g o ba ra bl rl n P' L' A c k D:=⟨X.a.congr e1,X.l.congr e2,X.d,X.al,X.ad⟩
def Gd.storeA(X:Gd h g o ba ra bl rl n P L A c k D){i j:Nat}(hi:i<n)(hj:j<n){x:QV}{q:Rat}(hx:NQ g x q){K:Unit->aH->Prop}
 (y:∀ h' o',Gd h' g o' ba ra bl rl n (A2v P i j q) L A c k D->K () h'):wpH prog (aZ E9 (.pointer (some (aG ⟨ra i,0,none⟩ (j*4)))) x.v) K h:=by
 refine X.a.store hi hj hx ?_
 intro h' o' m ko
 have p:∀ y,¬ inR ba ra n y->o' y=o y:=fun y f=>ko y (fun e=>f (.inr ⟨i,hi,e⟩))
 obtain ⟨t,s,e,u⟩:=X.d
 exact y h' o' ⟨m,X.l.keep m.sep (B5 _) (fun y z e f=>by rw [p y (fun r=>X.al y r f)];exact e),⟨t,s.keep fun b x w hx=>by rw [p b (X.ad b w).1];exact hx,e,u⟩,X.al,X.ad⟩
def Gd.storeL(X:Gd h g o ba ra bl rl n P L A c k D){i j:Nat}(hi:i<n)(hj:j<n){x:QV}{q:Rat}(hx:NQ g x q){K:Unit->aH->Prop}
 (y:∀ h' o',Gd h' g o' ba ra bl rl n P (A2v L i j q) A c k D->K () h'):wpH prog (aZ E9 (.pointer (some (aG ⟨rl i,0,none⟩ (j*4)))) x.v) K h:=by
 refine X.l.store hi hj hx ?_
 intro h' o' m ko
 have p:∀ y,¬ inR bl rl n y->o' y=o y:=fun y f=>ko y (fun e=>f (.inr ⟨i,hi,e⟩))
 obtain ⟨s,r,e,t⟩:=X.d
 exact y h' o' ⟨X.a.keep m.sep (B5 _) (fun y z e f=>by rw [p y (X.al y f)];exact e),m,⟨s,r.keep fun b x u hx=>by rw [p b (X.ad b u).2];exact hx,e,t⟩,X.al,X.ad⟩
def Gd.push(X:Gd h g o ba ra bl rl n P L A c k D)(hk:k<=10000){w:QV}{q:Rat}(hw:NQ g w q){K:Option aR->Nat->Nat->aH->Prop}
 (y:∀ A' c' h' g' o',g.le g'->Gd h' g' o' ba ra bl rl n P L A' c' (k+1) (fun i=>if i=k then q else D i)->K A' (k+1) c' h'):
 wpH prog (Instr.buildSlice O4 1 #[(0,w.v)]) (fun v' hp=>∃ (B:Option aR) (m d:Nat),v'= .slice B m d/\wpH prog (cI #[O4,O4] O4 #[.slice A k c,.slice B m d]) (fun v1 hp1=>∃ (A':Option aR) (n' c':Nat),v1= .slice A' n' c'/\K A' n' c' hp1) hp) h:=by
 obtain ⟨xs,G,e,J⟩:=X.d
 refine O3 (n:=k) Sk X.a.sep G e.symm (y:=w) rfl (by decide) (by omega) (by omega) ?_
 intro A' c' h' g' o' p C F ko
 have s:∀ x,(inR ba ra n x\/inR bl rl n x)->A≠some ⟨x,0,none⟩:=fun x j t=>by
  obtain ⟨E,H⟩:=X.ad x t
  rcases j with j|j
  ·exact E j
  ·exact H j
 rw [e]
 refine y A' c' h' g' o' p ⟨X.a.keep C p (fun x z j b=>(ko x z j (s x (.inl b))).1),X.l.keep C p (fun x z j b=>(ko x z j (s x (.inr b))).1),⟨_,F,by rw [aD,e];rfl,?_⟩,X.al,fun x t=>⟨fun b=>?_,fun b=>?_⟩⟩
 ·have r:=Row.push (R:=NQr) (g:=g') (xs:=xs) (f:=fun i=>if i=k then q else D i) (w:=w) (by
   rw [e]
   exact (J.mono R6 p).congr fun i b=>by rw [iN (by omega)]) (by rw [e,iP rfl];exact NQ.mono p hw)
  rw [aD,e] at r
  exact r
 ·obtain ⟨z,u⟩:=X.a.blk b
  exact (ko x z u (s x (.inl b))).2 t
 ·obtain ⟨z,u⟩:=X.l.blk b
  exact (ko x z u (s x (.inr b))).2 t
end
def stA(A:Nat->Nat->Rat)(k i j:Nat):Nat->Nat->Rat:=fun a b=>if k<b/\((k<a/\a<i)\/(a=i/\b<j)) then ldA A (k+1) a b else ldA A k a b
def stL(A:Nat->Nat->Rat)(k i:Nat):Nat->Nat->Rat:=fun a b=>if b<k\/(b=k/\a<i) then ldL A a b else if a=b then 1 else 0
section
variable {h:aH} {K:VP} {A:Option aR} {n cap Q:Nat} {E:Nat->Rat}
def Vf(rs:cD h A n n (mtx E n))(hn1:1<=n)(hn:n<=64)(hF:∀ k,k<=n->(∀ m,m<k->Pz (mtx E n) n m)->LdF E n k Q)(hQ1:1<=Q)(hQ:3*Q+1<=400000000)
 (hK1:(∀ k,k<n->Pz (mtx E n) n k)->∀ bo A' c' h',h.le h'->n<=c'->cD h' (some ⟨bo,0,none⟩) n n (fun i j=>ldL (mtx E n) i j)->aS NQr h' A' n (ldD (mtx E n))->K (.tuple #[.slice (some ⟨bo,0,none⟩) n n,.slice A' n c',.bool true]) h')
 (hK0:(¬ ∀ k,k<n->Pz (mtx E n) n k)->∀ h',h.le h'->K (.tuple #[.slice none 0 0,.slice none 0 0,.bool false]) h'):aU prog Jb #[.slice A n cap] h K:=by
 refine A2q _ _ _ ?_
 unfold A06
 refine Qp rs (by omega) hn1 (by omega) hn1 ?_
 intro G g1 V ba ra ca l1 ta
 refine ⟨_,_,_,rfl,?_⟩
 refine ta.sep.call (A6u (by omega) ?_)
 intro bv g2 o2 bl rl l2 tl C s2
 refine ⟨_,_,_,rfl,?_⟩
 have j1:∀ k x,o2 k=some x->(V.join o2) k=some x:=fun k x e=>by show (match o2 k with|some x=>some x|none=>V k)=_;rw [e]
 have dj:∀ k x,V k=some x->o2 k=none:=fun k x e=>by
  cases h0:o2 k with
  | none=>rfl
  | some y=>
   have e1:=s2.dis k x e
   rw [tl.sep.own k y h0] at e1;cases e1
 have j2:∀ k x,V k=some x->(V.join o2) k=some x:=fun k x e=>by show (match o2 k with|some x=>some x|none=>V k)=_;rw [dj k x e];exact e
 have sj:=s2.join tl.sep
 have X0:Gd C g2 (V.join o2) ba ra bl rl n (mtx E n) (stL (mtx E n) 0 0) none 0 0 (ldD (mtx E n)):=⟨ta.keep sj l2 fun k x e _=>j2 k x e,(tl.keep sj (B5 _) fun k x e _=>j1 k x e).congr fun a b _ _=>by unfold stL;rw [iN (show ¬ (b<0\/b=0/\a<0) by omega)],⟨[],OwnSl.nil,rfl,Row.nil⟩,fun x hx hy=>(by
  obtain ⟨y,a3⟩:=ta.blk hx
  obtain ⟨z,hz⟩:=tl.blk hy
  rw [dj x y a3] at hz;cases hz),fun x hA=>by cases hA⟩
 refine ⟨fun L hp=>∃ (k:Nat) (g o:aH) (P:Nat->Nat->Rat) (A':Option aR) (c:Nat),k<=n/\L=[.slice A' k c,I (k:Int)]/\h.le g/\(∀ m,m<k->Pz (mtx E n) n m)/\(∀ i j,k<=i->i<n->k<=j->j<n->P i j=ldA (mtx E n) k i j)/\Gd hp g o ba ra bl rl n P (stL (mtx E n) k 0) A' c k (ldD (mtx E n)),fun L _=>n-(iAt L 1).toNat,⟨0,g2,_,_,none,0,by omega,rfl,B0 l1 l2,fun m hm=>by omega,fun i j _ _ _ _=>rfl,X0⟩,?_⟩
 clear X0 sj j1 j2 dj s2 tl ta
 rintro dA f dc z hp ⟨k,g,o,P,A',c,hk,eL,lg,ok,hP,X⟩
 obtain ⟨⟨rfl,rfl,rfl⟩,rfl⟩:=sI2 eL
 refine B8 (fun bk=>?_) (fun b1=>?_)
 rotate_left
 ·have:f=n:=by omega
  subst this
  obtain ⟨xs,o3,e,q⟩:=X.d
  refine hK1 ok bl dA dc hp (B0 lg X.a.sep.le) (by have:=o3.1;omega) (X.l.rowsV.congr fun i j _ hj=>by unfold stL;rw [iP (.inl hj)]) ⟨xs,o3.slF X.a.sep.ole,e,q.mono R6 X.a.sep.le⟩
 have s:f<n:=by omega
 have F:=hF f hk ok
 have F1:=fun ok1:Pz (mtx E n) n f=>hF (f+1) s fun m hm=>by
  by_cases c:m=f
  ·rw [c];exact ok1
  ·exact ok m (by omega)
 have a4:=F.zA f f (aC _) s s
 obtain ⟨cc,bm,hh⟩:=X.a.head s
 obtain ⟨x,ix,x0,x1,x2,x3⟩:=X.a.elem s s
 rw [hP f f (aC _) s (aC _) s] at ix
 have M:=X.a.sep
 have a2:=B0 lg M.le
 refine ⟨_,rfl,by omega,by omega,_,_,_,M.cell hh,_,rfl,by omega,by omega,_,_,_,_,_,_,_,_,M.cell x0,M.cell x1,M.cell x2,M.cell x3,?_⟩
 refine Q8 (NQ.mono M.le ix) ⟨_,rfl,B8 (fun ah=>?_) (fun aj=>?_)⟩
 ·have a5:=Yr.1 ah
  exact hK0 (fun y=>absurd (y f s).1 (by grind)) hp a2
 have ak:0<=ldA (mtx E n) f f f:=by
  have:¬ ldA (mtx E n) f f f<0:=fun c=>aj (Yr.2 c)
  grind
 refine ⟨_,rfl,by omega,by omega,_,_,_,M.cell hh,_,rfl,by omega,by omega,_,_,_,_,_,_,_,_,M.cell x0,M.cell x1,M.cell x2,M.cell x3,?_⟩
 refine X.push (by omega) (w:=x) ix ?_
 intro A5 c5 h5 g5 o5 l5 X5
 have R:∀ {i:Nat},i<n->B7 ((i:Int)+1)=((i+1:Nat):Int):=fun {i} hi=>by rw [C1]<;>omega
 rw [R s]
 have eD:∀ i,i<f+1->(if i=f then ldA (mtx E n) f f f else ldD (mtx E n) i)=ldD (mtx E n) i:=fun i _=>by
  by_cases c:i=f
  ·rw [iP c,c];rfl
  ·rw [iN c]
 have X6:∀ {hp g o:aH} {P L:Nat->Nat->Rat},Gd hp g o ba ra bl rl n P L A5 c5 (f+1) (fun i=>if i=f then ldA (mtx E n) f f f else ldD (mtx E n) i)->Gd hp g o ba ra bl rl n P L A5 c5 (f+1) (ldD (mtx E n)):=fun Y=>by
  obtain ⟨xs,V,e,q⟩:=Y.d
  exact ⟨Y.a,Y.l,⟨xs,V,e,q.congr eD⟩,Y.al,Y.ad⟩
 have X7:=X6 X5
 clear X6 X5
 refine ⟨fun L hq=>∃ (i:Nat) (g' o':aH) (P':Nat->Nat->Rat),f<i/\i<=n/\L=[I (i:Int)]/\h.le g'/\(ldA (mtx E n) f f f=0->∀ i',f<i'->i'<i->ldA (mtx E n) f i' f=0)/\(∀ a b,f<=a->a<n->f<=b->b<n->P' a b=stA (mtx E n) f i 0 a b)/\Gd hq g' o' ba ra bl rl n P' (stL (mtx E n) f i) A5 c5 (f+1) (ldD (mtx E n)),fun L _=>n-(iAt L 0).toNat,⟨f+1,g5,o5,P,by omega,by omega,rfl,B0 lg l5,fun _ i' G C=>by omega,fun a b N O G C=>by unfold stA;rw [iN (by omega)];exact hP a b N O G C,X7.congr (fun _ _ _ _=>rfl) (fun a b _ _=>?_)⟩,?_⟩
 ·unfold stL
  by_cases c:b<f
  ·rw [iP (.inl c),iP (.inl c)]
  ·rw [iN (by omega)]
   by_cases c2:b=f/\a<f+1
   ·rw [iP (show b<f\/b=f/\a<f+1 from .inr c2)]
    by_cases c3:a=b
    ·rw [iP c3,c3,B3g]
    ·rw [iN c3,B3h (by omega)]
   ·rw [iN (show ¬ (b<f\/b=f/\a<f+1) by omega)]
 clear X7
 rintro z6 hq ⟨i,g6,o6,P6,aw,bg,eL,T,hz,J,X6⟩
 obtain rfl:=sI1 eL
 have t:=X6.a.sep
 have ar:=B0 T t.le
 refine B8 (fun bc=>?_) (fun be=>?_)
 rotate_left
 ·have ax:i=n:=by omega
  subst ax
  have ac:Pz (mtx E i) i f:=⟨ak,fun e j G C=>hz e j G C⟩
  refine ⟨⟨f+1,g6,o6,P6,A5,c5,by omega,rfl,T,fun m hm=>?_,fun a b N O G C=>?_,X6.congr (fun _ _ _ _=>rfl) (fun a b N _=>?_)⟩,?_⟩
  ·by_cases c:m=f
   ·rw [c];exact ac
   ·exact ok m (by omega)
  ·rw [J a b (by omega) O (by omega) C]
   unfold stA
   rw [iP (by omega)]
  ·unfold stL
   by_cases c:b<f+1
   ·rw [iP (show b<f\/b=f/\a<i by omega),iP (.inl c)]
   ·rw [iN (show ¬ (b<f\/b=f/\a<i) by omega),iN (show ¬ (b<f+1\/b=f+1/\a<0) by omega)]
  ·show i-((f+1:Nat):Int).toNat<i-((f:Nat):Int).toNat
   omega
 have B:i<n:=by omega
 obtain ⟨ck,b0,ao⟩:=X6.a.head s
 obtain ⟨ci,bf,ai⟩:=X6.a.head B
 obtain ⟨y,iy,y0,y1,y2,y3⟩:=X6.a.elem s s
 obtain ⟨u,iu,u0,u1,u2,u3⟩:=X6.a.elem B s
 have av:P6 f f=ldA (mtx E n) f f f:=by rw [J f f (aC _) s (aC _) s];unfold stA;rw [iN (by omega)]
 have a8:P6 i f=ldA (mtx E n) f i f:=by rw [J i f (by omega) B (aC _) s];unfold stA;rw [iN (by omega)]
 rw [av] at iy
 rw [a8] at iu
 refine ⟨_,rfl,by omega,by omega,_,_,_,t.cell ao,_,rfl,by omega,by omega,_,_,_,_,_,_,_,_,t.cell y0,t.cell y1,t.cell y2,t.cell y3,?_⟩
 have W:∀ {q:Rat},q.num.sign=0↔q=0:=fun {q}=>by rw [cV];exact Rat.num_eq_zero
 refine Q8 (NQ.mono t.le iy) ⟨_,rfl,D8 (fun he=>?_) (fun ag=>?_)⟩
 ·have e0:=W.1 he
  refine ⟨_,rfl,by omega,by omega,_,_,_,t.cell ai,_,rfl,by omega,by omega,_,_,_,_,_,_,_,_,t.cell u0,t.cell u1,t.cell u2,t.cell u3,?_⟩
  refine Q8 (NQ.mono t.le iu) ⟨_,rfl,F8 (fun ag=>?_) (fun a1=>?_)⟩
  ·exact hK0 (fun y=>ag (W.2 ((y f s).2 e0 i aw B))) hq ar
  ·have ay:=W.1 a1
   rw [R B]
   have eA:∀ a b,ldA (mtx E n) (f+1) a b=ldA (mtx E n) f a b:=fun a b=>by
    show (if ldA (mtx E n) f f f=0 then _ else _)=_
    rw [iP e0]
   refine ⟨⟨i+1,g6,o6,P6,by omega,by omega,rfl,T,fun e i' G C=>?_,fun a b N O G C=>?_,X6.congr (fun _ _ _ _=>rfl) (fun a b _ _=>?_)⟩,by simp only [U7];omega⟩
   ·by_cases c:i'=i
    ·rw [c];exact ay
    ·exact hz e i' G (by omega)
   ·rw [J a b N O G C]
    unfold stA
    rw [eA]
    split<;>split<;>rfl
   ·unfold stL
    by_cases c:b<f\/b=f/\a<i
    ·rw [iP c,iP (by omega)]
    ·rw [iN c]
     by_cases c2:b=f/\a=i
     ·rw [iP (show b<f\/b=f/\a<i+1 by omega),iN (by omega),c2.1,c2.2]
      unfold ldL
      rw [iN (by omega),iN (by omega),iP e0]
     ·rw [iN (show ¬ (b<f\/b=f/\a<i+1) by omega)]
 have S:ldA (mtx E n) f f f≠0:=fun e=>ag (W.2 e)
 have ac:Pz (mtx E n) n f:=⟨ak,fun e=>absurd e S⟩
 have F2:=F1 ac
 obtain ⟨cl,bz,a6⟩:=X6.l.head B
 refine ⟨_,rfl,by omega,by omega,_,_,_,t.cell a6,_,rfl,by omega,by omega,_,_,_,t.cell ai,_,rfl,by omega,by omega,_,_,_,_,_,_,_,_,t.cell u0,t.cell u1,t.cell u2,t.cell u3,_,rfl,by omega,by omega,_,_,_,t.cell ao,_,rfl,by omega,by omega,_,_,_,_,_,_,_,_,t.cell y0,t.cell y1,t.cell y2,t.cell y3,?_⟩
 refine t.call (Ul (m:=Q) iu iy (F.zA i f (by omega) B s) a4 (by omega) ?_)
 intro w7 g7 l7 i7 h7 s7
 refine ⟨_,_,_,_,_,_,_,_,rfl,t.le_le s7 l7,_,rfl,by omega,by omega,?_⟩
 refine (X6.next s7 l7).storeL B s i7 ?_
 intro h8 o8 X8
 have an:ldA (mtx E n) f i f/ldA (mtx E n) f f f=ldL (mtx E n) i f:=by
  unfold ldL
  rw [iN (by omega),iN (by omega),iN S]
 rw [an] at X8
 have X9:Gd h8 g7 o8 ba ra bl rl n P6 (stL (mtx E n) f (i+1)) A5 c5 (f+1) (ldD (mtx E n)):=X8.congr (fun _ _ _ _=>rfl) (fun a b _ _=>by
  unfold A2v stL
  by_cases c:a=i/\b=f
  ·rw [iP c,iP (.inr ⟨c.2,by omega⟩),c.1,c.2]
  ·rw [iN c]
   by_cases c2:b<f\/b=f/\a<i
   ·rw [iP c2,iP (by omega)]
   ·rw [iN c2,iN (show ¬ (b<f\/b=f/\a<i+1) by omega)])
 clear X8
 refine ⟨fun L hq=>∃ (j:Nat) (g' o':aH) (P':Nat->Nat->Rat),f<j/\j<=n/\L=[I (j:Int)]/\h.le g'/\(∀ a b,f<=a->a<n->f<=b->b<n->P' a b=stA (mtx E n) f i j a b)/\Gd hq g' o' ba ra bl rl n P' (stL (mtx E n) f (i+1)) A5 c5 (f+1) (ldD (mtx E n)),fun L _=>n-(iAt L 0).toNat,⟨f+1,g7,o8,P6,by omega,by omega,rfl,B0 T l7,fun a b N O G C=>by
  rw [J a b N O G C]
  unfold stA
  by_cases c:f<b/\((f<a/\a<i)\/(a=i/\b<0))
  ·rw [iP c,iP (by omega)]
  ·rw [iN c,iN (by omega)],X9⟩,?_⟩
 clear X9 X6 J
 rintro bp hr ⟨j,au,a9,P10,bn,bw,eL,ab,H,X10⟩
 obtain rfl:=sI1 eL
 have r:=X10.a.sep
 refine B8 (fun bd=>?_) (fun bb=>?_)
 rotate_left
 ·have aq:j=n:=by omega
  subst aq
  rw [R B]
  refine ⟨⟨i+1,au,a9,P10,by omega,by omega,rfl,ab,fun e=>absurd e S,fun a b N O G C=>?_,X10⟩,by simp only [U7];omega⟩
  rw [H a b N O G C]
  unfold stA
  by_cases c:f<b/\((f<a/\a<i)\/(a=i/\b<j))
  ·rw [iP c,iP (by omega)]
  ·rw [iN c,iN (by omega)]
 have D:j<n:=by omega
 obtain ⟨c1,bh,d1⟩:=X10.a.head B
 obtain ⟨c2,bu,d2⟩:=X10.a.head s
 obtain ⟨c3,bj,d3⟩:=X10.l.head B
 obtain ⟨p,ip,p0,p1,p2,p3⟩:=X10.a.elem B D
 obtain ⟨q,iq,q0,q1,q2,q3⟩:=X10.l.elem B s
 obtain ⟨v,iv,v0,v1,v2,v3⟩:=X10.a.elem s D
 have e1:P10 i j=ldA (mtx E n) f i j:=by rw [H i j (by omega) B (by omega) D];unfold stA;rw [iN (by omega)]
 have e2:P10 f j=ldA (mtx E n) f f j:=by rw [H f j (aC _) s (by omega) D];unfold stA;rw [iN (by omega)]
 have e3:stL (mtx E n) f (i+1) i f=ldL (mtx E n) i f:=by unfold stL;rw [iP (.inr ⟨rfl,by omega⟩)]
 rw [e1] at ip
 rw [e2] at iv
 rw [e3] at iq
 refine ⟨_,rfl,by omega,by omega,_,_,_,r.cell d1,_,rfl,by omega,by omega,_,_,_,r.cell d1,_,rfl,by omega,by omega,_,_,_,_,_,_,_,_,r.cell p0,r.cell p1,r.cell p2,r.cell p3,_,rfl,by omega,by omega,_,_,_,r.cell d3,_,rfl,by omega,by omega,_,_,_,_,_,_,_,_,r.cell q0,r.cell q1,r.cell q2,r.cell q3,_,rfl,by omega,by omega,_,_,_,r.cell d2,_,rfl,by omega,by omega,_,_,_,_,_,_,_,_,r.cell v0,r.cell v1,r.cell v2,r.cell v3,?_⟩
 have zl:=B3f F s hQ1 B
 have zv:=F.zA f j (aC _) s D
 refine r.call (Fa (m:=2*Q) iq iv zl (zv.mono (by omega)) (by omega) ?_)
 intro bx bt Z a7 br aa
 refine ⟨_,_,_,_,_,_,_,_,rfl,r.le_le aa Z,?_⟩
 refine aa.call (Ny (m:=3*Q+1) (NQ.mono Z ip) a7 ((F.zA i j (by omega) B D).mono (by omega)) ((zl.mul zv).mono (by omega)) (by omega) ?_)
 intro b2 a0 ae ap bi am
 refine ⟨_,_,_,_,_,_,_,_,rfl,aa.le_le am ae,_,rfl,by omega,by omega,?_⟩
 refine ((X10.next aa Z).next am ae).storeA B D ap ?_
 intro bq az X13
 rw [R D]
 refine ⟨⟨j+1,a0,az,_,by omega,by omega,rfl,B0 ab (B0 Z ae),fun a b N O G C=>?_,X13⟩,by simp only [U7];omega⟩
 have af:ldA (mtx E n) f i j-ldL (mtx E n) i f*ldA (mtx E n) f f j=ldA (mtx E n) (f+1) i j:=by
  show _=(if ldA (mtx E n) f f f=0 then _ else _)
  rw [iN S,<- an]
  grind
 unfold A2v
 by_cases c:a=i/\b=j
 ·rw [iP c,af,c.1,c.2]
  unfold stA
  rw [iP (by omega)]
 ·rw [iN c,H a b N O G C]
  unfold stA
  by_cases c2:f<b/\((f<a/\a<i)\/(a=i/\b<j))
  ·rw [iP c2,iP (by omega)]
  ·rw [iN c2,iN (by omega)]
end
end Go.Proofs.YtmbfcbbkbefgfaaGreatDoor
namespace Go.Proofs.YtmbfcbbkbefgfaaGreatDoor
set_option maxRecDepth 20000
structure LUS where
 R:Nat->Nat->Rat
 L:Nat->Nat->Rat
 p:Nat->Nat
def C3v(n c:Nat)(s:LUS):Nat:=fnd (fun i=>decide (s.R i c≠0)) (n-c) c
def C62(R:Nat->Nat->Rat)(c:Nat):Nat->Nat->Rat:=fun i j=>if i<=c\/j<c then R i j else R i j-R i c/R c c*R c j
def C64(R L:Nat->Nat->Rat)(c:Nat):Nat->Nat->Rat:=fun i j=>if j=c then (if i=c then 1 else if c<i then R i c/R c c else 0) else L i j
def C63(n c:Nat)(s:LUS):LUS:=
 { R:=C62 (fun i=>s.R (xch c (C3v n c s) i)) c
   L:=C64 (fun i=>s.R (xch c (C3v n c s) i)) (fun i=>s.L (xch c (C3v n c s) i)) c
   p:=fun i=>s.p (xch c (C3v n c s) i) }
def C65(n:Nat)(M:Nat->Nat->Rat):Nat->LUS
 | 0=>⟨M,fun _ _=>0,fun i=>i⟩
 | c+1=>C63 n c (C65 n M c)
structure LuI (n c m:Nat) (M:Nat->Nat->Rat) (s:LUS):Prop where
 zero:∀ i j,i<n->c<=i->j<c->s.R i j=0
 lz:∀ i j,c<=j->s.L i j=0
 szR:∀ i j,i<n->j<n->Sz (7^c*m) (s.R i j)
 szL:∀ i j,i<n->j<n->Sz (7^c*m) (s.L i j)
 len:(B1o n ⟨M,[],1⟩ c).cs.length=c
 sync:∀ i j,i<n->c<=i->(B1o n ⟨M,[],1⟩ c).R i j=s.R i j
def inM(bo:Nat)(rb:Nat->Nat)(n x:Nat):Prop:=x=bo\/∃ i,i<n/\x=rb i
structure Lu3 (h g o:aH) (bu:Nat) (ru:Nat->Nat) (bl:Nat) (rl:Nat->Nat) (bp n:Nat) (U L:Nat->Nat->Rat) (p:Nat->Nat):Prop where
 u:Mt h g o bu ru n n U
 l:Mt h g o bl rl n n L
 p:∃ ps:List Int,RowB o bp ps/\ps.length=n/\∀ i,i<n->ps[i]? = some ((p i:Nat):Int)
 ul:∀ x,inM bu ru n x->¬ inM bl rl n x
 pu:¬ inM bu ru n bp
 pl:¬ inM bl rl n bp
section
variable {h g o:aH} {bu bl bp n:Nat} {ru rl:Nat->Nat} {U L:Nat->Nat->Rat} {p:Nat->Nat}
end
structure LOut where
 d:Int
 n:Nat
 q:Nat
 p:Nat->Nat
 l:Nat->List UInt8
 u:Nat->List UInt8
 e:Int
section
variable {h:aH} {K:VP} {A:Option aR} {n cap m:Nat} {r c:Int} {la:Nat->List UInt8}
end
def QM(g o:aH)(b n:Nat)(L:Nat->Nat->Rat):Prop:=∃ xs:List QV,RowX o b xs/\xs.length=n*n/\∀ i j,i<n->j<n->∃ w,xs[i*n+j]? = some w/\RQ g w (L i j)
def inT(T:Tb)(x:Nat):Prop:=x=T.bt\/x=T.bE\/x=T.bS
section
variable {g o:aH} {b n:Nat} {L:Nat->Nat->Rat}
end
structure LuT (h g o:aH) (T:Tb) (M:Nat->Nat->Int) (S:Nat->Rat) (bp bl bu n:Nat) (p:Nat->Nat) (L U:Nat->Nat->Rat):Prop where
 t:Tab h g o T M S
 p:∃ ps:List Int,RowB o bp ps/\ps.length=n/\∀ i,i<n->ps[i]? = some ((p i:Nat):Int)
 l:QM g o bl n L
 u:QM g o bu n U
 tp:¬ inT T bp
 tl:¬ inT T bl
 tu:¬ inT T bu
 pl:bp≠bl
 pu:bp≠bu
 lu:bl≠bu
section
variable {h g o:aH} {T:Tb} {M:Nat->Nat->Int} {S:Nat->Rat} {bp bl bu n:Nat} {p:Nat->Nat} {L U:Nat->Nat->Rat}
end
def fr2{l si ri sk rk:Rat}(hl:l≠0)(hi:si≠0)(hk:sk≠0):l*(si*ri)/(l*(sk*rk))*sk/si=ri/rk:=by
 have c:=bN _ hl
 have a:=bN _ hi
 have b:=bN _ hk
 rw [cK,cK,cK,Rat.inv_mul_rev,Rat.inv_mul_rev]
 grind
structure LuF (E:Nat->Rat) (n k m:Nat):Prop where
 row:So n k (elP E n n k)=C3v n k (C65 n (mtx E n) k)
 val:∀ i j,i<n->k<=i->j<n->((elP E n n k).M i j:Rat)=(elP E n n k).last*((elP E n n k).S i*(C65 n (mtx E n) k).R i j)
 last:(elP E n n k).last≠0
 S:∀ i,i<n->(elP E n n k).S i≠0
 len:(elP E n n k).cs.length=k
 zM:∀ a b,a<n->b<n->ZB (3^k*bnd n m) ((elP E n n k).M a b)
 zl:ZB (3^k*bnd n m) (elP E n n k).last
 zS:∀ a,a<n->Sz (bnd n m) ((elP E n n k).S a)
section
variable {h:aH} {K:VP} {A:Option aR} {n cap m:Nat} {r c:Int} {la:Nat->List UInt8}
end
section
variable {h:aH} {K:VP} {A B:Option aR} {n n2 cap cap2 m:Nat} {r c r2 c2:Int} {la lb:Nat->List UInt8}
def B37(gl:Gl h)(ra:aS SSr h A n la)(rb:aS SSr h B n2 lb)(hn:n<=1000000)(hn2:n2<=1000000)(hl:LL n la)(hl2:LL n2 lb)(hs:∀ i,i<n->Sz m (rv (la i)))(hs2:∀ i,i<n2->Sz m (rv (lb i)))(hm:2*m+1<=40000000)
 (hK:∀ o,C5e r c n la r2 c2 n2 lb (-1) o->∀ A' cap' h',h.le h'->aS SSr h' A' o.n o.f->K (.tuple #[Dr o.r o.c A' o.n cap',I o.e]) h'):aU prog B3y #[Dr r c A n cap,Dr r2 c2 B n2 cap2] h K:=by
 refine C33 _ _ _ _ _ _ _ _ _ _ ?_
 unfold C7u
 exact Xq gl ra rb hn hn2 hl hl2 hs hs2 hm fun o b A' cap' h' l a=>⟨_,_,_,_,_,_,rfl,hK o b A' cap' h' l a⟩
end
def Sp(la:Nat->List UInt8)(mid:Nat)(lb:Nat->List UInt8)(cols:Nat):Nat->List UInt8:=fun k=>K4 (sm mid (fun j=>mtx (rvs la) mid (k/cols) j*mtx (rvs lb) cols j (k%cols)))
def A4j{i j c:Nat}(hj:j<c):(i*c+j)/c=i/\(i*c+j)%c=j:=by
 rw [bU,aO,bB hj,aV _ _ (by omega),bC hj,aT]
 exact ⟨rfl,rfl⟩
def B2o(la:Nat->List UInt8)(mid:Nat)(lb:Nat->List UInt8){cols i j:Nat}(hj:j<cols):mtx (rvs (Sp la mid lb cols)) cols i j=sm mid (fun t=>mtx (rvs la) mid i t*mtx (rvs lb) cols t j):=by
 obtain ⟨a,b⟩:=A4j (i:=i) hj
 show rv (K4 (sm mid (fun t=>mtx (rvs la) mid ((i*cols+j)/cols) t*mtx (rvs lb) cols t ((i*cols+j)%cols))))=_
 rw [In,a,b]
section
variable {r c r2 c2:Int} {n n2 m rows mid mid2 cols:Nat} {la lb:Nat->List UInt8} {o:MOut}
def MOk.prod(ma:MOk r c n la rows mid)(mb:MOk r2 c2 n2 lb mid cols):MOk r c2 (rows*cols) (Sp la mid lb cols) rows cols:=⟨ma.er,mb.ec,ma.r1,ma.r2,mb.c1,mb.c2,rfl,fun _ _=>⟨_,rfl⟩⟩
def MOk.uniq{rows2 cols2:Nat}(ma:MOk r c n la rows cols)(mb:MOk r c n la rows2 cols2):rows2=rows/\cols2=cols:=by
 have:=ma.er;have:=ma.ec;have:=mb.er;have:=mb.ec
 omega
def MulO.ok(ma:MOk r c n la rows mid)(mb:MOk r2 c2 n2 lb mid2 cols)(ho:MulO r c n la r2 c2 n2 lb o):(mid=mid2/\c=r2/\o=⟨r,c2,rows*cols,Sp la mid lb cols,0⟩)\/(mid≠mid2/\c≠r2/\o=noM 4):=by
 rcases ho with ⟨a,_⟩|⟨_,_,b,rfl⟩|⟨f,e,c1,a,d,rfl⟩
 ·exact absurd ⟨⟨_,_,ma⟩,⟨_,_,mb⟩⟩ a
 ·exact .inr ⟨by rintro rfl;exact b (by rw [ma.ec,mb.er]),b,rfl⟩
 ·obtain ⟨rfl,rfl⟩:=ma.uniq a
  obtain ⟨rfl,rfl⟩:=mb.uniq d
  exact .inl ⟨rfl,by rw [a.ec,d.er],rfl⟩
def A0u(ma:MOk r c n la rows mid)(mb:MOk r2 c2 n2 lb mid cols)(hs:∀ i,i<n->Sz m (rv (la i)))(hs2:∀ i,i<n2->Sz m (rv (lb i))):∀ i,i<rows*cols->Sz (1+mid*(2*m+1)) (rv (Sp la mid lb cols i)):=by
 intro i f
 have k:=mb.c1
 have l:=ma.r1
 have b:=ma.len
 have d:=mb.len
 have e:i/cols<rows:=aJ (by rw [aQ];exact f)
 have g:=bI i (show 0<cols by omega)
 show Sz _ (rv (K4 _))
 rw [In]
 exact Xm (fun j a=>hs _ (by rw [b];exact L8 e a)) (fun j a=>hs2 _ (by rw [d];exact L8 a g)) mid (aC _)
def A3r(ma:MOk r c n la rows mid)(mb:MOk r2 c2 n2 lb mid cols)(hs:∀ i,i<n->Sz m (rv (la i)))(hs2:∀ i,i<n2->Sz m (rv (lb i))):∀ i,i<rows*cols->(Sp la mid lb cols i).length<=2*(1+mid*(2*m+1))+4:=by
 intro i a
 have:=A0u ma mb hs hs2 i a
 refine A0g ?_
 rw [<- In (sm mid (fun j=>mtx (rvs la) mid (i/cols) j*mtx (rvs lb) cols j (i%cols)))]
 exact this
end
def U2(E:Nat->Rat)(n:Nat):Nat->Rat:=fun k=>if k%(n+n)<n then E (k/(n+n)*n+k%(n+n)) else if k%(n+n)=n+k/(n+n) then 1 else 0
def A0f(E:Nat->Rat){n i j:Nat}(hj:j<n+n):U2 E n (i*(n+n)+j)=if j<n then E (i*n+j) else if j=n+i then 1 else 0:=by
 have a:(i*(n+n)+j)/(n+n)=i:=by rw [bU,aV _ _ (by omega),bC hj,aT]
 have b:(i*(n+n)+j)%(n+n)=j:=by rw [bU,aO,bB hj]
 unfold U2
 rw [a,b]
def A0e{E:Nat->Rat}{n m:Nat}(hm:1<=m)(hs:∀ i,i<n*n->Sz m (E i)):∀ i,i<n*(n+n)->Sz m (U2 E n i):=by
 intro i b
 have a:i/(n+n)<n:=aJ (by rw [aQ];exact b)
 unfold U2
 split
 ·rename_i h;exact hs _ (L8 a h)
 ·split
  ·exact ⟨ZB.one hm,ZB.one hm⟩
  ·exact Sz.zero hm
def Yj(E:Nat->Rat)(n:Nat):Prop:=(elE (U2 E n) n (n+n) n).cs.length=n
def Lw(E:Nat->Rat)(n:Nat):Nat->Nat->Rat:=fun i j=>(elE (U2 E n) n (n+n) n).R i (n+j)
def C86(r c:Int)(n:Nat)(la:Nat->List UInt8)(o:MOut):Prop:=
 (¬ Mx r c n la/\o=noM 1)\/(Mx r c n la/\r≠c/\o=noM 4)\/(∃ q,MOk r c n la q q/\((Yj (rvs la) q/\o=⟨r,r,q*q,Gs (Lw (rvs la) q) q,0⟩)\/(¬ Yj (rvs la) q/\o=noM 7)))
section
variable {h:aH} {K:VP} {A:Option aR} {n cap m:Nat} {r c:Int} {la:Nat->List UInt8}
def A0z(gl:Gl h)(ra:aS SSr h A n la)(hn:n<=1000000)(hl:LL n la)(hs:∀ i,i<n->Sz m (rv (la i)))(hm1:1<=m)(hb:∀ q,MOk r c n la q q->2*(3^q*bnd (q+q) m)+1<=40000000)
 (hK:∀ o,C86 r c n la o->∀ A' cap' h',h.le h'->aS SSr h' A' o.n o.f->K (.tuple #[Dr o.r o.c A' o.n cap',I o.e]) h'):aU prog Qu #[Dr r c A n cap] h K:=by
 refine A7n _ _ _ _ _ ?_
 unfold A9h
 refine T1 gl ra hn hl (fun rows cols mk b1 F own=>?_) (fun bm F l1=>⟨_,_,_,_,rfl,Hp (hK (noM 1) (.inl ⟨bm,rfl⟩) none 0 F l1 RowV.nil)⟩)
 have l1:=own.le
 refine ⟨_,_,_,_,rfl,Br.nt (F8 (fun e=>hK (noM 4) (.inr (.inl ⟨⟨_,_,mk⟩,e,rfl⟩)) none 0 F l1 RowV.nil) (fun e=>?_))⟩
 obtain rfl:rows=cols:=by have:=mk.er;have:=mk.ec;omega
 have aw:=fun x=>hK ⟨r,r,rows*rows,Gs (Lw (rvs la) rows) rows,0⟩ (.inr (.inr ⟨rows,mk,.inl ⟨x,rfl⟩⟩))
 have ba:=fun x=>hK (noM 7) (.inr (.inr ⟨rows,mk,.inr ⟨x,rfl⟩⟩))
 have bv:=hb rows mk
 have:=mk.r1;have:=mk.r2
 obtain ⟨rfl,rfl,_,_,_,_,rfl,_⟩:=id mk
 clear e
 have a9:=own.vis H1
 have b0:rows*rows<=64*64:=aL (by omega) (by omega)
 have br:rows*(rows+rows)<=64*128:=aL (by omega) (by omega)
 refine ⟨fun L hp=>∃ (k:Nat) (g o:aH) (xs:List QV) (A':Option aR) (H:Nat),k<=rows/\L=[.slice A' (k*(rows+rows)) H,I (k:Int)]/\F.le g/\Sep hp g o/\bD o G2 A' H xs/\xs.length=k*(rows+rows)/\Row RQr g xs (k*(rows+rows)) (U2 (rvs la) rows),fun L _=>rows-(iAt L 1).toNat,
  ⟨0,F,V7,[],none,0,by omega,by rw [aX];rfl,B5 _,Sep.refl F,OwnSl.nil,by simp,by rw [aX];exact Row.nil⟩,?_⟩
 rintro wA wn wc z hp ⟨k,g,o,xs,A',H,hk,eL,lg,s,ow,b,rr⟩
 obtain ⟨⟨rfl,rfl,rfl⟩,rfl⟩:=sI2 eL
 refine B8 (fun ap=>?_) (fun bj=>?_)
 ·have u:k<rows:=by omega
  have h2:(k+1)*rows<=rows*rows:=aF _ u
  have h3:(k+1)*rows=k*rows+rows:=by rw [aY,bH]
  have h4:(k+1)*(rows+rows)=k*(rows+rows)+rows+rows:=by rw [aY,bH];omega
  have h5:(k+1)*(rows+rows)<=rows*(rows+rows):=aF _ u
  have e0:B7 ((k:Int)+1)=((k+1:Nat):Int):=C1 (by omega) (by omega)
  have e1:B7 ((k:Int)*(rows:Int))=((k*rows:Nat):Int):=by rw [<- aN];exact L6 (by omega)
  have e2:B7 (B7 ((k:Int)+1)*(rows:Int))=(((k+1)*rows:Nat):Int):=by rw [e0,<- aN];exact L6 (by omega)
  rw [e1,e2,e0]
  refine ⟨⟨by omega,by omega⟩,⟨by omega,by simp only [aE];omega⟩,?_⟩
  simp only [aE]
  have e5:(k+1)*rows-k*rows=rows:=by omega
  rw [e5]
  have row:aS RQr F (I5 (some ⟨b1,0,none⟩) (rows*rows) (k*rows) 4) rows (fun j=>rvs la (k*rows+j)):=a9.cut (c:=rows*rows) (l:=k*rows) (k:=rows) (by omega) (aC _)
  obtain ⟨ys,sy,a,qy⟩:=row
  refine OwnSl.app (ty:=U3) A9v s ow b.symm a.symm (by rintro rfl;simp at a;omega) (sy.mono (B0 lg s.le)) (by rw [b,a];omega) (by rw [b,a];omega) ?_
  intro A2 c2 bx g2 o2 l2 s2 bd _
  have a2:=B0 lg l2
  have p:(xs++ys).length=k*(rows+rows)+rows:=by rw [aD,b,a]
  have r1:Row RQr g2 (xs++ys) (k*(rows+rows)+rows) (U2 (rvs la) rows):=by
   refine Row.app b (rr.mono H1 l2) ((qy.mono H1 a2).congr fun j hj=>?_)
   rw [A0f (rvs la) (by omega),iP hj]
  refine ⟨_,_,_,rfl,?_⟩
  rw [b]
  refine N4 A9v (zx:=Z5) rfl (by omega) (by omega) (by omega) (by omega) ?_
  intro N aa
  simp only [aE]
  have ob:∀ q x,o2 q=some x->q≠N:=by
   rintro q x e rfl
   rw [s2.own q x e] at aa;cases aa
  refine ⟨_,_,_,rfl,Sep.call (s2.new aa _) (Ub ⟨by omega,by omega⟩ ?_)⟩
  intro wd g4 l4 al bq s4
  have one:((1:Int):Rat)=1:=rfl
  rw [one] at al
  refine ⟨_,_,_,_,_,_,_,_,rfl,_,rfl,by omega,by omega,?_⟩
  refine Aj Nq (y:=wd) rfl s4 RowX.mk (i:=k) (by rw [aK];exact u) ?_
  intro bu o5 x5 a6 s5 bc
  have X:∀ k,k≠N->o5 k=o2 k:=fun k hk=>by rw [a6,C0 _ _ hk,C0 _ _ hk]
  have r0:Row RQr g4 (aI rows Z5) rows (fun _=>0):=fun i hi=>⟨Z5,by rw [bO,iP hi],RQ.zero⟩
  have ru:Row RQr g4 ((aI rows Z5).set k wd) rows (fun i=>if i=k then 1 else 0):=r0.upd (by rw [aK];exact u) al
  obtain ⟨g8,l8,s8⟩:=s5.give (o2:=o2) (fun k x e=>by rw [X k (ob k x e)];exact e)
  have a7:o2 N=none:=by
   cases hx:o2 N with
   | none=>rfl
   | some y=>exact absurd rfl (ob N y hx)
  have be:RowX g8 N ((aI rows Z5).set k wd):=bc.keep fun x e=>by rw [<- s8.rest N a7];exact s5.own N x e
  have C:((aI rows Z5).set k wd).length=rows:=by rw [bM,aK]
  generalize (aI rows Z5).set k wd=us at *
  refine OwnSl.app (ty:=U3) A9v s8 bd p.symm C.symm (by rintro rfl;simp at C;omega) ((be.rowB.slF (B5 _)).mono s8.le) (by rw [p,C];omega) (by rw [p,C];omega) ?_
  intro A9 c9 h9 g9 o9 l9 s9 bk _
  rw [p]
  have av:=B0 l4 (B0 l8 l9)
  refine ⟨_,_,_,rfl,⟨k+1,g9,o9,_,A9,c9,by omega,by rw [h4],B0 a2 av,s9,bk,by rw [aD,p,C,h4],?_⟩,?_⟩
  ·rw [h4]
   refine Row.app p (r1.mono H1 av) ((ru.mono H1 (B0 l8 l9)).congr fun j hj=>?_)
   have ej:k*(rows+rows)+rows+j=k*(rows+rows)+(rows+j):=by omega
   rw [ej,A0f (rvs la) (i:=k) (j:=rows+j) (by omega),iN (show ¬ rows+j<rows by omega)]
   by_cases e:j=k
   ·rw [iP e,iP (by omega)]
   ·rw [iN e,iN (by omega)]
  ·show rows-((k+1:Nat):Int).toNat<rows-(k:Int).toNat
   omega
 have u:k=rows:=by omega
 subst u
 have ew:B7 (2*(k:Int))=((k+k:Nat):Int):=by rw [C1]<;>omega
 rw [ew]
 have au:=B0 l1 (B0 lg s.le)
 have rq:aS RQr hp wA (k*(k+k)) (U2 (rvs la) k):=⟨xs,ow.slF s.ole,b,rr.mono H1 s.le⟩
 have a0:=A0e hm1 hs
 refine A64 (E:=U2 (rvs la) k) (cc:=k) (m:=m) (gl.mono au) rq (by have:=ow.1;omega) (by omega) (by omega) (by omega) (by omega) (by omega) a0 (by omega) ?_
 intro T h2 V l2 e1 e2
 refine ⟨_,rfl,FCall.mono V ?_⟩
 rintro r3 h3 ⟨g3,o3,A3,bo,w,l3,t3,a5,bg,ay,rfl⟩
 refine ⟨_,_,_,_,_,_,_,_,rfl,?_⟩
 have ae:=B45 (E:=U2 (rvs la) k) (rows:=k) (cols:=k+k) (c:=k) a0 (by omega)
 have bi:=A8z (U2 (rvs la) k) k (k+k) k (bnd (k+k) m)
 have ah:=B47 (U2 (rvs la) k) k (k+k) k
 have J:(elE (U2 (rvs la) k) k (k+k) k).cs.length=k->∀ i j,i<k->j<k->cM ((elP (U2 (rvs la) k) k (k+k) k).M i (k+j)) (elP (U2 (rvs la) k) k (k+k) k).last=Lw (rvs la) k i j:=fun an i j hi hj=>C06 (U2 (rvs la) k) (by omega) hi (by omega) (.inl (by omega))
 have an:(elE (U2 (rvs la) k) k (k+k) k).cs.length<=k/\(elE (U2 (rvs la) k) k (k+k) k).cs.length<=k:=A22 _ k k
 rw [C49 _ (by omega)]
 have af:h.le h3:=B0 au (B0 l3 t3.sep.le)
 refine B8 (fun ap=>ba (fun hx=>by unfold Yj at hx;omega) none 0 h3 af RowV.nil) (fun bj=>?_)
 have D:(elE (U2 (rvs la) k) k (k+k) k).cs.length=k:=by omega
 have am:=J D
 have ac:=aw D
 clear J
 generalize elP (U2 (rvs la) k) k (k+k) k=st at *
 have ad:=ae.M
 have W:=ae.last
 clear ae
 generalize 3^st.cs.length*bnd (k+k) m=bb at ad W bi
 have iw:ZIr h3 w st.last:=Gn _ _ _ _ t3.sep.le ay
 have G:∀ g',h3.le g'->∃ gT,Tab g' gT o3 T st.M st.S:=fun g' l=>by
  obtain ⟨gT,l',s'⟩:=t3.sep.after l
  exact ⟨gT,t3.next s' l'⟩
 clear t3 a5 bg ay V
 have bf:B7 ((k:Int)*(k:Int))=((k*k:Nat):Int):=by rw [<- aN];exact L6 (by omega)
 rw [bf]
 refine N4 A9v (zx:=Z5) rfl (by omega) (by omega) (by omega) (by omega) ?_
 intro b4 bh
 simp only [aE]
 refine ⟨_,_,_,rfl,fun L hp=>∃ (i:Nat) (g o:aH) (xs:List QV) (A':Option aR) (H:Nat),i<=k/\L=[.slice A' (i*k) H,I (i:Int)]/\h3.le g/\Sep hp g o/\bD o G2 A' H xs/\xs.length=i*k/\Row RQr g xs (i*k) (fun t=>Lw (rvs la) k (t/k) (t%k)),fun L _=>k-(iAt L 1).toNat,
  ⟨0,h3,V7.put b4 _,[],some ⟨b4,0,none⟩,k*k,by omega,by rw [aX];rfl,B5 _,Da bh,Ks,by simp,by rw [aX];exact Row.nil⟩,?_⟩
 rintro vA vn vc z a8 ⟨i,g5,o5,aj,A5,c5,hi,eL,d,s5,ax,Q,a1⟩
 obtain ⟨⟨rfl,rfl,rfl⟩,rfl⟩:=sI2 eL
 refine B8 (fun ap=>?_) (fun ar=>?_)
 ·have Z:i<k:=by omega
  have aq:(i+1)*k=i*k+k:=by rw [aY,bH]
  have bp:(i+1)*k<=k*k:=aF _ Z
  obtain ⟨gT,tT⟩:=G g5 d
  refine s5.call (O5 tT (i:=i) (by omega) ?_)
  intro h6 s6
  have bz:=B0 d s6.le
  rw [e2]
  refine ⟨_,_,_,rfl,⟨by omega,by omega⟩,?_⟩
  simp only [aE,Nat.add_sub_cancel]
  refine ⟨fun L hp=>∃ (j:Nat) (g o:aH) (xs:List QV) (A':Option aR) (H:Nat),j<=k/\L=[.slice A' (i*k+j) H,I (j:Int)]/\g5.le g/\Sep hp g o/\bD o G2 A' H xs/\xs.length=i*k+j/\Row RQr g xs (i*k+j) (fun t=>Lw (rvs la) k (t/k) (t%k)),fun L _=>k-(iAt L 1).toNat,
   ⟨0,g5,o5,aj,_,_,by omega,rfl,B5 _,s6,ax,Q,a1⟩,?_⟩
  rintro qA qn qc z bw ⟨j,g7,o7,ys,A7,c7,hj,eL,B,s7,ao,a,ai⟩
  obtain ⟨⟨rfl,rfl,rfl⟩,rfl⟩:=sI2 eL
  refine B8 (fun bn=>?_) (fun ar=>?_)
  ·have ag:j<k:=by omega
   obtain ⟨bt,ab⟩:=G g7 (B0 d B)
   obtain ⟨wv,zv,c0,c1⟩:=ab.at (i:=i) (j:=k+j) (by omega) (by omega)
   rw [E6,E6,e2] at c0 c1
   have a4:k<T.cE-i*(k+k):=by
    have F:=ab.cE
    rw [e1,e2] at F
    have h2:(i+1)*(k+k)<=k*(k+k):=aF _ Z
    rw [aY,bH] at h2
    omega
   rw [Wc a4]
   have ak:∀ x,aG (aG (aG ⟨T.bE,i*(k+k)*2,none⟩ (k*2)) (j*2)) x=⟨T.bE,i*(k+k)*2+(k+j)*2+x,none⟩:=fun x=>by rw [E6,E6,E6];congr 1;omega
   refine ⟨_,rfl,by omega,by omega,_,_,_,_,by simp only [aE];rw [ak];exact B9 s7.le c0,by simp only [aE];rw [ak];exact B9 s7.le c1,?_⟩
   refine s7.call (T4 (gl.mono (B0 af (B0 d B))).tz (Gn _ _ _ _ ab.sep.le zv) (Gn _ _ _ _ (B0 d B) iw) (ad _ _ (by omega) (by omega)) W (by omega) ?_)
   intro w9 g9 l9 i9 h9 s9
   rw [am i j Z ag] at i9
   refine ⟨_,_,_,_,_,_,_,_,rfl,?_⟩
   refine O3 (ty:=U3) A9v s9 ao a.symm (y:=w9) rfl (by decide) (by rw [a];omega) (by rw [a];omega) ?_
   intro A8 c8 h8 g8 o8 l8 s8 bl _
   rw [a,wiS j (by omega)]
   refine ⟨⟨j+1,g8,o8,_,A8,c8,by omega,by rw [cL],B0 B (B0 l9 l8),s8,bl,by rw [aD,a];rfl,?_⟩,?_⟩
   ·have rB:=Row.push (R:=RQr) (g:=g8) (xs:=ys) (f:=fun t=>Lw (rvs la) k (t/k) (t%k)) (by rw [a];exact ai.mono H1 (B0 l9 l8)) (w:=w9) (by
     show RQ g8 w9 (Lw (rvs la) k (ys.length/k) (ys.length%k))
     rw [a,bU (i*k) j,aO,bB ag,aV _ _ (by omega),bC ag,aT]
     exact H1 _ _ _ _ l8 i9)
    rw [aD,a] at rB
    exact rB
   ·show k-((j+1:Nat):Int).toNat<k-(j:Int).toNat
    omega
  ·have:j=k:=by omega
   subst this
   rw [wiS i (by omega),<- aq]
   rw [<- aq] at a ai
   refine ⟨⟨i+1,g7,o7,ys,qA,qc,by omega,rfl,B0 d B,s7,ao,a,ai⟩,?_⟩
   show j-((i+1:Nat):Int).toNat<j-(i:Int).toNat
   omega
 ·have:i=k:=by omega
  subst this
  have az:=B0 af (B0 d s5.le)
  have a3:aS RQr a8 vA (i*i) (fun t=>Lw (rvs la) i (t/i) (t%i)):=⟨aj,ax.slF s5.ole,Q,a1.mono H1 s5.le⟩
  refine Lp (m:=bb) (gl.mono az) a3 (by omega) (fun t ht=>?_) (by omega) ?_
  ·have F:t/i<i:=aJ ht
   have h2:=bI t (show 0<i by omega)
   rw [<- am _ _ F h2]
   exact U6 ah (ad _ _ (by omega) (by omega)) W
  intro b9 h9 O
  exact ⟨_,_,_,_,_,rfl,ac _ _ h9 (B0 az O.le) (O.vis J5)⟩
end
section
variable {h g o:aH} {wA B:Option aR} {wc be m d:Nat} {hd:List HV} {xs ys:List QV}
def Sep.free(s:Sep h g o){b:Nat}(hb:h b=none):g b=none:=by
 cases hx:g b with
 | none=>rfl
 | some y=>rw [s.le _ _ hx] at hb;cases hb
def Li{α:Type}[E:Enc α]{e:TypeId}{A:Option aR}{c:Nat}{zs:List α}(s:Sep h g o)(w:bD o e A c zs)(hb:h be=none):A≠some ⟨be,0,none⟩:=by
 rcases w.2 with ⟨_,d⟩|⟨b,f,i,a,_⟩
 ·rw [d];simp
 ·rw [i]
  intro e
  simp only [bG,cW,and_true] at e
  subst e
  rw [s.own _ _ a] at hb;cases hb
def A6b(s:Sep h g o)(hb:o be=some (.cells #[] E9))(ow:bD o G7 wA wc hd)(hne:wA≠some ⟨be,0,none⟩)(sx:SlF h B xs)(hx:xs≠[])(hm:m=xs.length)(hl:xs.length<=10000){K:VP}
 (x:∀ A2 c2 h2 g2 o2,g.le g2->Sep h2 g2 o2->bD o2 E9 A2 c2 xs->bD o2 G7 wA wc hd->(∀ b,wA=some ⟨b,0,none⟩->A2≠wA)->K (.slice A2 m c2) h2):wpH prog (cI #[O4,O4] O4 #[.slice (some ⟨be,0,none⟩) 0 0,.slice B m d]) K h:=by
 have t:bD o E9 (some ⟨be,0,none⟩) 0 ([]:List QV):=⟨aC _,.inr ⟨be,[],rfl,hb,by simp,rfl⟩⟩
 refine OwnSl.app (ty:=O4) Sk s t (n:=0) rfl hm hx sx (by simp;omega) (by simp;omega) ?_
 intro A2 c2 h2 g2 o2 r k a q
 rw [List.nil_append] at a
 have j:∀ b y,wA=some ⟨b,0,none⟩->o b=some y->o2 b=some y/\A2≠some ⟨b,0,none⟩:=fun b y e f=>q b y f (fun l=>hne (by rw [e];exact l.symm))
 have:=x A2 c2 h2 g2 o2 r k a (ow.keep fun b y e f=>(j b y e f).1) (fun b e=>by
  rcases ow.2 with ⟨_,p⟩|⟨w,u,c,i,_⟩
  ·rw [p] at e;cases e
  ·rw [c] at e
   simp only [bG,cW,and_true] at e
   subst e
   rw [c]
   exact (j _ _ c i).2)
 simpa using this
def A69{A2:Option aR}{c2 n1 wn:Nat}(s:Sep h g o)(ow2:bD o E9 A2 c2 xs)(ow:bD o G7 wA wc hd)(ha:∀ b,wA=some ⟨b,0,none⟩->A2≠wA)(sy:SlF h B ys)(hy:ys≠[])(hn1:n1=xs.length)(hm:m=ys.length)(hwn:wn=hd.length)(hl:xs.length<=10000)(hl2:ys.length<=10000)(hl3:hd.length<=10000){K:Option aR->Nat->Nat->aH->Prop}
 (x:∀ A3 c3 A9 c9 h9 g9 o9,g.le g9->Sep h9 g9 o9->xs.length+ys.length<=c3->SlF g9 A3 (xs++ys)->bD o9 G7 A9 c9 (hd++[(⟨A3,xs.length+ys.length,c3⟩:HV)])->K A9 (hd.length+1) c9 h9):
 wpH prog (cI #[O4,O4] O4 #[.slice A2 n1 c2,.slice B m d]) (fun v3 hp4=>∃ (a:Option aR) (b c:Nat),v3= .slice a b c/\wpH prog (Instr.buildSlice N9 1 #[(0,.slice a b c)]) (fun v4 hp5=>∃ (a2:Option aR) (b2 c2:Nat),v4= .slice a2 b2 c2/\Heap.le hp4 hp5/\wpH prog (cI #[N9,N9] N9 #[.slice wA wn wc,.slice a2 b2 c2]) (fun v5 hp6=>∃ (a3:Option aR) (b3 c3:Nat),v5= .slice a3 b3 c3/\K a3 b3 c3 hp6) hp5) hp4) h:=by
 subst hwn
 refine OwnSl.app (ty:=O4) Sk s ow2 hn1 hm hy sy (by omega) (by omega) ?_
 intro A3 c3 H S i R F k L
 have D:∀ b y,wA=some ⟨b,0,none⟩->o b=some y->i b=some y/\A3≠some ⟨b,0,none⟩:=fun b y e hy=>L b y hy (fun O=>ha b e (by rw [e];exact O))
 have l:bD i G7 wA wc hd:=ow.keep fun b y e hy=>(D b y e hy).1
 have t:∀ b,wA=some ⟨b,0,none⟩->A3≠wA:=fun b e=>by
  rcases ow.2 with ⟨_,G⟩|⟨V,J,u,n,_⟩
  ·rw [G] at e;cases e
  ·rw [u] at e
   simp only [bG,cW,and_true] at e
   subst e
   rw [u]
   exact (D _ _ u n).2
 obtain ⟨r,N,A⟩:=F.give (B2y i wA)
 have sl:SlF r A3 (xs++ys):=by
  obtain ⟨b3,rfl,E,j,z⟩:=k.rowB (by simp [hy])
  have q:Uu i wA b3=none:=A6l i (fun e=>t b3 e e.symm)
  have p:r b3=some (.cells ((xs++ys).flatMap enc++j).toArray E):=by
   rw [<- A.rest b3 q]
   exact F.own _ _ z
  exact RowB.slF (o:=r) ⟨E,j,p⟩ (B5 _)
 have f:=k.1
 rw [aD] at f
 rw [hm]
 refine ⟨_,_,_,rfl,?_⟩
 refine OwnSl.push (ty:=N9) B9g A l.only (y:=(⟨A3,xs.length+ys.length,c3⟩:HV)) (K1:=fun hp5=>Heap.le H hp5) rfl (by decide) (by omega) (by omega) (fun T Q=>Q) ?_
 intro A9 c9 h9 g9 o9 C M w _
 exact x A3 c3 A9 c9 h9 g9 o9 (B0 R (B0 N C)) M f (sl.mono C) w
end
def B6y(k:Nat):Nat->Nat->Rat:=fun a b=>if a=b/\a<k then 1 else 0
section
variable {h:aH} {K:VP} {A B:Option aR} {n cap m:Nat} {r c:Int} {la:Nat->List UInt8} {E:Nat->Rat}
def B0i(hn:n<=10000)
 (hK:∀ bo h',h.le h'->cD h' (some ⟨bo,0,none⟩) n n (fun a b=>if a=b then 1 else 0)->K (.slice (some ⟨bo,0,none⟩) n n) h'):aU prog Vp #[I (n:Int)] h K:=by
 refine A9l _ ?_
 unfold C35
 refine Gt hn hn ?_
 intro J r A bo F D t1
 refine ⟨_,_,_,rfl,fun L f=>∃ (k:Nat) (g o:aH),k<=n/\L=[I (k:Int)]/\h.le g/\Mt f g o bo F n n (B6y k),fun L _=>n-(iAt L 0).toNat,⟨0,r,A,by omega,rfl,D,t1.congr fun a b _ _=>by unfold B6y;rw [iN (by omega)]⟩,?_⟩
 rintro z f ⟨k,g,o,G,C,m,t⟩
 obtain rfl:=sI1 C
 refine B8 (fun u=>?_) (fun E=>?_)
 ·have c:k<n:=by omega
  obtain ⟨O,B,w⟩:=t.head c
  refine ⟨_,rfl,by omega,by omega,_,_,_,t.sep.cell w,?_⟩
  refine t.sep.call (B2l ⟨by omega,by omega⟩ ?_)
  intro M p d l N j
  have one:((1:Int):Rat)=1:=rfl
  rw [one] at l
  refine ⟨_,_,_,_,_,_,_,_,rfl,t.sep.le_le j d,_,rfl,by omega,by omega,?_⟩
  refine (t.next j d).store c c l ?_
  intro H q s _
  rw [wiS k (by omega)]
  refine ⟨⟨k+1,p,q,by omega,rfl,B0 m d,s.congr fun a b _ _=>?_⟩,by simp only [U7];omega⟩
  unfold A2v B6y
  by_cases e:a=k/\b=k
  ·rw [iP e,iP (by omega)]
  ·rw [iN e]
   by_cases i:a=b/\a<k
   ·rw [iP i,iP (by omega)]
   ·rw [iN i,iN (by omega)]
 ·have:k=n:=by omega
  subst this
  exact hK bo f (B0 m t.sep.le) ((t.rowsV).congr fun a b y _=>by
   unfold B6y
   by_cases e:a=b
   ·rw [iP ⟨e,y⟩,iP e]
   ·rw [iN (fun x=>e x.1),iN e])
def A4d(rs:cD h A n n (mtx E n))(hn1:1<=n)(hn:n<=1000)(hm1:1<=m)(hs:∀ i,i<n*n->Sz m (E i))(hm:7^n*m<=100000000)
 (hK1:Yj E n->∀ A' c' h',h.le h'->cD h' A' n n (Lw E n)->K (.tuple #[.slice A' n c',.bool true]) h')
 (hK0:¬ Yj E n->∀ h',h.le h'->K (.tuple #[.slice none 0 0,.bool false]) h'):aU prog Vq #[.slice A n cap] h K:=by
 refine B1i _ _ _ ?_
 unfold B6c
 refine B0i (by omega) ?_
 intro bu h0 l0 ru
 refine ⟨_,_,_,rfl,?_⟩
 have wM:∀ k,k<n->∀ j,j<n+n->mtx (U2 E n) (n+n) k j=if j<n then mtx E n k j else if j=n+k then 1 else 0:=fun k _ j hj=>A0f E hj
 refine ⟨fun L hp=>∃ (k:Nat) (g o:aH) (D:List HV) (A':Option aR) (c':Nat),k<=n/\L=[.slice A' k c',I (k:Int)]/\h0.le g/\Sep hp g o/\bD o G7 A' c' D/\D.length=k/\Row (RWr (n+n)) g D k (mtx (U2 E n) (n+n)),fun L _=>n-(iAt L 1).toNat,
  ⟨0,h0,V7,[],none,0,by omega,rfl,B5 _,Sep.refl h0,OwnSl.nil,rfl,Row.nil⟩,?_⟩
 rintro wA a wc z hp ⟨k,g,o,D,A',c',hk,eL,M,s,ow,f,rr⟩
 obtain ⟨⟨rfl,rfl,rfl⟩,rfl⟩:=sI2 eL
 refine B8 (fun aj=>?_) (fun ay=>?_)
 ·have u:a<n:=by omega
  obtain ⟨a1,X,ag,f1,f2,ad,xs,sx,R,qx⟩:=(RowsV.mono l0 rs).at u
  obtain ⟨a2,s2,ax,f3,f4,ai,ys,sy,aa,qy⟩:=ru.at u
  have Q:xs≠[]:=by rintro rfl;simp at R;omega
  have V:ys≠[]:=by rintro rfl;simp at aa;omega
  have done:∀ {A3:Option aR} {c3:Nat} {A9:Option aR} {Z:Nat} {h9 N o9:aH},g.le N->Sep h9 N o9->xs.length+ys.length<=c3->SlF N A3 (xs++ys)->bD o9 G7 A9 Z (D++[(⟨A3,xs.length+ys.length,c3⟩:HV)])->
   ((∃ (k:Nat) (g o:aH) (hd':List HV) (A':Option aR) (c':Nat),k<=n/\[Value.slice A9 (D.length+1) Z,I (B7 ((a:Int)+1))]=[.slice A' k c',I (k:Int)]/\h0.le g/\Sep h9 g o/\bD o G7 A' c' hd'/\hd'.length=k/\Row (RWr (n+n)) g hd' k (mtx (U2 E n) (n+n)))/\n-(iAt [Value.slice A9 (D.length+1) Z,I (B7 ((a:Int)+1))] 1).toNat<n-(iAt [Value.slice wA a wc,I (a:Int)] 1).toNat):=by
   intro A3 c3 A9 Z h9 N o9 G s9 B sl r
   rw [f,wiS a (by omega)]
   refine ⟨⟨a+1,N,o9,_,A9,Z,by omega,rfl,B0 M G,s9,r,by rw [aD,f];rfl,?_⟩,?_⟩
   ·have rA:Row (RWr (n+n)) N D D.length (mtx (U2 E n) (n+n)):=by rw [f];exact rr.mono (B0b (n+n)) G
    have rB:=rA.push (w:=(⟨A3,xs.length+ys.length,c3⟩:HV)) (by
     rw [f]
     refine ⟨by rw [R,aa],by rw [R,aa] at B;exact B,xs++ys,sl,by rw [aD,R,aa],?_⟩
     refine Row.app R ((qx.mono R6 (B0 M G)).congr fun j hj=>by rw [wM a u j (by omega),iP hj]) ((qy.mono R6 (B0 M G)).congr fun j hj=>?_)
     rw [wM a u (n+j) (by omega),iN (show ¬ n+j<n by omega)]
     by_cases e:a=j
     ·rw [iP e,iP (by omega)]
     ·rw [iN e,iN (by omega)])
    rw [aD,f] at rB
    exact rB
   ·show n-((a+1:Nat):Int).toNat<n-(a:Int).toNat
    omega
  have S:h0.le hp:=B0 M s.le
  have H:xs.length<=10000:=by omega
  have ae:ys.length<=10000:=by omega
  have af:D.length<=10000:=by omega
  refine ⟨a1,ag,by omega,by omega,_,_,_,B9 S ad,a2,ax,by omega,by omega,?_,?_⟩
  ·refine ⟨_,_,_,B9 S ai,Qm Sk ?_⟩
   intro be C
   have J:=Li s ow C
   have ab:bD (o.put be (.cells #[] E9)) G7 wA wc D:=ow.keep fun b y e hy=>by rw [C0 _ _ (fun e2=>J (by rw [e,e2]))];exact hy
   have F:=s.new C (.cells #[] E9)
   refine ⟨_,_,_,rfl,Heap.le_put _ C,?_⟩
   refine A6b F (C2 _ _ _) ab J (sx.mono (B0 M F.le)) Q (by omega) H ?_
   intro A2 c2 h2 g2 o2 T p W O ha
   exact ⟨_,_,_,rfl,A69 p W O ha (sy.mono (B0 M (B0 T p.le))) V (by omega) (by omega) f.symm H ae af fun A3 c3 A9 Z h9 N o9 G s9 B sl r=>done (B0 T G) s9 B sl r⟩
  ·refine Qm Sk ?_
   intro be C
   have J:=Li s ow C
   have ab:bD (o.put be (.cells #[] E9)) G7 wA wc D:=ow.keep fun b y e hy=>by rw [C0 _ _ (fun e2=>J (by rw [e,e2]))];exact hy
   have F:=s.new C (.cells #[] E9)
   refine ⟨_,_,_,rfl,Heap.le_put _ C,?_,?_⟩
   ·refine ⟨_,_,_,B9 (B0 S (Heap.le_put _ C)) ai,?_⟩
    refine A6b F (C2 _ _ _) ab J (sx.mono (B0 M F.le)) Q (by omega) H ?_
    intro A2 c2 h2 g2 o2 T p W O ha
    exact ⟨_,_,_,rfl,A69 p W O ha (sy.mono (B0 M (B0 T p.le))) V (by omega) (by omega) f.symm H ae af fun A3 c3 A9 Z h9 N o9 G s9 B sl r=>done (B0 T G) s9 B sl r⟩
   ·refine A6b F (C2 _ _ _) ab J (sx.mono (B0 M F.le)) Q (by omega) H ?_
    intro A2 c2 h2 g2 o2 T p W O ha
    exact ⟨_,_,_,rfl,_,_,_,B9 (B0 M (B0 T p.le)) ai,A69 p W O ha (sy.mono (B0 M (B0 T p.le))) V (by omega) (by omega) f.symm H ae af fun A3 c3 A9 Z h9 N o9 G s9 B sl r=>done (B0 T G) s9 B sl r⟩
 have u:a=n:=by omega
 subst u
 have aw:cD hp wA a (a+a) (mtx (U2 E a) (a+a)):=RowsV.of ⟨D,ow.slF s.ole,f,rr.mono (B0b (a+a)) s.le⟩
 have av:=A8d (A0e hm1 hs)
 have S:h.le hp:=B0 l0 (B0 M s.le)
 refine A1f (m:=m) aw hn1 (by omega) (by omega) (by omega) (by omega) hm1 av hm ?_
 intro h2 g2 o2 bo a3 c2 A2 ar wd T t ao ap iq
 refine ⟨_,_,_,_,_,_,_,_,_,_,_,_,_,_,rfl,?_⟩
 have az:(ecE (mtx (U2 E a) (a+a)) a a).cs.length<=a:=(A22 _ a a).1
 have an:Yj E a↔(ecE (mtx (U2 E a) (a+a)) a a).cs.length=a:=Iff.rfl
 have au:=t.rowsV
 have lh:=B0 S (B0 T t.sep.le)
 refine B8 (fun aj=>hK0 (fun hx=>by have:=an.1 hx;omega) _ lh) (fun ay=>?_)
 have aq:=hK1 (an.2 (by omega))
 clear t ao ap iq
 refine ⟨fun L hp=>∃ (k:Nat) (g o:aH) (D:List HV) (A':Option aR) (c':Nat),k<=a/\L=[.slice A' k c',I (k:Int)]/\h2.le g/\Sep hp g o/\bD o G7 A' c' D/\D.length=k/\Row (RWr a) g D k (Lw E a),fun L _=>a-(iAt L 1).toNat,
  ⟨0,h2,V7,[],none,0,by omega,rfl,B5 _,Sep.refl h2,OwnSl.nil,rfl,Row.nil⟩,?_⟩
 rintro vA vn vc z q ⟨k,g5,o5,ah,A',c',hk,eL,ac,s5,al,d,am⟩
 obtain ⟨⟨rfl,rfl,rfl⟩,rfl⟩:=sI2 eL
 refine B8 (fun aj=>?_) (fun a0=>?_)
 ·have u:vn<a:=by omega
  obtain ⟨a1,X,ag,f1,f2,ad,ak⟩:=au.at u
  refine ⟨a1,ag,by omega,by omega,_,_,_,B9 (B0 ac s5.le) ad,⟨by omega,by omega⟩,?_⟩
  simp only [aE]
  rw [f1]
  have ep:a+a-a=a:=by omega
  rw [ep]
  have cut:aS NQr h2 (I5 X.A X.c a 4) a (Lw E a vn):=by
   obtain ⟨xs,sx,hx,rx⟩:=ak
   refine ⟨(xs.drop a).take (a+a-a),sx.cut (l:=a) (m:=a+a) (by omega) (by omega) (by omega),by simp;omega,fun i hi=>?_⟩
   obtain ⟨w,e1,hw⟩:=rx (a+i) (by omega)
   exact ⟨w,by rw [List.getElem?_take,iP (by omega),List.getElem?_drop];exact e1,hw⟩
  refine O3 (ty:=N9) B9g s5 al d.symm (y:=(⟨I5 X.A X.c a 4,a,X.c-a⟩:HV)) rfl (by decide) (by rw [d];omega) (by rw [d];omega) ?_
  intro A9 Z h9 N o9 G s9 r _
  rw [d,wiS vn (by omega)]
  refine ⟨⟨vn+1,N,o9,_,A9,Z,by omega,rfl,B0 ac G,s9,r,by rw [aD,d];rfl,?_⟩,?_⟩
  ·have rA:Row (RWr a) N ah ah.length (Lw E a):=by rw [d];exact am.mono (B0b a) G
   have rB:=rA.push (w:=(⟨I5 X.A X.c a 4,a,X.c-a⟩:HV)) (by
    rw [d]
    exact ⟨rfl,by show a<=X.c-a;omega,cut.mono R6 (B0 ac G)⟩)
   rw [aD,d] at rB
   exact rB
  ·show a-((vn+1:Nat):Int).toNat<a-(vn:Int).toNat
   omega
 ·have:vn=a:=by omega
  subst this
  exact aq vA vc q (B0 lh (B0 ac s5.le)) (RowsV.of ⟨ah,al.slF s5.ole,d,am.mono (B0b vn) s5.le⟩)
end
def B3j{E:Nat->Rat}{n m:Nat}(hm:1<=m)(hs:∀ i,i<n*n->Sz m (E i))(h:Yj E n):∀ i j,i<n->j<n->Sz (3^n*bnd (n+n) m) (Lw E n i j):=by
 intro i j d f
 have b:=B45 (E:=U2 E n) (rows:=n) (cols:=n+n) (c:=n) (A0e hm hs) (by omega)
 have a:=A8z (U2 E n) n (n+n) n (bnd (n+n) m)
 have e:(elE (U2 E n) n (n+n) n).cs.length=n:=h
 have ev:=C06 (U2 E n) (rows:=n) (cols:=n+n) (c:=n) (by omega) d (show n+j<n+n by omega) (.inl (by omega))
 show Sz _ ((elE (U2 E n) n (n+n) n).R i (n+j))
 rw [<- ev]
 exact (U6 (B47 _ _ _ _) (b.M i (n+j) d (by omega)) b.last).mono a
section
variable {h:aH} {K:VP} {A:Option aR} {n ac N cap:Nat} {r c:Int} {la:Nat->List UInt8}
end
section
variable {h:aH} {A:Option aR} {n cap:Nat} {r c:Int} {ls:Nat->List UInt8}
end
def B3q(M:Nat->Nat->Rat){w i j:Nat}(hj:j<w):mtx (rvs (Gs M w)) w i j=M i j:=by
 obtain ⟨a,b⟩:=A4j (i:=i) hj
 show rv (K4 (M ((i*w+j)/w) ((i*w+j)%w)))=_
 rw [In,a,b]
def B7z{M:Nat->Nat->Rat}{q:Nat}{r:Int}(hr:r=q)(h1:1<=q)(h2:q<=64):MOk r r (q*q) (Gs M q) q q:=⟨hr,hr,h1,h2,h1,h2,rfl,fun _ _=>⟨_,rfl⟩⟩
def A1e{M:Nat->Nat->Rat}{q m:Nat}(hq:1<=q)(hs:∀ i j,i<q->j<q->Sz m (M i j)):∀ i,i<q*q->Sz m (rv (Gs M q i)):=by
 intro i a
 show Sz m (rv (K4 _))
 rw [In]
 exact hs _ _ (aJ a) (bI i (by omega))
def B3r{M:Nat->Nat->Rat}{q m:Nat}(hq:1<=q)(hs:∀ i j,i<q->j<q->Sz m (M i j)):∀ i,i<q*q->(Gs M q i).length<=2*m+4:=by
 intro i a
 exact A0g (hs _ _ (aJ a) (bI i (by omega)))
section
variable {h:aH} {K:VP} {A:Option aR} {n cap m:Nat} {r c:Int} {la:Nat->List UInt8}
end
def B9i{w m m2:Nat}{f f2:Nat->Rat}(hs:∀ i,i<w->Sz m (f i))(hs2:∀ i,i<w->Sz m2 (f2 i)):∀ k,k<=w->Sz (1+k*(m+m2+1)) (sm k (fun j=>f j*f2 j)):=by
 intro k
 induction k with
 | zero=>intro _;exact Sz.zero (by omega)
 | succ k ih=>
  intro c
  have b:=ih (by omega)
  have a:=(hs k (by omega)).mul (hs2 k (by omega))
  have e:1+(k+1)*(m+m2+1)=1+k*(m+m2+1)+(m+m2)+1:=by rw [aY];omega
  rw [e]
  exact b.add a
section
variable {h:aH} {K:VP} {A B lA cA:Option aR} {n ln lc cn cc cap cap2 m m2:Nat} {ls cs:Nat->List UInt8} {R:Nat->Nat->Rat} {f:Nat->Rat}
def B0f(rs:cD h A n n R)(rx:aS NQr h B n f)(hn:n<=64)(hs:∀ i j,i<n->j<n->Sz m (R i j))(hs2:∀ i,i<n->Sz m2 (f i))(hmm:m<=m2)(hm:1+n*(2*(1+n*(m+m2+1))+1)+2*(1+n*(m+m2+1))<=400000000)(hm0:1+n*(2*m2+1)+2*m2<=400000000)(hn1:1<=n)
 (hK:∀ v h',h.le h'->NQ h' v (qf n R f)->K v.v h'):aU prog A70 #[.slice A n cap,.slice B n cap2] h K:=by
 refine B94 _ _ _ _ _ _ ?_
 unfold C56
 refine B3v (m:=m2) rs rx (by omega) (by omega) (fun i j a d=>(hs i j a d).mono hmm) hs2 hm0 ?_
 intro b o own
 refine ⟨_,_,_,rfl,?_⟩
 have g:n*1<=n*(m+m2+1):=Nat.mul_le_mul_left _ (by omega)
 have c:m2<=1+n*(m+m2+1):=by
  have:1*(m+m2+1)<=n*(m+m2+1):=aF _ hn1
  omega
 refine A4e (m:=1+n*(m+m2+1)) (rx.mono R6 own.le) (own.vis R6) (by omega) (fun i a=>(hs2 i a).mono c) (fun i a=>B9i (fun j d=>hs i j a d) hs2 n (aC _)) hm ?_
 intro v l k e
 exact ⟨_,_,_,_,_,_,_,_,rfl,hK v l (B0 own.le k) e⟩
end
end Go.Proofs.YtmbfcbbkbefgfaaGreatDoor
namespace Go.Proofs.YtmbfcbbkbefgfaaGreatDoor
set_option maxRecDepth 20000
def B7a{k a:Nat}(ha:a<=k)(t:Nat->Rat):sm (k+1) t=t a+sm k (fun i=>t (rhx a i)):=by
 rw [B9j ha]
 have e:sm (k+1) t=sm (k+1) (fun i=>if i=a then t a else 0)+sm (k+1) (fun i=>if i=a then 0 else t i):=by
  rw [<- Ba]
  refine D0 fun i _=>?_
  by_cases c:i=a
  ·rw [iP c,iP c,c,aM]
  ·rw [iN c,iN c,Rat.zero_add]
 rw [e,Nt (show a<k+1 by omega) fun i _ c=>iN c,iP rfl]
def C1w:∀ (L:List (Nat->Rat)) (n:Nat),L.length<n->∃ x:Nat->Rat,(∃ j,j<n/\x j≠0)/\∀ f∈L,sm n (fun j=>f j*x j)=0:=by
 intro L
 generalize hm:L.length=m
 induction m generalizing L with
 | zero=>
  intro n u
  have:L=[]:=List.length_eq_zero_iff.1 hm
  subst this
  exact ⟨fun _=>1,⟨0,u,by decide +kernel⟩,fun f C=>by cases C⟩
 | succ m ih=>
  intro n u
  match L,hm with
  | f::L,hm=>
   have s:L.length=m:=by simpa using hm
   by_cases h:∀ j,j<n->f j=0
   ·obtain ⟨x,z,o⟩:=ih L s n (by omega)
    refine ⟨x,z,fun g r=>?_⟩
    rcases List.mem_cons.1 r with e|e
    ·rw [e];exact Il fun j d=>by rw [h j d,aW]
    ·exact o g e
   ·have:∃ a,a<n/\f a≠0:=aP fun c=>h fun j d=>aP fun w=>c ⟨j,d,w⟩
    obtain ⟨a,E,D⟩:=this
    obtain ⟨k,rfl⟩:∃ k,n=k+1:=⟨n-1,by omega⟩
    obtain ⟨y,⟨j,d,B⟩,o⟩:=ih (L.map fun g=>fun j=>g (rhx a j)-g a/f a*f (rhx a j)) (by simpa using s) k (by omega)
    have l:∀ i,(if rhx a i<a then rhx a i else rhx a i-1)=i:=fun i=>by unfold rhx;repeat' split
                                                                       all_goals omega
    refine ⟨fun b=>if b=a then-(sm k (fun i=>f (rhx a i)*y i)/f a) else y (if b<a then b else b-1),⟨rhx a j,A3o d,?_⟩,fun g r=>?_⟩
    ·show (if rhx a j=a then _ else _)≠(0:Rat)
     rw [iN (B2h a j),l];exact B
    ·rw [B7a (show a<=k by omega)]
     have p:sm k (fun i=>g (rhx a i)*(if rhx a i=a then-(sm k (fun i=>f (rhx a i)*y i)/f a) else y (if rhx a i<a then rhx a i else rhx a i-1)))=sm k (fun i=>g (rhx a i)*y i):=D0 fun i _=>by rw [iN (B2h a i),l]
     show g a*(if a=a then _ else _)+sm k (fun i=>g (rhx a i)*(if rhx a i=a then _ else _))=0
     rw [iP rfl,p]
     rcases List.mem_cons.1 r with e|e
     ·rw [e]
      generalize sm k (fun i=>f (rhx a i)*y i)=q
      clear p h ih o
      grind
     ·have A:=o _ (List.mem_map.2 ⟨g,e,rfl⟩)
      have t:sm k (fun i=>(g (rhx a i)-g a/f a*f (rhx a i))*y i)=sm k (fun i=>g (rhx a i)*y i)-g a/f a*sm k (fun i=>f (rhx a i)*y i):=by
       rw [bZ,<- Ez,<- Nu,<- Ba]
       exact D0 fun i _=>by grind
      rw [t] at A
      generalize sm k (fun i=>f (rhx a i)*y i)=q at *
      generalize sm k (fun i=>g (rhx a i)*y i)=q' at *
      clear p h ih o t
      grind
def A3h{n:Nat}{f:Nat->Rat}(h:∀ i,i<n->0<=f i):0<=sm n f:=by
 induction n with
 | zero=>exact Rat.le_refl
 | succ n ih=>
  show 0<=sm n f+f n
  have a:=ih fun i c=>h i (by omega)
  have b:=h n (by omega)
  grind
def Xn{n:Nat}{f:Nat->Rat}(h:∀ i,i<n->0<=f i)(hz:sm n f<=0):∀ i,i<n->f i=0:=by
 induction n with
 | zero=>intro i a;omega
 | succ n ih=>
  have e:sm (n+1) f=sm n f+f n:=rfl
  rw [e] at hz
  have d:=A3h fun i (a:i<n)=>h i (by omega)
  have b:=h n (by omega)
  intro i a
  by_cases c:i=n
  ·rw [c];grind
  ·exact ih (fun i a=>h i (by omega)) (by grind) i (by omega)
def A3g(q:Rat):0<=q*q:=by
 rcases Rat.le_total (a:=0) (b:=q) with h|h
 ·exact cJ h h
 ·have c:0 <= -q:=by grind
  have:=cJ c c
  grind
def C1h{q:Rat}(h:q*q=0):q=0:=by
 rcases Rat.mul_eq_zero.1 h with e|e<;>exact e
def ev(n:Nat)(f x:Nat->Rat):Rat:=sm n fun j=>f j*x j
structure Diag (n:Nat) (A:Nat->Nat->Rat) (d:Nat->Rat) (F:Nat->Nat->Rat):Prop where
 val:∀ x,qf n A x=sm n fun m=>d m*(ev n (F m) x*ev n (F m) x)
 inj:∀ x,(∀ m,m<n->ev n (F m) x=0)->∀ j,j<n->x j=0
def Bl(d:Nat->Rat):Nat->Nat
 | 0=>0
 | n+1=>Bl d n+if 0<d n then 1 else 0
def Ej(d:Nat->Rat):Nat->Nat
 | 0=>0
 | n+1=>Ej d n+if d n<0 then 1 else 0
def Uv(d:Nat->Rat):Nat->Nat
 | 0=>0
 | n+1=>Uv d n+if d n=0 then 1 else 0
def C5j(d:Nat->Rat):∀ n,Bl d n+Uv d n+Ej d n=n:=by
 intro n
 induction n with
 | zero=>rfl
 | succ n ih=>
  show Bl d n+(if 0<d n then 1 else 0)+(Uv d n+if d n=0 then 1 else 0)+(Ej d n+if d n<0 then 1 else 0)=n+1
  have:(if 0<d n then 1 else 0)+(if d n=0 then 1 else 0)+(if d n<0 then 1 else 0)=1:=by
   by_cases a:0<d n
   ·rw [iP a,iN (by grind),iN (by grind)]
   ·by_cases b:d n=0
    ·rw [iN a,iP b,iN (by grind)]
    ·rw [iN a,iN b,iP (by grind)]
  omega
def B32(d:Nat->Rat):∀ n,Ej d n=Bl (fun m=> - d m) n:=by
 intro n
 induction n with
 | zero=>rfl
 | succ n ih=>
  show Ej d n+(if d n<0 then 1 else 0)=Bl (fun m=> - d m) n+if 0 < - d n then 1 else 0
  rw [ih]
  congr 1
  by_cases a:d n<0
  ·rw [iP a,iP (by grind)]
  ·rw [iN a,iN (by grind)]
def A8l(d:Nat->Rat):∀ n,((cU n).filter fun m=>decide (0<d m)).length=Bl d n/\((cU n).filter fun m=>decide (¬ 0<d m)).length+Bl d n=n:=by
 intro n
 induction n with
 | zero=>exact ⟨rfl,rfl⟩
 | succ n ih=>
  rw [List.range_succ,List.filter_append,List.filter_append,aD,aD]
  show _=Bl d n+(if 0<d n then 1 else 0)/\_+(Bl d n+if 0<d n then 1 else 0)=n+1
  by_cases a:0<d n
  ·simp only [List.filter_cons,a,decide_true,not_true_eq_false,decide_false,List.filter_nil,if_true,List.length_cons,cH]
   simp only [Bool.false_eq_true,if_false,cH]
   omega
  ·simp only [List.filter_cons,a,decide_false,not_false_eq_true,decide_true,List.filter_nil,if_true,List.length_cons,cH]
   simp only [Bool.false_eq_true,if_false,cH]
   omega
def Diag.pos_le{n:Nat}{A:Nat->Nat->Rat}{d d':Nat->Rat}{F F':Nat->Nat->Rat}(D:Diag n A d F)(D':Diag n A d' F'):Bl d n<=Bl d' n:=by
 refine aP fun i=>?_
 have q:=(A8l d n).2
 have r:=(A8l d' n).1
 obtain ⟨x,⟨j,l,p⟩,h⟩:=C1w (((cU n).filter fun m=>decide (¬ 0<d m)).map F++((cU n).filter fun m=>decide (0<d' m)).map F') n (by
  rw [aD,List.length_map,List.length_map];omega)
 have g:∀ m,m<n->¬ 0<d m->ev n (F m) x=0:=fun m a b=>h (F m) (List.mem_append.2 (.inl (List.mem_map.2 ⟨m,List.mem_filter.2 ⟨List.mem_range.2 a,decide_eq_true b⟩,rfl⟩)))
 have o:∀ m,m<n->0<d' m->ev n (F' m) x=0:=fun m a b=>h (F' m) (List.mem_append.2 (.inr (List.mem_map.2 ⟨m,List.mem_filter.2 ⟨List.mem_range.2 a,decide_eq_true b⟩,rfl⟩)))
 have k:∀ m,m<n->0<=d m*(ev n (F m) x*ev n (F m) x):=fun m a=>by
  by_cases c:0<d m
  ·exact cJ (by grind) (A3g _)
  ·rw [g m a c];grind
 have f:qf n A x<=0:=by
  rw [D'.val]
  have:0<=sm n fun m=> - (d' m*(ev n (F' m) x*ev n (F' m) x)):=A3h fun m a=>by
   by_cases c:0<d' m
   ·rw [o m a c];grind
   ·have:=cJ (show 0 <= - d' m by grind) (A3g (ev n (F' m) x))
    grind
  rw [Nu] at this
  grind
 rw [D.val] at f
 have z:=Xn k f
 refine p (D.inj x (fun m a=>?_) j l)
 by_cases c:0<d m
 ·refine C1h ?_
  rcases Rat.mul_eq_zero.1 (z m a) with e|e
  ·rw [e] at c;exact absurd c (by decide +kernel)
  ·exact e
 ·exact g m a c
def Diag.neg{n:Nat}{A:Nat->Nat->Rat}{d:Nat->Rat}{F:Nat->Nat->Rat}(D:Diag n A d F):Diag n (fun i j=> - A i j) (fun m=> - d m) F:=by
 refine ⟨fun x=>?_,D.inj⟩
 have e:qf n (fun i j=> - A i j) x= - qf n A x:=by
  unfold qf
  rw [<- Nu]
  refine D0 fun i _=>?_
  rw [show (sm n fun j=> - A i j*x j)= - sm n (fun j=>A i j*x j) by rw [<- Nu];exact D0 fun j _=>by grind]
  grind
 rw [e,D.val,<- Nu]
 exact D0 fun m _=>by grind
def Diag.same{n:Nat}{A:Nat->Nat->Rat}{d d':Nat->Rat}{F F':Nat->Nat->Rat}(D:Diag n A d F)(D':Diag n A d' F'):Bl d n=Bl d' n/\Uv d n=Uv d' n/\Ej d n=Ej d' n:=by
 have b:=Nat.le_antisymm (D.pos_le D') (D'.pos_le D)
 have a:=Nat.le_antisymm (D.neg.pos_le D'.neg) (D'.neg.pos_le D.neg)
 rw [<- B32,<- B32] at a
 have:=C5j d n
 have:=C5j d' n
 omega
structure PD (n k:Nat) (A0:Nat->Nat->Rat) (d:Nat->Rat) (F A:Nat->Nat->Rat):Prop where
 val:∀ x,qf n A0 x=sm k (fun m=>d m*(ev n (F m) x*ev n (F m) x))+qf n A (fun i=>ev n (F i) x)
 inj:∀ x,(∀ m,m<n->ev n (F m) x=0)->∀ j,j<n->x j=0
 zero:∀ i j,i<n->j<n->i<k\/j<k->A i j=0
 symm:A5r n A
def B43{n:Nat}{i:Nat}(hi:i<n)(x:Nat->Rat):ev n (fun j=>if j=i then 1 else 0) x=x i:=by
 show (sm n fun j=>(if j=i then (1:Rat) else 0)*x j)=x i
 rw [Nt hi fun j _ c=>by rw [iN c,aW],iP rfl,cQ]
def PD.start{n:Nat}{A:Nat->Nat->Rat}(d:Nat->Rat)(hs:A5r n A):PD n 0 A d (fun i j=>if j=i then 1 else 0) A:=by
 refine ⟨fun x=>?_,fun x h j a=>?_,fun i j _ _ h=>by omega,hs⟩
 ·show _=0+_
  rw [Rat.zero_add]
  exact B7l (fun _ _ _ _=>rfl) fun i b=>(B43 b x).symm
 ·have:=h j a
  rwa [B43 a] at this
def PD.adv{n k:Nat}{A0 F A:Nat->Nat->Rat}{d:Nat->Rat}(h:PD n k A0 d F A)(hk:k<n)(hne:A k k≠0):
 PD n (k+1) A0 (fun m=>if m=k then A k k else d m) (fun m=>if m=k then (fun j=>sm n fun i=>A i k/A k k*F i j) else F m) (fun i j=>A i j-A i k*(A k j/A k k)):=by
 have p:∀ x,ev n (fun j=>sm n fun i=>A i k/A k k*F i j) x=sm n fun i=>A i k/A k k*ev n (F i) x:=fun x=>by
  unfold ev
  rw [D0 (n:=n) (f:=fun i=>A i k/A k k*sm n fun j=>F i j*x j) fun i _=>(Ez n _ _).symm,A65]
  refine D0 fun j _=>?_
  rw [cG,<- Ez]
  exact D0 fun i _=>by grind
 refine ⟨fun x=>?_,fun x u j b=>?_,fun i j g b c=>?_,fun i j g b=>?_⟩
 ·rw [h.val x]
  show _=sm k (fun m=>(if m=k then A k k else d m)*(ev n (if m=k then _ else F m) x*ev n (if m=k then _ else F m) x))+(if k=k then A k k else d k)*(ev n (if k=k then _ else F k) x*ev n (if k=k then _ else F k) x)+qf n _ (fun i=>ev n (if i=k then _ else F i) x)
  rw [iP rfl,iP rfl,p x,Rat.add_assoc]
  have E:sm k (fun m=>d m*(ev n (F m) x*ev n (F m) x))=sm k (fun m=>(if m=k then A k k else d m)*(ev n (if m=k then (fun j=>sm n fun i=>A i k/A k k*F i j) else F m) x*ev n (if m=k then (fun j=>sm n fun i=>A i k/A k k*F i j) else F m) x)):=D0 fun m t=>by rw [iN (show m≠k by omega),iN (show m≠k by omega)]
  rw [<- E]
  congr 1
  have o:∀ i,i<n->A i k-A i k*(A k k/A k k)=0:=fun i _=>by grind
  have r:∀ j,j<n->A k j-A k k*(A k j/A k k)=0:=fun j _=>by grind
  have w:qf n (fun i j=>A i j-A i k*(A k j/A k k)) (fun i=>ev n (if i=k then (fun j=>sm n fun i=>A i k/A k k*F i j) else F i) x)=qf n (fun i j=>A i j-A i k*(A k j/A k k)) (fun i=>ev n (F i) x):=by
   unfold qf
   refine D0 fun i g=>?_
   have l:(sm n fun j=>(A i j-A i k*(A k j/A k k))*ev n (if j=k then (fun j=>sm n fun i=>A i k/A k k*F i j) else F j) x)=sm n fun j=>(A i j-A i k*(A k j/A k k))*ev n (F j) x:=by
    refine D0 fun j b=>?_
    by_cases c:j=k
    ·rw [c,o i g,aW,aW]
    ·rw [iN c]
   rw [l]
   by_cases c:i=k
   ·have y:(sm n fun j=>(A k j-A k k*(A k j/A k k))*ev n (F j) x)=0:=Il fun j b=>by rw [r j b,aW]
    rw [c]
    show _*(sm n fun j=>(A k j-A k k*(A k j/A k k))*ev n (F j) x)=_*(sm n fun j=>(A k j-A k k*(A k j/A k k))*ev n (F j) x)
    rw [y,bJ,bJ]
   ·show ev n (if i=k then _ else F i) x*_=ev n (F i) x*_
    rw [iN c]
  rw [w]
  have s:∀ T:Nat->Rat,qf n A T=A k k*((sm n fun i=>A i k/A k k*T i)*sm n fun i=>A i k/A k k*T i)+qf n (fun i j=>A i j-A i k*(A k j/A k k)) T:=fun T=>by
   unfold qf
   have z:(sm n fun i=>T i*sm n fun j=>A i j*T j)=sm n fun i=>(T i*A i k)*(sm n fun j=>A k j/A k k*T j)+T i*sm n fun j=>(A i j-A i k*(A k j/A k k))*T j:=by
    refine D0 fun i g=>?_
    have:(sm n fun j=>A i j*T j)=A i k*(sm n fun j=>A k j/A k k*T j)+sm n fun j=>(A i j-A i k*(A k j/A k k))*T j:=by
     rw [<- Ez,<- Ba]
     exact D0 fun j _=>by grind
    rw [this,Rat.mul_add]
    congr 1
    grind
   rw [z,Ba]
   congr 1
   have B:(sm n fun j=>A k j/A k k*T j)=sm n fun i=>A i k/A k k*T i:=D0 fun j b=>by rw [h.symm k j hk b]
   rw [B]
   have G:∀ q,(sm n fun i=>T i*A i k*q)=A k k*(q*sm n fun i=>A i k/A k k*T i):=fun q=>by
    rw [<- Rat.mul_assoc,<- Ez]
    exact D0 fun i _=>by grind
   exact G _
  exact s _
 ·refine h.inj x (fun m t=>?_) j b
  have a:∀ m,m<n->m≠k->ev n (F m) x=0:=fun m t c=>by
   have:=u m t
   rwa [iN c] at this
  by_cases c:m=k
  ·have:=u k hk
   rw [iP rfl,p,Nt hk fun i g c=>by rw [a i g c,bJ]] at this
   rw [c]
   grind
  ·exact a m t c
 ·by_cases e:i=k
  ·rw [e];grind
  ·by_cases D:j=k
   ·rw [D];grind
   ·rw [h.zero i j g b (by omega)]
    by_cases C:i<k
    ·rw [h.zero i k g hk (.inl C)];grind
    ·rw [h.zero k j hk b (.inr (by omega))];grind
 ·rw [h.symm i j g b,h.symm i k g hk,h.symm k j hk b];grind
def PD.skip{n k:Nat}{A0 F A:Nat->Nat->Rat}{d:Nat->Rat}(h:PD n k A0 d F A)(hz:∀ j,j<n->A k j=0)(hk:k<n):PD n (k+1) A0 (fun m=>if m=k then 0 else d m) F A:=by
 refine ⟨fun x=>?_,h.inj,fun i j a b c=>?_,h.symm⟩
 ·rw [h.val x]
  show _=sm k (fun m=>(if m=k then 0 else d m)*(ev n (F m) x*ev n (F m) x))+(if k=k then (0:Rat) else d k)*(ev n (F k) x*ev n (F k) x)+qf n A _
  have g:sm k (fun m=>d m*(ev n (F m) x*ev n (F m) x))=sm k (fun m=>(if m=k then (0:Rat) else d m)*(ev n (F m) x*ev n (F m) x)):=D0 fun m l=>by rw [iN (show m≠k by omega)]
  rw [iP rfl,<- g,aW,aM]
 ·by_cases e:i=k
  ·rw [e];exact hz j b
  ·by_cases f:j=k
   ·rw [f,h.symm i k a hk];exact hz i a
   ·exact h.zero i j a b (by omega)
def PD.done{n k:Nat}{A0 F A:Nat->Nat->Rat}{d:Nat->Rat}(h:PD n k A0 d F A)(hk:k<=n)(hz:∀ i j,i<n->j<n->A i j=0):Diag n A0 (fun m=>if m<k then d m else 0) F:=by
 refine ⟨fun x=>?_,h.inj⟩
 rw [h.val x]
 have b:qf n A (fun i=>ev n (F i) x)=0:=Il fun i e=>by
  rw [Il fun j a=>by rw [hz i j e a,aW],bJ]
 rw [b,aM]
 have c:∀ j,k+j<=n->sm k (fun m=>d m*(ev n (F m) x*ev n (F m) x))=sm (k+j) fun m=>(if m<k then d m else 0)*(ev n (F m) x*ev n (F m) x):=by
  intro j
  induction j with
  | zero=>exact fun _=>D0 fun m f=>by rw [iP f]
  | succ j ih=>
   intro a
   rw [ih (by omega)]
   show _=sm (k+j) _+(if k+j<k then d (k+j) else 0)*_
   rw [iN (by omega),aW,aM]
 have:=c (n-k) (by omega)
 rwa [show k+(n-k)=n by omega] at this
def B9h{n a b:Nat}(ha:a<n)(hb:b<n)(f:Nat->Rat):sm n (fun i=>f (xch a b i))=sm n f:=by
 by_cases d:a=b
 ·refine D0 fun i _=>?_
  unfold xch
  split
  ·rename_i c;rw [c,d]
  ·split
   ·rename_i c;rw [c,d]
   ·rfl
 ·have e:sm n (fun i=>f (xch a b i))=sm n (fun i=>f i+((if i=a then f b-f a else 0)+if i=b then f a-f b else 0)):=by
   refine D0 fun i _=>?_
   unfold xch
   by_cases c:i=a
   ·rw [iP c,iP c,iN (by omega),c];grind
   ·rw [iN c,iN c]
    by_cases g:i=b
    ·rw [iP g,iP g,g];grind
    ·rw [iN g,iN g];grind
  rw [e,Ba,Ba,Nt ha fun i _ c=>iN c,Nt hb fun i _ c=>iN c,iP rfl,iP rfl]
  grind
def PD.swap{n k a b:Nat}{A0 F A:Nat->Nat->Rat}{d:Nat->Rat}(h:PD n k A0 d F A)(ha:a<n)(hb:b<n)(hka:k<=a)(hkb:k<=b):PD n k A0 d (fun m=>F (xch a b m)) (fun i j=>A (xch a b i) (xch a b j)):=by
 have e:∀ m,m<k->xch a b m=m:=fun m g=>by unfold xch;rw [iN (by omega),iN (by omega)]
 refine ⟨fun x=>?_,fun x o j f=>h.inj x (fun m g=>?_) j f,fun i j l f c=>h.zero _ _ (R8 ha hb l) (R8 ha hb f) ?_,fun i j l f=>h.symm _ _ (R8 ha hb l) (R8 ha hb f)⟩
 ·have p:sm k (fun m=>d m*(ev n (F m) x*ev n (F m) x))=sm k (fun m=>d m*(ev n (F (xch a b m)) x*ev n (F (xch a b m)) x)):=D0 fun m g=>by rw [e m g]
  rw [h.val x,p]
  congr 1
  unfold qf
  rw [<- B9h ha hb (fun i=>ev n (F i) x*sm n fun j=>A i j*ev n (F j) x)]
  refine D0 fun i _=>?_
  show _=_*sm n fun j=>A (xch a b i) (xch a b j)*ev n (F (xch a b j)) x
  rw [B9h ha hb (fun j=>A (xch a b i) j*ev n (F j) x)]
 ·have:=o (xch a b m) (R8 ha hb g)
  rwa [A5u] at this
 ·rcases c with c|c
  ·rw [e i c];exact .inl c
  ·rw [e j c];exact .inr c
def Hu(a b:Nat)(A:Nat->Nat->Rat):Nat->Nat->Rat:=fun i j=>A i j+(if i=a then A b j else 0)+(if j=a then A i b+(if i=a then A b b else 0) else 0)
def PD.merge{n k a b:Nat}{A0 F A:Nat->Nat->Rat}{d:Nat->Rat}(h:PD n k A0 d F A)(ha:a<n)(hb:b<n)(hka:k<=a)(hkb:k<=b)(hab:a≠b):PD n k A0 d (fun m=>if m=b then (fun j=>F b j-F a j) else F m) (Hu a b A):=by
 have q:∀ x,ev n (fun j=>F b j-F a j) x=ev n (F b) x-ev n (F a) x:=fun x=>by
  unfold ev
  rw [bZ,<- Nu,<- Ba]
  exact D0 fun j _=>by grind
 have key:∀ (T:Nat->Rat) (c:Nat->Rat),(sm n fun j=>(c j+if j=a then c b else 0)*(if j=b then T b-T a else T j))=sm n fun j=>c j*T j:=fun T c=>by
  have e:(sm n fun j=>(c j+if j=a then c b else 0)*(if j=b then T b-T a else T j))=sm n (fun j=>c j*T j+((if j=a then c b*T a else 0)+if j=b then-(c b*T a) else 0)):=by
   refine D0 fun j _=>?_
   by_cases f:j=a
   ·rw [iP f,iN (by omega),iP f,iN (by omega),f];grind
   ·rw [iN f,iN f]
    by_cases o:j=b
    ·rw [iP o,iP o,o];grind
    ·rw [iN o,iN o];grind
  rw [e,Ba,Ba,Nt ha fun i _ c=>iN c,Nt hb fun i _ c=>iN c,iP rfl,iP rfl]
  grind
 refine ⟨fun x=>?_,fun x s j g=>h.inj x (fun m t=>?_) j g,fun i j p g c=>?_,fun i j p g=>?_⟩
 ·have w:sm k (fun m=>d m*(ev n (F m) x*ev n (F m) x))=sm k (fun m=>d m*(ev n (if m=b then (fun j=>F b j-F a j) else F m) x*ev n (if m=b then (fun j=>F b j-F a j) else F m) x)):=D0 fun m t=>by rw [iN (show m≠b by omega)]
  rw [h.val x,w]
  congr 1
  have f:(fun i=>ev n (if i=b then (fun j=>F b j-F a j) else F i) x)=fun i=>if i=b then ev n (F b) x-ev n (F a) x else ev n (F i) x:=by
   funext i
   by_cases c:i=b
   ·rw [iP c,iP c,q]
   ·rw [iN c,iN c]
  rw [f]
  have B:∀ T:Nat->Rat,qf n A T=qf n (Hu a b A) (fun i=>if i=b then T b-T a else T i):=fun T=>by
   unfold qf
   have z:∀ i,(sm n fun j=>Hu a b A i j*(if j=b then T b-T a else T j))=sm n fun j=>(A i j+if i=a then A b j else 0)*T j:=fun i=>by
    rw [<- key T (fun j=>A i j+if i=a then A b j else 0)]
    refine D0 fun j _=>?_
    unfold Hu
    rfl
   have y:(sm n fun i=>(if i=b then T b-T a else T i)*sm n fun j=>Hu a b A i j*(if j=b then T b-T a else T j))=sm n fun i=>((sm n fun j=>A i j*T j)+if i=a then (sm n fun j=>A b j*T j) else 0)*(if i=b then T b-T a else T i):=by
    refine D0 fun i _=>?_
    rw [z,cG]
    congr 1
    by_cases c:i=a
    ·rw [iP c,<- Ba]
     exact D0 fun j _=>by rw [iP c];grind
    ·rw [iN c,aM]
     exact D0 fun j _=>by rw [iN c];grind
   rw [y,key T (fun i=>sm n fun j=>A i j*T j)]
   exact D0 fun i _=>cG _ _
  exact B fun i=>ev n (F i) x
 ·have r:=s m t
  have u:=s a ha
  rw [iN hab] at u
  by_cases c:m=b
  ·rw [iP c,q,u] at r
   rw [c];grind
  ·rwa [iN c] at r
 ·unfold Hu
  rw [h.zero i j p g c]
  rcases c with c|c
  ·rw [iN (show i≠a by omega),iN (show i≠a by omega),h.zero i b p hb (.inl c)]
   split<;>grind
  ·rw [iN (show j≠a by omega),h.zero b j hb g (.inr c)]
   split<;>grind
 ·unfold Hu
  rw [h.symm i j p g,h.symm i b p hb,h.symm j b g hb]
  by_cases c:i=a
  ·by_cases l:j=a
   ·simp only [iP c,iP l];grind
   ·simp only [iP c,iN l];grind
  ·by_cases l:j=a
   ·simp only [iN c,iP l];grind
   ·simp only [iN c,iN l]
end Go.Proofs.YtmbfcbbkbefgfaaGreatDoor
namespace Go.Proofs.YtmbfcbbkbefgfaaGreatDoor
set_option maxRecDepth 20000
structure TE (n k:Nat) (R:Nat->Nat->Rat) (M:Nat->Nat->Int) (S:Nat->Rat) (last:Int):Prop where
 elim:∃ B R',(∀ i j,i<n->j<n->Wh (B i j))/\Elim n n B R' (fun m=>m) k/\(last:Rat)=dp B (fun m=>m) k/\∀ i j,k<=i->i<n->j<n->R' i j=S i*R i j
 ne:last≠0
 val:∀ i j,k<=i->i<n->j<n->(M i j:Rat)=last*(S i*R i j)
 scale:∀ i,k<=i->i<n->0<S i
def TE.start{n:Nat}{A:Nat->Nat->Rat}{M:Nat->Nat->Int}{S:Nat->Rat}(h:∀ i j,i<n->j<n->(M i j:Rat)=S i*A i j)(hS:∀ i,i<n->0<S i):TE n 0 A M S 1:=by
 have c:((1:Int):Rat)=1:=rfl
 refine ⟨⟨fun i j=>S i*A i j,fun i j=>S i*A i j,fun i j a b=>⟨M i j,(h i j a b).symm⟩,Elim.start,rfl,fun _ _ _ _ _=>rfl⟩,by decide,fun i j _ a b=>?_,fun i _ a=>hS i a⟩
 rw [c,cQ,h i j a b]
def TE.congr{n k:Nat}{R R':Nat->Nat->Rat}{M M':Nat->Nat->Int}{S S':Nat->Rat}{last:Int}(h:TE n k R M S last)(hR:∀ i j,k<=i->i<n->j<n->R i j=R' i j)(hM:∀ i j,k<=i->i<n->j<n->M i j=M' i j)(hS:∀ i,k<=i->i<n->S i=S' i):TE n k R' M' S' last:=by
 obtain ⟨B,X,g,e,f,d⟩:=h.elim
 exact ⟨⟨B,X,g,e,f,fun i j a b c=>by rw [<- hS i a b,<- hR i j a b c];exact d i j a b c⟩,h.ne,fun i j a b c=>by rw [<- hM i j a b c,<- hS i a b,<- hR i j a b c];exact h.val i j a b c,fun i a b=>by rw [<- hS i a b];exact h.scale i a b⟩
def TE.zero{n k:Nat}{R:Nat->Nat->Rat}{M:Nat->Nat->Int}{S:Nat->Rat}{last:Int}(h:TE n k R M S last){i j:Nat}(hk:k<=i)(hi:i<n)(hj:j<n):M i j=0↔R i j=0:=by
 have a:=h.val i j hk hi hj
 have g:=J7 h.ne
 have f:S i≠0:=by have:=h.scale i hk hi;grind
 constructor
 ·intro e
  rw [e] at a
  have d:((0:Int):Rat)=0:=rfl
  rw [d] at a
  rcases Rat.mul_eq_zero.1 a.symm with b|b
  ·exact absurd b g
  ·rcases Rat.mul_eq_zero.1 b with c|c
   ·exact absurd c f
   ·exact c
 ·intro e
  rw [e,bJ,bJ] at a
  exact_mod_cast a
def TE.adv{n k:Nat}{R:Nat->Nat->Rat}{M:Nat->Nat->Int}{S:Nat->Rat}{last:Int}(h:TE n k R M S last)(hk:k<n)(hne:R k k≠0):
 TE n (k+1) (fun i j=>R i j-R i k*(R k j/R k k)) (fun i j=>(M k k*M i j-M i k*M k j).tdiv last) S (M k k):=by
 obtain ⟨B,X,p,r,q,f⟩:=h.elim
 have u:S k≠0:=by have:=h.scale k (aC _) hk;grind
 have t:X k k≠0:=by
  rw [f k k (aC _) hk hk]
  intro e
  rcases Rat.mul_eq_zero.1 e with e|e
  ·exact u e
  ·exact hne e
 have E:=r.step (j:=k) hk hk rfl t
 have g:=r.next (j:=k) hk hk rfl
 have l:(M k k:Rat)=last*X k k:=by rw [h.val k k (aC _) hk hk,f k k (aC _) hk hk]
 have d: ∀ i j,k+1<=i->i<n->j<n->Dl X k k i j=S i*(R i j-R i k*(R k j/R k k)):=fun i j a b c=>by
  unfold Dl
  rw [iN (by omega),f i j (by omega) b c,f i k (by omega) b hk,f k j (aC _) hk c,f k k (aC _) hk hk]
  grind
 refine ⟨⟨B,Dl X k k,p,E,by rw [g,<- q,l],d⟩,?_,fun i j a b c=>?_,fun i a b=>h.scale i (by omega) b⟩
 ·intro e
  rw [(h.zero (aC _) hk hk)] at e
  exact hne e
 ·obtain ⟨z,m⟩:=E.whole p (i:=i) (j:=j) b c
  rw [g,<- q,<- l] at m
  have o:=J7 h.ne
  have s:M k k*M i j-M i k*M k j=last*z:=by
   have:((M k k*M i j-M i k*M k j:Int):Rat)=((last*z:Int):Rat):=by
    rw [Rat.intCast_sub,bF,bF,bF,<- m,l,h.val i j (by omega) b c,h.val i k (by omega) b hk,h.val k j (aC _) hk c]
    rw [d i j a b c,f k k (aC _) hk hk]
    grind
   exact_mod_cast this
  rw [Ue h.ne s,<- m,d i j a b c]
def TE.swap{n k l:Nat}{R:Nat->Nat->Rat}{M:Nat->Nat->Int}{S:Nat->Rat}{last:Int}(h:TE n k R M S last)(hkl:k<=l)(hl:l<n):
 TE n k (fun i j=>R (xch k l i) (xch k l j)) (fun i j=>M (xch k l i) (xch k l j)) (fun i=>S (xch k l i)) last:=by
 obtain ⟨B,X,p,y,s,t⟩:=h.elim
 have q:k<n:=by omega
 have lt:∀ {i},i<n->xch k l i<n:=fun e=>R8 q hl e
 have ge:∀ {i},k<=i->k<=xch k l i:=fun e=>A32 hkl e
 have E:=y.swap hkl hl
 refine ⟨⟨fun i j=>B (xch k l i) (xch k l j),fun i j=>X (xch k l i) (xch k l j),fun i j e g=>p _ _ (lt e) (lt g),⟨E.kn,fun m d=>by omega,fun a m o d=>?_,fun i m e f d=>?_,fun a j o g=>?_,fun i j e f g=>?_⟩,?_,fun i j a b c=>t _ _ (ge a) (lt b) (lt c)⟩,h.ne,fun i j a b c=>h.val _ _ (ge a) (lt b) (lt c),fun i a b=>h.scale _ (ge a) (lt b)⟩
 ·rw [Ay hkl d];exact E.piv a m o d
 ·rw [Ay hkl d];exact E.low i m e f d
 ·rw [E.top a _ o (lt g)]
  exact D0 fun m d=>by rw [Ay hkl d]
 ·rw [E.bot i _ e f (lt g)]
  congr 1
  exact D0 fun m d=>by rw [Ay hkl d]
 ·rw [s]
  exact R1 fun c r u w=>by show B r c=B (xch k l r) (xch k l c);rw [Ay hkl w,Ay hkl u]
def TE.addRow{n k a b:Nat}{R:Nat->Nat->Rat}{M:Nat->Nat->Int}{S:Nat->Rat}{last x y:Int}{s:Rat}(h:TE n k R M S last)(hka:k<=a)(ha:a<n)(hkb:k<=b)(hb:b<n)(hs:0<s)(hx:s=x*S a)(hy:s=y*S b):
 TE n k (fun i j=>R i j+if i=a then R b j else 0) (fun i j=>if i=a then M a j*x+M b j*y else M i j) (fun i=>if i=a then s else S i) last:=by
 obtain ⟨B,X,t,o,A,u⟩:=h.elim
 have w:∀ z:Int,Wh (z:Rat):=fun z=>⟨z,rfl⟩
 refine ⟨⟨fun i j=>if i=a then x*B a j+y*B b j else B i j,fun i j=>if i=a then x*X a j+y*X b j else X i j,fun i j g f=>?_,⟨o.kn,o.cw,fun l m q p=>?_,fun i m g d p=>?_,fun l j q f=>?_,fun i j g d f=>?_⟩,?_,fun i j d g f=>?_⟩,h.ne,fun i j d g f=>?_,fun i d g=>?_⟩
 ·dsimp only;split
  ·exact ((w x).mul (t a j ha f)).add ((w y).mul (t b j hb f))
  ·exact t i j g f
 ·rw [iN (by omega)];exact o.piv l m q p
 ·have z:=fun i g d=>o.low i m g d p
  split
  ·rw [z a ha hka,z b hb hkb];grind
  ·exact z i g d
 ·rw [iN (by omega),o.top l j q f]
  exact D0 fun m p=>by rw [iN (by omega),iN (by omega)]
 ·by_cases c:i=a
  ·rw [iP c,iP c,o.bot a j ha hka f,o.bot b j hb hkb f]
   have e:(sm k fun m=>(if i=a then x*B a m+y*B b m else B i m)*(if m=a then x*X a j+y*X b j else X m j))=x*sm k (fun m=>B a m*X m j)+y*sm k (fun m=>B b m*X m j):=by
    rw [<- Ez,<- Ez,<- Ba]
    exact D0 fun m p=>by rw [iP c,iN (by omega)];grind
   rw [e]
   grind
  ·rw [iN c,iN c,o.bot i j g d f]
   congr 1
   exact D0 fun m p=>by rw [iN c,iN (by omega)]
 ·rw [A]
  exact R1 fun c r C D=>by dsimp only;rw [iN (by omega)]
 ·dsimp only
  by_cases c:i=a
  ·rw [iP c,iP c,iP c,u a j hka ha f,u b j hkb hb f,c]
   grind
  ·rw [iN c,iN c,iN c,u i j d g f,aM]
 ·by_cases c:i=a
  ·rw [iP c,iP c,iP c,cT,bF,bF,h.val a j hka ha f,h.val b j hkb hb f,c]
   grind
  ·rw [iN c,iN c,iN c,h.val i j d g f,aM]
 ·split
  ·exact hs
  ·exact h.scale i d g
def TE.addCol{n k a b:Nat}{R:Nat->Nat->Rat}{M:Nat->Nat->Int}{S:Nat->Rat}{last:Int}(h:TE n k R M S last)(hka:k<=a)(ha:a<n)(hkb:k<=b)(hb:b<n):
 TE n k (fun i j=>R i j+if j=a then R i b else 0) (fun i j=>if j=a then M i a+M i b else M i j) S last:=by
 obtain ⟨B,X,s,o,u,t⟩:=h.elim
 refine ⟨⟨fun i j=>B i j+if j=a then B i b else 0,fun i j=>X i j+if j=a then X i b else 0,fun i j f g=>?_,⟨o.kn,o.cw,fun l m q p=>?_,fun i m f d p=>?_,fun l j q g=>?_,fun i j f d g=>?_⟩,?_,fun i j d f g=>?_⟩,h.ne,fun i j d f g=>?_,h.scale⟩
 ·dsimp only;split
  ·exact (s i j f g).add (s i b f hb)
  ·rw [aM];exact s i j f g
 ·rw [iN (by omega),aM];exact o.piv l m q p
 ·rw [iN (by omega),aM];exact o.low i m f d p
 ·have e:(sm k fun m=>(B l m+if m=a then B l b else 0)*(X m j+if j=a then X m b else 0))=sm k (fun m=>B l m*X m j)+if j=a then sm k (fun m=>B l m*X m b) else 0:=by
   by_cases c:j=a
   ·rw [iP c,<- Ba]
    exact D0 fun m p=>by rw [iP c,iN (by omega)];grind
   ·rw [iN c,aM]
    exact D0 fun m p=>by rw [iN c,iN (by omega)];grind
  rw [e,o.top l j q g]
  by_cases c:j=a
  ·rw [iP c,iP c,o.top l b q hb]
  ·rw [iN c,iN c]
 ·have e:(sm k fun m=>(B i m+if m=a then B i b else 0)*(X m j+if j=a then X m b else 0))=sm k (fun m=>B i m*X m j)+if j=a then sm k (fun m=>B i m*X m b) else 0:=by
   by_cases c:j=a
   ·rw [iP c,<- Ba]
    exact D0 fun m p=>by rw [iP c,iN (by omega)];grind
   ·rw [iN c,aM]
    exact D0 fun m p=>by rw [iN c,iN (by omega)];grind
  rw [e,o.bot i j f d g]
  by_cases c:j=a
  ·rw [iP c,iP c,iP c,o.bot i b f d hb];grind
  ·rw [iN c,iN c,iN c];grind
 ·rw [u]
  exact R1 fun c r w y=>by dsimp only;rw [iN (by omega),aM]
 ·dsimp only
  by_cases c:j=a
  ·rw [iP c,iP c,t i j d f g,t i b d f hb];grind
  ·rw [iN c,iN c,t i j d f g];grind
 ·by_cases c:j=a
  ·rw [iP c,iP c,cT,h.val i a d f ha,h.val i b d f hb,c];grind
  ·rw [iN c,iN c,h.val i j d f g];grind
end Go.Proofs.YtmbfcbbkbefgfaaGreatDoor
namespace Go.Proofs.YtmbfcbbkbefgfaaGreatDoor
set_option maxRecDepth 20000
def C3p{n:Nat}(p:Nat->Rat)(q:Rat):sm n (fun t=>p t*q)=(sm n p)*q:=by
 rw [cG,<- Ez]
 exact D0 fun t _=>cG _ _
def Kw(ls:Nat->List UInt8)(q a b w:Nat):Nat->List UInt8:=fun t=>ls ((a+t/w)*q+(b+t%w))
def Ur(ls:Nat->List UInt8)(q a b:Nat){w i j:Nat}(hj:j<w):mtx (rvs (Kw ls q a b w)) w i j=mtx (rvs ls) q (a+i) (b+j):=by
 obtain ⟨c,d⟩:=Pf (n:=w) (i:=i) hj
 show rv (ls ((a+(i*w+j)/w)*q+(b+(i*w+j)%w)))=_
 rw [c,d]
 rfl
def Rc(ls:Nat->List UInt8)(q k:Nat):Nat->Rat:=rvs (Kw ls q 0 0 k)
def B7h(ls:Nat->List UInt8)(q k:Nat):Nat->Nat->Rat:=fun i j=>mtx (rvs ls) q (k+i) (k+j)-sm k fun t=>(sm k fun s=>mtx (rvs ls) q (k+i) s*Lw (Rc ls q k) k s t)*mtx (rvs ls) q t (k+j)
def SchO(r c:Int)(n:Nat)(ls:Nat->List UInt8)(z:Int)(o:MOut):Prop:=
 (∃ e,SqE r c n ls e/\o=noM e)\/(∃ q,SqOk r c n ls q/\((¬ (1<=z/\z<q)/\o=noM 3)\/∃ k l:Nat,z=k/\1<=k/\1<=l/\q=k+l/\((¬ Yj (Rc ls q k) k/\o=noM 7)\/(Yj (Rc ls q k) k/\o=⟨(l:Int),(l:Int),l*l,Gs (B7h ls q k) l,0⟩))))
def B2r{a b w t k l q:Nat}(ha:a+k<=q)(hb:b+w<=q)(ht:t<k*w):(a+t/w)*q+(b+t%w)<q*q:=by
 have c:0<w:=by
  rcases Nat.eq_zero_or_pos w with h|h
  ·rw [h] at ht;omega
  ·exact h
 exact L8 (by have:=aJ (show t<w*k by rw [aQ];exact ht);omega) (by have:=bI t c;omega)
section
variable {r c:Int} {n q k l:Nat} {ls:Nat->List UInt8}
def MOk.part(mk:MOk r c n ls q q){a b k w:Nat}(hk:1<=k)(hw:1<=w)(ha:a+k<=q)(hb:b+w<=q):MOk (k:Int) (w:Int) (k*w) (Kw ls q a b w) k w:=
 ⟨rfl,rfl,hk,by have:=mk.r2;omega,hw,by have:=mk.r2;omega,rfl,fun i d=>mk.num _ (by rw [mk.len];exact B2r (l:=0) ha hb d)⟩
def C1m(k:Nat)(A V:Nat->Nat->Rat)(f:Nat->Rat)(j:Nat):(sm k fun t=>(sm k fun s=>f s*V s t)*A t j)=sm k fun s=>f s*sm k fun t=>V s t*A t j:=by
 have e:(sm k fun t=>(sm k fun s=>f s*V s t)*A t j)=sm k fun t=>sm k fun s=>f s*(V s t*A t j):=D0 fun t _=>by
  rw [<- C3p]
  exact D0 fun s _=>by grind
 rw [e,A65]
 exact D0 fun s _=>Ez k _ _
end
section
variable {h:aH} {K:VP} {A:Option aR} {n cap q:Nat} {r c:Int} {ls:Nat->List UInt8}
def Ko(rv':aS SSr h A n ls)(mk:MOk r c n ls q q)(hcap:n<=cap){a b k w:Nat}(hk:1<=k)(hw:1<=w)(ha:a+k<=q)(hb:b+w<=q){z1 z2 z3 z4:Int}(e1:z1=a)(e2:z2=(a+k:Nat))(e3:z3=b)(e4:z4=(b+w:Nat))
 (hK:∀ A' c' h',h.le h'->aS SSr h' A' (k*w) (Kw ls q a b w)->K (Dr k w A' (k*w) c') h'):aU prog Qy #[Dr r c A n cap,I z1,I z2,I z3,I z4] h K:=by
 subst e1 e2 e3 e4
 have F:=mk.r2
 obtain ⟨rfl,rfl,_,_,_,_,rfl,J⟩:=id mk
 refine B9a _ _ _ _ _ _ _ _ _ ?_
 unfold C5d
 have ac:q*q<=64*64:=aL F F
 rw [show B7 (((a+k:Nat):Int)-(a:Int))=(k:Int) by rw [C1]<;>omega,show B7 (((b+w:Nat):Int)-(b:Int))=(w:Int) by rw [C1]<;>omega]
 refine ⟨fun L u=>∃ (i:Nat) (g o:aH) (f:List (List UInt8)) (A':Option aR) (c':Nat),i<=k/\L=[I ((a+i:Nat):Int),I (k:Int),I (w:Int),.slice A' (i*w) c']/\h.le g/\Sep u g o/\bD o Q1 A' c' f/\f.length=i*w/\∀ t,t<i*w->f[t]? = some (Kw ls q a b w t),fun L _=>a+k-(iAt L 0).toNat,⟨0,h,V7,[],none,0,by omega,by rw [aX];rfl,B5 _,Sep.refl h,OwnSl.nil,(aX w).symm,fun t B=>by omega⟩,?_⟩
 rintro z u0 u1 S bn Q u ⟨i,g,o,f,A',c',hi,G,E,s,H,d,N⟩
 simp only [bX,cR,Value.slice.injEq,true_and,and_true] at G
 obtain ⟨rfl,rfl,rfl,rfl,rfl,rfl⟩:=G
 refine B8 (fun V=>?_) (fun ab=>?_)
 ·have X:i<k:=by omega
  have h1:(a+i+1)*q<=q*q:=aF _ (by omega)
  have h2:(a+i+1)*q=(a+i)*q+q:=by rw [aY,bH]
  have W:B7 (((a+i:Nat):Int)*(q:Int))=(((a+i)*q:Nat):Int):=by rw [<- aN];exact L6 (by omega)
  have e3:B7 ((((a+i)*q:Nat):Int)+(b:Int))=(((a+i)*q+b:Nat):Int):=by rw [C1]<;>omega
  have e4:B7 ((((a+i)*q:Nat):Int)+((b+w:Nat):Int))=(((a+i)*q+(b+w):Nat):Int):=by rw [C1]<;>omega
  rw [W,e3,e4]
  refine ⟨⟨by omega,by omega⟩,⟨by omega,by simp only [aE];omega⟩,?_⟩
  simp only [aE]
  have row:aS SSr u (I5 A cap ((a+i)*q+b) 1) w (fun j=>ls ((a+i)*q+b+j)):=(rv'.mono J5 (B0 E s.le)).cut (c:=cap) (l:=(a+i)*q+b) (k:=w) (by omega) hcap
  obtain ⟨ys,sy,e,hy⟩:=row
  have m:(i+1)*w=i*w+w:=by rw [aY,bH]
  have aa:(i+1)*w<=q*q:=aL (by omega) (by omega)
  refine OwnSl.app (ty:=Gb) Ao s H d.symm (show (a+i)*q+(b+w)-((a+i)*q+b)=ys.length by omega) (by rintro rfl;simp at e;omega) sy (by omega) (by omega) ?_
  intro A3 c3 h3 T R l3 s3 C _
  rw [d,show (a+i)*q+(b+w)-((a+i)*q+b)=w by omega,<- m,show B7 (((a+i:Nat):Int)+1)=((a+(i+1):Nat):Int) by rw [C1]<;>omega]
  refine ⟨_,_,_,rfl,⟨i+1,T,R,_,A3,c3,by omega,rfl,B0 E l3,s3,C,by rw [aD,d,e,m],fun t B=>?_⟩,?_⟩
  ·by_cases c1:t<i*w
   ·rw [List.getElem?_append_left (by omega)];exact N t c1
   ·obtain ⟨j,rfl⟩:∃ j,t=i*w+j:=⟨t-i*w,by omega⟩
    have M:j<w:=by omega
    obtain ⟨y,Z,D⟩:=hy j M
    rw [List.getElem?_append_right (by omega),d,Nat.add_sub_cancel_left,Z]
    have p:y=ls ((a+i)*q+b+j):=D
    obtain ⟨d1,O⟩:=Pf (n:=w) (i:=i) M
    unfold Kw
    rw [d1,O,p,cL]
  ·show a+k-((a+(i+1):Nat):Int).toNat<a+k-((a+i:Nat):Int).toNat
   omega
 ·obtain rfl:i=k:=by omega
  exact hK S Q u (B0 E s.le) ⟨f,H.slF s.ole,d,fun t B=>⟨_,N t B,rfl⟩⟩
structure SchB (k m:Nat) (B1 B2 B3 B4:Nat):Prop where
 h0:1<=m
 h1:3^k*bnd (k+k) m<=B1
 h2:1+k*(2*B1+1)<=B2
 h3:1+k*(2*B2+1)<=B3
 h4:m<=B1/\B1<=B2/\B2<=B3
 h5:2*B3+2<=B4
 h6:B4<=10000000
def C1n{m k l B1 B2 B3 B4:Nat}(hq:q=k+l)(hs:∀ i j,i<q->j<q->Sz m (mtx (rvs ls) q i j))(B:SchB k m B1 B2 B3 B4)(hi:Yj (Rc ls q k) k){i j:Nat}(hil:i<l)(hjl:j<l):Sz B4 (B7h ls q k i j):=by
 have g:∀ t,t<k*k->Sz m (Rc ls q k t):=fun t b=>by
  have o:0<k:=by
   rcases Nat.eq_zero_or_pos k with e|e
   ·rw [e] at b;omega
   ·exact e
  have a:=aJ b
  have c:=bI t o
  exact hs (0+t/k) (0+t%k) (by omega) (by omega)
 have d:∀ s t,s<k->t<k->Sz B1 (Lw (Rc ls q k) k s t):=fun s t a c=>(B3j B.h0 g hi s t a c).mono B.h1
 obtain ⟨r,u,w⟩:=B.h4
 have n:∀ t,t<k->Sz B2 (sm k fun s=>mtx (rvs ls) q (k+i) s*Lw (Rc ls q k) k s t):=fun t b=>(Xm (m:=B1) (f:=fun s=>mtx (rvs ls) q (k+i) s) (f2:=fun s=>Lw (Rc ls q k) k s t) (fun s a=>(hs _ _ (by omega) (by omega)).mono r) (fun s a=>d s t a b) k (aC _)).mono B.h2
 have p:=(Xm (m:=B2) (f:=fun t=>sm k fun s=>mtx (rvs ls) q (k+i) s*Lw (Rc ls q k) k s t) (f2:=fun t=>mtx (rvs ls) q t (k+j)) n (fun t a=>(hs _ _ (by omega) (by omega)).mono (by omega)) k (aC _)).mono B.h3
 have y:=B.h5
 exact ((hs (k+i) (k+j) (by omega) (by omega)).sub p).mono (by omega)
def A73{m:Nat}{z:Int}(gl:Gl h)(rv':aS SSr h A n ls)(hcap:n<=cap)(hn:n<=1000000)(hl:LL n ls)(hs:∀ i,i<n->Sz m (rv (ls i)))(hB:∀ q k,MOk r c n ls q q->1<=k->k<q->∃ B1 B2 B3 B4,SchB k m B1 B2 B3 B4)
 (hK:∀ o,SchO r c n ls z o->∀ A' cap' h',h.le h'->aS SSr h' A' o.n o.f->K (.tuple #[Dr o.r o.c A' o.n cap',I o.e]) h'):aU prog A1x #[Dr r c A n cap,I z] h K:=by
 refine B6f _ _ _ _ _ _ ?_
 unfold C13
 refine Fk gl rv' hn hl ?_ (fun e he O X=>⟨_,_,_,_,rfl,F8 (fun _=>hK (noM e) (.inl ⟨e,he,rfl⟩) none 0 O X RowV.nil) (fun e0=>by rcases he with ⟨_,x⟩|⟨_,_,x⟩<;>omega)⟩)
 intro q sq b O own
 have X:=own.le
 have mk:=sq.1
 have er:=mk.er
 have an:=mk.r2
 refine ⟨_,_,_,_,rfl,F8 (fun y=>absurd rfl y) (fun _=>?_)⟩
 have S:¬ (1<=z/\z<q)->K (.tuple #[Dr 0 0 none 0 0,I 3]) O:=fun hx=>hK (noM 3) (.inr ⟨q,sq,.inl ⟨hx,rfl⟩⟩) none 0 O X RowV.nil
 refine B8 (fun hz=>S (fun x=>by omega)) (fun hz=>?_)
 refine B8 (fun ai=>S (fun x=>by omega)) (fun ai=>?_)
 obtain ⟨k,rfl⟩:∃ k:Nat,z=k:=⟨z.toNat,by omega⟩
 obtain ⟨l,hq⟩:∃ l,q=k+l:=⟨q-k,by omega⟩
 have g:1<=k:=by omega
 have u:1<=l:=by omega
 have L:=fun o ho=>hK o (.inr ⟨q,sq,.inr ⟨k,l,rfl,g,u,hq,ho⟩⟩)
 obtain ⟨B1,B2,B3,B4,B⟩:=hB q k mk g (by omega)
 obtain ⟨b0,b1,b2,b3,⟨b4,b5,b6⟩,b7,b8⟩:=id B
 have T:=mk.len
 have G:∀ {a b k w t:Nat},a+k<=q->b+w<=q->t<k*w->(a+t/w)*q+(b+t%w)<n:=fun O h2 h3=>by rw [T];exact B2r (l:=0) O h2 h3
 have D:∀ {k w:Nat},k<=q->w<=q->k*w<=1000000:=fun {k w} O h2=>bY (aL (show k<=64 by omega) (show w<=64 by omega)) (by decide)
 refine Ko (rv'.mono J5 X) mk hcap (a:=0) (b:=0) (k:=k) (w:=k) g g (by omega) (by omega) rfl (by omega) rfl (by omega) ?_
 intro A2 c2 h2 l2 r2
 refine ⟨_,_,_,_,_,rfl,?_⟩
 have Z:=B0 X l2
 have N:=mk.part (a:=0) (b:=0) g g (by omega) (by omega)
 refine A0z (m:=m) (gl.mono Z) r2 (D (by omega) (by omega)) (fun i V=>hl _ (G (by omega) (by omega) V)) (fun i V=>hs _ (G (by omega) (by omega) V)) b0 (fun q' C=>by obtain rfl:q'=k:=(N.uniq C).1;omega) ?_
 intro o3 ak A3 c3 h3 l3 r3
 have M:=B0 Z l3
 rcases ak with ⟨Q,_⟩|⟨_,y,_⟩|⟨q',C,hx⟩
 ·exact absurd ⟨_,_,N⟩ Q
 ·exact absurd rfl y
 obtain rfl:k=q':=(N.uniq C).1.symm
 rcases hx with ⟨inv,rfl⟩|⟨R,rfl⟩
 rotate_left
 ·exact ⟨_,_,_,_,_,_,rfl,F8 (fun _=>L (noM 7) (.inl ⟨R,rfl⟩) none 0 h3 M RowV.nil) (fun e=>absurd e (by decide))⟩
 refine ⟨_,_,_,_,_,_,rfl,F8 (fun e=>absurd rfl e) (fun _=>?_)⟩
 refine Ko (rv'.mono J5 M) mk hcap (a:=k) (b:=0) (k:=l) (w:=k) u g (by omega) (by omega) rfl (by omega) rfl (by omega) ?_
 intro A4 c4 h4 l4 r4
 refine ⟨_,_,_,_,_,rfl,l4,?_⟩
 have aa:=B0 M l4
 have F:=mk.part (a:=k) (b:=0) (k:=l) (w:=k) u g (by omega) (by omega)
 have J:MOk (k:Int) (k:Int) (k*k) (Gs (Lw (Rc ls q k) k) k) k k:=B7z rfl g (by omega)
 have bz:∀ t,t<k*k->Sz m (Rc ls q k t):=fun t p=>hs _ (G (a:=0) (b:=0) (by omega) (by omega) p)
 have vz:∀ i j,i<k->j<k->Sz B1 (Lw (Rc ls q k) k i j):=fun i j V hj=>(B3j b0 bz inv i j V hj).mono b1
 have z4:∀ t,t<l*k->Sz B1 (rv (Kw ls q k 0 k t)):=fun t p=>(hs _ (G (by omega) (by omega) p)).mono b4
 refine Zb (m:=B1) (d:=k) (gl.mono aa) r4 (r3.mono J5 l4) (D (by omega) (by omega)) (D (by omega) (by omega)) (fun t p=>hl _ (G (by omega) (by omega) p)) (fun t p=>bY (B3r g vz t p) (by omega)) z4 (A1e g vz) (by omega) (fun a b C=>by obtain ⟨_,rfl⟩:=F.uniq C;omega) (by omega) ?_
 intro o5 aj A5 c5 h5 l5 r5
 rcases MulO.ok F J aj with ⟨_,_,rfl⟩|⟨y,_⟩
 rotate_left
 ·exact absurd rfl y
 refine ⟨_,_,_,_,_,_,rfl,l5,?_⟩
 have W:=B0 aa l5
 have E:=F.prod J
 have z5:∀ t,t<l*k->Sz B2 (rv (Sp (Kw ls q k 0 k) k (Gs (Lw (Rc ls q k) k) k) k t)):=fun t p=>(A0u (m:=B1) F J z4 (A1e g vz) t p).mono b2
 have n5:∀ t,t<l*k->(Sp (Kw ls q k 0 k) k (Gs (Lw (Rc ls q k) k) k) k t).length<=100000000:=fun t p=>bY (A3r (m:=B1) F J z4 (A1e g vz) t p) (by omega)
 refine Ko (rv'.mono J5 W) mk hcap (a:=0) (b:=k) (k:=k) (w:=l) g u (by omega) (by omega) rfl (by omega) rfl (by omega) ?_
 intro A6 c6 h6 l6 r6
 refine ⟨_,_,_,_,_,rfl,l6,?_⟩
 have ac:=B0 W l6
 have H:=mk.part (a:=0) (b:=k) (k:=k) (w:=l) g u (by omega) (by omega)
 have z6:∀ t,t<k*l->Sz B2 (rv (Kw ls q 0 k l t)):=fun t p=>(hs _ (G (by omega) (by omega) p)).mono (by omega)
 refine Zb (m:=B2) (d:=k) (gl.mono ac) (r5.mono J5 l6) r6 (D (by omega) (by omega)) (D (by omega) (by omega)) n5 (fun t p=>hl _ (G (by omega) (by omega) p)) z5 z6 (by omega) (fun a b C=>by obtain ⟨_,rfl⟩:=E.uniq C;omega) (by omega) ?_
 intro o7 al A7 c7 h7 l7 r7
 rcases MulO.ok E H al with ⟨_,_,rfl⟩|⟨y,_⟩
 rotate_left
 ·exact absurd rfl y
 refine ⟨_,_,_,_,_,_,rfl,l7,?_⟩
 have ad:=B0 ac l7
 have am:=E.prod H
 have z7:∀ t,t<l*l->Sz B3 (rv (Sp (Sp (Kw ls q k 0 k) k (Gs (Lw (Rc ls q k) k) k) k) k (Kw ls q 0 k l) l t)):=fun t p=>(A0u (m:=B2) E H z5 z6 t p).mono b3
 have n7:∀ t,t<l*l->(Sp (Sp (Kw ls q k 0 k) k (Gs (Lw (Rc ls q k) k) k) k) k (Kw ls q 0 k l) l t).length<=100000000:=fun t p=>bY (A3r (m:=B2) E H z5 z6 t p) (by omega)
 refine Ko (rv'.mono J5 ad) mk hcap (a:=k) (b:=k) (k:=l) (w:=l) u u (by omega) (by omega) rfl (by omega) rfl (by omega) ?_
 intro A8 c8 h8 l8 r8
 refine ⟨_,_,_,_,_,rfl,l8,?_⟩
 have ae:=B0 ad l8
 have af:=mk.part (a:=k) (b:=k) (k:=l) (w:=l) u u (by omega) (by omega)
 refine B37 (m:=B3) (gl.mono ae) r8 (r7.mono J5 l8) (D (by omega) (by omega)) (D (by omega) (by omega)) (fun t p=>hl _ (G (by omega) (by omega) p)) n7 (fun t p=>(hs _ (G (by omega) (by omega) p)).mono (by omega)) z7 (by omega) ?_
 intro o9 ag A9 c9 h9 l9 r9
 rcases ag with ⟨Q,_⟩|⟨_,_,y,_⟩|⟨_,_,_,_,rfl⟩
 ·exact absurd ⟨⟨_,_,af⟩,⟨_,_,am⟩⟩ Q
 ·exact absurd y (by simp)
 refine ⟨_,_,_,_,_,_,rfl,l9,L ⟨(l:Int),(l:Int),l*l,Gs (B7h ls q k) l,0⟩ (.inr ⟨inv,rfl⟩) A9 c9 h9 (B0 ae l9) (r9.congr fun t p=>?_)⟩
 have hj:=bI t (show 0<l by omega)
 show K4 (mtx (rvs ls) q (k+t/l) (k+t%l) + -1*rv (K4 (sm k fun j=>mtx (rvs (Sp (Kw ls q k 0 k) k (Gs (Lw (Rc ls q k) k) k) k)) k (t/l) j*mtx (rvs (Kw ls q 0 k l)) l j (t%l))))=K4 (B7h ls q k (t/l) (t%l))
 unfold B7h
 congr 1
 rw [In,bZ,Rat.neg_mul,cQ]
 congr 2
 refine D0 fun j ab=>?_
 rw [B2o _ _ _ ab,Ur _ _ _ _ hj,aT]
 congr 1
 refine D0 fun s ah=>?_
 rw [Ur _ _ _ _ ah,B3q _ ab,aT]
end
