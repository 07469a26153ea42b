/-
  Texts of this proof, merged by a program of ours.
-/
import Derived.Test.YtajkakhfcokljaaGreatDoorG30
import Derived.Test.YtajkakhfcokljaaGreatDoorG31
import Derived.Test.YtajkakhfcokljaaGreatDoorG22
import Derived.Test.YtajkakhfcokljaaGreatDoorG21
import Derived.Deep.Strs
open Go.Proofs.Tryz
open _root_.Go.Addr renaming add->C2x
open Classical renaming byContradiction->C32
open _root_.Go.Instr renaming storeAt->C31
open Int renaming toNat_natCast->C30,natCast_mul->C3b,tmod->C3m,sign_eq_zero_iff_zero->C3s
open List renaming replicate->C2y,length_replicate->C34,not_mem_nil->C36,length_append->C39,getElem?_replicate->C3a,mem_cons->C3d,getD_eq_getElem?_getD->C3f,getElem?_eq_getElem->C3g,getElem?_map->C3n
open List.cons renaming injEq->C3j
open Nat renaming le_refl->C2w,mul_le_mul_right->C2z,mul_le_mul->C33,lt_irrefl->C35,le_trans->C37,div_lt_of_lt_mul->C3c,not_lt_zero->C3e,mul_comm->C3i,pow_le_pow_right->C3k,one_mul->C3q,add_mul->C3r
open Rat renaming mul_inv_cancel->C38,add_zero->C3h,div_def->C3l,zero_mul->C3o
open _root_.Go.Value.bool renaming injEq->C3p
namespace Go.Proofs.YtajkakhfcokljaaGreatDoor
set_option linter.all false
set_option maxRecDepth 20000
open Go
theorem Sep.storeRaw{P:Program}{t:TypeId}{m:Nat}(one:P.cellsOf t=m/\(P.info? t).isSome=true){v:Value}{vs:List Value}(hv:v.cells=vs.toArray)(hl:vs.length=m)(h1:∀ x∈vs,A1e x=true){h g o:Heap}(s:Sep h g o){b:Nat}{arr:List Value}{e:TypeId}(hb:o b=some (.cells arr.toArray e)){off:Nat}(hoff:off+m<=arr.length){K:Unit->Heap->Prop}
 (x:∀ h' o',o'=o.put b (.cells (J7 arr off vs).toArray e)->Sep h' g o'->K () h'):wpH P (C31 t (.pointer (some ⟨b,off,none⟩)) v) K h:=by
 obtain ⟨ti,hti⟩:=Option.isSome_iff_exists.1 one.2
 have hs:ti.size=m:=by simpa [Program.cellsOf,hti] using one.1
 have hput:(h.without b).put b (.cells arr.toArray e)=h:=K3 (s.own b _ hb)
 unfold C31
 simp only [C5,Instr.sureAddr,G0,storeVar,K0 hti,hs,hv,List.size_toArray,hl,ne_eq,not_true_eq_false,if_false]
 rw [<- hput]
 refine I7 vs off 0 _ (by omega) h1 ?_
 rw [Nat.add_zero]
 have hp2:(h.without b).put b (.cells (J7 arr off vs).toArray e)=h.put b (.cells (J7 arr off vs).toArray e):=by
  rw [<- hput,Hf,hput]
 rw [hp2]
 exact x _ _ rfl (s.upd hb _)
theorem A86:prog.cellsOf Lx=1/\(prog.info? Lx).isSome=true:=⟨by kernel_rfl,by kernel_rfl⟩
theorem A85:prog.cellsOf Bi=1/\(prog.info? Bi).isSome=true:=⟨by kernel_rfl,by kernel_rfl⟩
def QB(g o:Heap)(b n:Nat)(f:Nat->Rat):Prop:=∃ xs:List QV,RowX o b xs/\xs.length=n/\Row RQr g xs n f
def onT(T:Tb)(x:Nat):Prop:=x=T.bt\/x=T.bE\/x=T.bS
section
variable {g o:Heap} {b n:Nat} {f:Nat->Rat}
theorem QB.ko(q:QB g o b n f){g' o':Heap}(l:g.le g')(e:o' b=o b):QB g' o' b n f:=by
 obtain ⟨xs,r,h1,h2⟩:=q
 exact ⟨xs,r.keep fun x hx=>by rw [e];exact hx,h1,h2.mono Ak l⟩
theorem QB.congr(q:QB g o b n f){f':Nat->Rat}(e:∀ i,i<n->f i=f' i):QB g o b n f':=by
 obtain ⟨xs,r,h1,h2⟩:=q
 exact ⟨xs,r,h1,h2.congr e⟩
theorem QB.at(q:QB g o b n f){i:Nat}(hi:i<n):∃ w:QV,RQ g w (f i)/\o.cell? (C2x (C2x ⟨b,0,none⟩ (i*4)) 0)=some (.bool w.s)/\o.cell? (C2x (C2x ⟨b,0,none⟩ (i*4)) 1)=some (.slice w.A w.n w.c)/\o.cell? (C2x (C2x ⟨b,0,none⟩ (i*4)) 2)=some (.bool w.s2)/\o.cell? (C2x (C2x ⟨b,0,none⟩ (i*4)) 3)=some (.slice w.A2 w.n2 w.c2):=by
 obtain ⟨xs,r,h1,h2⟩:=q
 obtain ⟨w,e1,hw⟩:=h2 i hi
 have hlt:i<xs.length:=by omega
 have cell:∀ k v,(enc xs[i])[k]? = some v->o.cell? (C2x (C2x ⟨b,0,none⟩ (i*4)) k)=some v:=by
  intro k v hk
  rw [D7,D7,Nat.zero_add]
  exact r.rowB.cell (i:=i) hlt (j:=k) hk
 rw [C3g hlt] at e1
 have e2:=Option.some.inj e1
 rw [e2] at cell
 exact ⟨w,hw,cell 0 _ rfl,cell 1 _ rfl,cell 2 _ rfl,cell 3 _ rfl⟩
theorem QB.rowV(q:QB g o b n f){h:Heap}(s:Sep h g o):RowV RQr h (some ⟨b,0,none⟩) n f:=by
 obtain ⟨xs,r,h1,h2⟩:=q
 exact ⟨xs,r.rowB.slF s.ole,h1,h2.mono Ak s.le⟩
theorem QB.store(q:QB g o b n f){h:Heap}(s:Sep h g o){i:Nat}(hi:i<n){w:QV}{z:Rat}(hw:RQ g w z){K:Unit->Heap->Prop}
 (k:∀ h' o',Sep h' g o'->QB g o' b n (fun a=>if a=i then z else f a)->(∀ y,y≠b->o' y=o y)->K () h'):wpH prog (C31 G7 (.pointer (some (C2x ⟨b,0,none⟩ (i*4)))) w.v) K h:=by
 obtain ⟨xs,r,h1,h2⟩:=q
 have hlt:i<xs.length:=by omega
 refine Nn A3p (y:=w) rfl s r (i:=i) hlt ?_
 intro h' o' x' eo s' r'
 exact k h' o' s' ⟨_,r',by rw [List.length_set];exact h1,Row.upd h2 hlt hw⟩ (fun y hy=>by rw [eo,B7 _ _ hy])
end
structure El (h g o:Heap) (be:Nat) (T:Tb) (M:Nat->Nat->Int) (S:Nat->Rat) (n k:Nat) (w:IV) (z:Int) (L D:Value):Prop where
 t:Tab h g o T M S
 rows:T.rows=n
 cols:T.cols=n
 hd:∃ e,o be=some (.cells (List.toArray [I (n:Int),I (k:Int),.pointer (some ⟨T.bt,0,none⟩),.bool w.s,.slice w.A w.n w.c,L,D]) e)
 off:¬ onT T be
 last:ZIr g w z
section
variable {h g o:Heap} {be:Nat} {T:Tb} {M:Nat->Nat->Int} {S:Nat->Rat} {n k:Nat} {w:IV} {z:Int} {L D:Value} {K:VP} {m:Nat}
theorem El.cell(X:El h g o be T M S n k w z L D){i:Nat}{v:Value}(hv:[I (n:Int),I (k:Int),.pointer (some ⟨T.bt,0,none⟩),.bool w.s,.slice w.A w.n w.c,L,D][i]? = some v):h.cell? ⟨be,i,none⟩=some v:=by
 obtain ⟨e,he⟩:=X.hd
 refine X.t.sep.cell ?_
 unfold Heap.cell?
 simp only [he]
 simpa using hv
theorem El.c0(X:El h g o be T M S n k w z L D):h.cell? (C2x ⟨be,0,none⟩ 0)=some (I (n:Int)):=by rw [D7];exact X.cell rfl
theorem El.c1(X:El h g o be T M S n k w z L D):h.cell? (C2x ⟨be,0,none⟩ 1)=some (I (k:Int)):=by rw [D7];exact X.cell rfl
theorem El.c2(X:El h g o be T M S n k w z L D):h.cell? (C2x ⟨be,0,none⟩ 2)=some (.pointer (some ⟨T.bt,0,none⟩)):=by rw [D7];exact X.cell rfl
theorem El.c3(X:El h g o be T M S n k w z L D):h.cell? (C2x (C2x ⟨be,0,none⟩ 3) 0)=some (.bool w.s):=by rw [D7,D7];exact X.cell rfl
theorem El.c4(X:El h g o be T M S n k w z L D):h.cell? (C2x (C2x ⟨be,0,none⟩ 3) 1)=some (.slice w.A w.n w.c):=by rw [D7,D7];exact X.cell rfl
theorem El.c5(X:El h g o be T M S n k w z L D):h.cell? (C2x ⟨be,0,none⟩ 5)=some L:=by rw [D7];exact X.cell rfl
theorem El.c6(X:El h g o be T M S n k w z L D):h.cell? (C2x ⟨be,0,none⟩ 6)=some D:=by rw [D7];exact X.cell rfl
theorem El.next(X:El h g o be T M S n k w z L D){h' g':Heap}(s:Sep h' g' o)(l:g.le g'):El h' g' o be T M S n k w z L D:=⟨X.t.next s l,X.rows,X.cols,X.hd,X.off,A5n _ _ _ _ l X.last⟩
theorem Tab.away(t:Tab h g o T M S){h' o':Heap}(s:Sep h' g o'){b:Nat}(hb:¬ onT T b)(ko:∀ y,y≠b->o' y=o y):Tab h' g o' T M S:=t.keep s (B3 _) (fun k x e hk=>by rw [ko k (fun e2=>hb (e2▸hk))];exact e)
theorem El.away(X:El h g o be T M S n k w z L D){h' o':Heap}(s:Sep h' g o'){b:Nat}(hb:¬ onT T b)(hbe:be≠b)(ko:∀ y,y≠b->o' y=o y):El h' g o' be T M S n k w z L D:=by
 obtain ⟨e,he⟩:=X.hd
 exact ⟨X.t.away s hb ko,X.rows,X.cols,⟨e,by rw [ko _ hbe];exact he⟩,X.off,X.last⟩
theorem El.set(X:El h g o be T M S n k w z L D){t:TypeId}{q off:Nat}{v:Value}{vs:List Value}(one:prog.cellsOf t=q/\(prog.info? t).isSome=true)(hv:v.cells=vs.toArray)(hl:vs.length=q)(h1:∀ x∈vs,A1e x=true)(hoff:off+q<=7){n' k':Nat}{w':IV}{z':Int}{L' D':Value}(hn:n'=n)(hw:ZIr g w' z')
 (hs:J7 [I (n:Int),I (k:Int),.pointer (some ⟨T.bt,0,none⟩),.bool w.s,.slice w.A w.n w.c,L,D] off vs=[I (n':Int),I (k':Int),.pointer (some ⟨T.bt,0,none⟩),.bool w'.s,.slice w'.A w'.n w'.c,L',D'])
 {K:Unit->Heap->Prop} (x:∀ h' o',El h' g o' be T M S n' k' w' z' L' D'->(∀ y,y≠be->o' y=o y)->K () h'):wpH prog (C31 t (.pointer (some (C2x ⟨be,0,none⟩ off))) v) K h:=by
 obtain ⟨e,he⟩:=X.hd
 rw [D7,Nat.zero_add]
 refine X.t.sep.storeRaw one hv hl h1 he hoff ?_
 intro h' o' eo s'
 have ko:∀ y,y≠be->o' y=o y:=fun y hy=>by rw [eo,B7 _ _ hy]
 subst hn
 exact x h' o' ⟨X.t.away s' X.off ko,X.rows,X.cols,⟨e,by rw [eo,C2,hs]⟩,X.off,hw⟩ ko
theorem B6r(X:El h g o be T M S n k w z L D)(gl:Gl g){i j:Nat}(hi:i<n)(hj:j<n)(bm:ZB m (M i j))(bz:ZB m z)(bs:Sz m (S i))(hd:Sz m (Rat.divInt (M i j) z))(hm1:1<=m)(hm:m<=6400000000)
 (hK:∀ w' h' g',g.le g'->Sep h' g' o->h.le h'->RQ g' w' (Rat.divInt (M i j) z/S i)->K w'.v h'):FCall prog A06 #[.pointer (some ⟨be,0,none⟩),I (i:Int),I (j:Int)] h K:=by
 have hi':i<T.rows:=by rw [X.rows];exact hi
 have hj':j<T.cols:=by rw [X.cols];exact hj
 refine B9y _ _ _ ?_
 unfold EAt
 obtain ⟨ws,is,d0,d1,d2,d3⟩:=X.t.sat hi'
 obtain ⟨wm,im,e0,e1⟩:=X.t.at hi' hj'
 refine ⟨_,rfl,_,X.c2,_,rfl,_,_,_,_,X.c3,X.c4,_,rfl,_,X.c2,_,rfl,_,_,_,X.t.c2,_,rfl,by omega,by omega,_,_,_,_,_,_,_,_,d0,d1,d2,d3,?_⟩
 refine Js X.t hi' ⟨_,_,_,rfl,B3 _,_,rfl,by omega,by omega,_,_,_,_,e0,e1,?_⟩
 refine X.t.sep.call (Ef gl.tz im X.last bm bz hm ?_)
 intro w1 g1 l1 i1 h1 s1
 refine ⟨_,_,_,_,_,_,_,_,rfl,X.t.sep.le_le s1 l1,?_⟩
 refine s1.call (Mc (gl.mono l1).tz i1 (Ak _ _ _ _ l1 is) hd bs hm1 hm ?_)
 intro w2 g2 l2 i2 h2 s2
 exact ⟨_,_,_,_,_,_,_,_,rfl,s1.le_le s2 l2,hK w2 h2 g2 (A0 l1 l2) s2 (A0 (X.t.sep.le_le s1 l1) (s1.le_le s2 l2)) i2⟩
theorem Zn(X:El h g o be T M S n k w z L D)(hk:k<n)(hn:n<=10000)
 (hK1:∀ i:Nat,k<i->i<n->M i k≠0->K (.tuple #[I (i:Int),.bool true]) h) (hK0:(∀ j,k<j->j<n->M j k=0)->K (.tuple #[I 0,.bool false]) h):FCall prog Dc #[.pointer (some ⟨be,0,none⟩)] h K:=by
 refine A3e _ ?_
 unfold A50
 refine ⟨_,rfl,_,X.c1,?_⟩
 rw [wiS k (by omega)]
 refine ⟨fun L' hp=>∃ i:Nat,k<i/\i<=n/\L'=[I (i:Int)]/\hp=h/\∀ j,k<j->j<i->M j k=0,fun L' _=>n-(iAt L' 0).toNat,⟨k+1,by omega,by omega,rfl,rfl,fun j _ _=>by omega⟩,?_⟩
 rintro y hp ⟨i,hi1,hi2,eL,rfl,hz⟩
 obtain rfl:=sI1 eL
 refine ⟨_,rfl,_,X.c0,B5 (fun hlt=>?_) (fun hge=>hK0 fun j a b=>hz j a (by omega))⟩
 have hin:i<n:=by omega
 have hi':i<T.rows:=by rw [X.rows];exact hin
 have hk':k<T.cols:=by rw [X.cols];exact hk
 refine ⟨_,rfl,_,X.c2,_,rfl,_,X.c1,?_⟩
 obtain ⟨wm,im,e0,e1⟩:=X.t.at hi' hk'
 refine Js X.t hi' ⟨_,_,_,rfl,B3 _,_,rfl,by omega,by omega,_,_,_,_,e0,e1,?_⟩
 refine F9 (im.mono X.t.sep.le) ⟨_,rfl,B3 _,Br.not (B5 (fun e=>?_) (fun e=>hK1 i hi1 hin e))⟩
 rw [wiS i (by omega)]
 refine ⟨⟨i+1,by omega,by omega,rfl,rfl,fun j a b=>?_⟩,by simp only [Hz];omega⟩
 by_cases c:j=i
 ·rw [c];exact e
 ·exact hz j a (by omega)
theorem A0j(X:El h g o be T M S n k w z L D)(hk:k<n)(hn:n<=10000)(hz:z≠0)(hM:∀ a b,k<=a->a<n->b<n->ZB m (M a b))(bz:ZB m z)(hm1:1<=m)(hm:2*m+1<=100000000)
 (hK:∀ h' g' o' w',g.le g'->El h' g' o' be T (fun a b=>if k<a then (M k k*M a b-M a k*M k b).tdiv z else M a b) S n (k+1) w' (M k k) L D->(∀ b,¬ onT T b->b≠be->o' b=o b)->K (.tuple #[]) h'):FCall prog Nc #[.pointer (some ⟨be,0,none⟩)] h K:=by
 refine A3f _ ?_
 unfold A51
 refine ⟨_,rfl,_,X.c1,?_⟩
 rw [wiS k (by omega)]
 refine ⟨fun L' hp=>∃ (i:Nat) (g1 o1:Heap),k<i/\i<=n/\L'=[I (i:Int)]/\g.le g1/\El hp g1 o1 be T (fun a b=>if k<a/\a<i then (M k k*M a b-M a k*M k b).tdiv z else M a b) S n k w z L D/\(∀ b,¬ onT T b->b≠be->o1 b=o b),fun L' _=>n-(iAt L' 0).toNat,⟨k+1,g,o,by omega,by omega,rfl,B3 _,⟨X.t.congr (fun a b _ _=>by rw [if_neg (by omega)]) (fun _ _=>rfl),X.rows,X.cols,X.hd,X.off,X.last⟩,fun _ _ _=>rfl⟩,?_⟩
 rintro y hp ⟨i,g1,o1,hi1,hi2,eL,lg,X1,ko⟩
 obtain rfl:=sI1 eL
 refine ⟨_,rfl,_,X1.c0,B5 (fun hlt=>?_) (fun hge=>?_)⟩
 ·have hin:i<n:=by omega
  refine ⟨_,rfl,_,X1.c2,_,rfl,_,_,_,_,X1.c3,X1.c4,?_⟩
  have er:=X.rows
  have ec:=X.cols
  refine A61 (m:=m) X1.t (i:=i) (p:=k) (c:=k) (by omega) (by omega) (by omega) (by omega) X1.last hz hm1 hm (fun b hb=>by rw [if_neg (by omega)];exact hM i b (by omega) hin (by omega)) (fun b hb=>by rw [if_neg (by omega)];exact hM k b (C2w _) hk (by omega)) bz ?_
  intro h2 g2 o2 l2 t2 ko2
  rw [wiS i (by omega)]
  have hbe:be≠T.bE:=fun e=>X.off (.inr (.inl e))
  obtain ⟨e,he⟩:=X1.hd
  refine ⟨rfl,⟨i+1,g2,o2,by omega,by omega,rfl,A0 lg l2,⟨t2.congr (fun a b _ _=>?_) (fun _ _=>rfl),er,ec,⟨e,by rw [ko2 _ hbe];exact he⟩,X.off,A5n _ _ _ _ l2 X1.last⟩,fun b hb hb2=>by rw [ko2 b (fun e=>hb (.inr (.inl e)))];exact ko b hb hb2⟩,by simp only [Hz];omega⟩
  by_cases c:a=i
  ·have q1:¬ (k<k/\k<i):=by omega
   have q2:¬ (k<i/\i<i):=by omega
   simp only [if_neg q1,if_neg q2]
   rw [if_pos c,if_pos (show k<a/\a<i+1 by omega),c]
  ·rw [if_neg c]
   by_cases c2:k<a/\a<i
   ·rw [if_pos c2,if_pos (by omega)]
   ·rw [if_neg c2,if_neg (show ¬ (k<a/\a<i+1) by omega)]
 ·have hie:i=n:=by omega
  subst hie
  have hk':k<T.rows:=by rw [X.rows];exact hk
  have hk2:k<T.cols:=by rw [X.cols];exact hk
  refine ⟨_,rfl,_,X1.c2,?_⟩
  obtain ⟨wm,im,e0,e1⟩:=X1.t.at hk' hk2
  rw [if_neg (by omega)] at im
  refine Js X1.t hk' ⟨_,_,_,rfl,_,rfl,by omega,by omega,_,_,_,_,e0,e1,?_⟩
  refine ⟨_,rfl,?_⟩
  refine X1.set (n':=i) (k':=k) (w':=wm) (z':=M k k) (L':=L) (D':=D) (vs:=[.bool wm.s,.slice wm.A wm.n wm.c]) A1u rfl rfl (by intro x hx;simp only [C3d,C36,or_false] at hx;rcases hx with rfl|rfl<;>rfl) (by omega) rfl im rfl ?_
  intro h3 o3 X3 ko3
  refine ⟨_,rfl,_,X3.c1,_,rfl,?_⟩
  rw [wiS k (by omega)]
  refine X3.set (n':=i) (k':=k+1) (w':=wm) (z':=M k k) (L':=L) (D':=D) (vs:=[I ((k+1:Nat):Int)]) A86 rfl rfl (by intro x hx;simp only [C3d,C36,or_false] at hx;subst hx;rfl) (by omega) rfl im rfl ?_
  intro h4 o4 X4 ko4
  refine hK h4 g1 o4 wm lg ⟨X4.t.congr (fun a b ha hb=>?_) (fun _ _=>rfl),X4.rows,X4.cols,X4.hd,X4.off,X4.last⟩ (fun b hb hb2=>by rw [ko4 b hb2,ko3 b hb2];exact ko b hb hb2)
  have:a<i:=by rw [<- X.rows];exact ha
  by_cases c:k<a
  ·rw [if_pos ⟨c,this⟩,if_pos c]
  ·rw [if_neg (fun x=>c x.1),if_neg c]
end
theorem C1t{l s r:Rat}(hl:l≠0)(hs:s≠0):l*(s*r)/l/s=r:=by
 have h1:=C38 _ hl
 have h2:=C38 _ hs
 rw [C3l,C3l]
 grind
section
variable {E:Nat->Rat} {n k:Nat}
theorem A98(sy:Yl n (mtx E n))(hk:k<=n)(ok:∀ m,m<k->Dr (mtx E n) n m):LdR n k (mtx E n) (elE E n n k):=LdR.run sy k hk ok
theorem B4m(hk:k<n):A3s n k (elP E n n k)=A3u n k (elE E n n k):=(A99 E (Nat.le_of_lt hk)).row hk
theorem A4f(sy:Yl n (mtx E n))(hk:k<n)(ok:∀ m,m<=k->Dr (mtx E n) n m)(e:ldA (mtx E n) k k k=0):elP E n n (k+1)=elP E n n k:=by
 have r:=B4m (E:=E) hk
 rw [(A98 sy (by omega) fun m hm=>ok m (by omega)).none hk e (ok k (C2w _))] at r
 show Vr n k (elP E n n k)=_
 unfold Vr
 rw [r,if_neg (C35 n)]
theorem A4e(sy:Yl n (mtx E n))(hk:k<n)(ok:∀ m,m<k->Dr (mtx E n) n m)(e:ldA (mtx E n) k k k≠0):
 (∀ i j,k<i->i<n->(elP E n n (k+1)).M i j=((elP E n n k).M k k*(elP E n n k).M i j-(elP E n n k).M i k*(elP E n n k).M k j).tdiv (elP E n n k).last)/\(elP E n n (k+1)).last=(elP E n n k).M k k/\∀ i,k<i->(elP E n n (k+1)).S i=(elP E n n k).S i:=by
 have R:=A98 sy (by omega) ok
 have r:=B4m (E:=E) hk
 rw [R.row hk e] at r
 have hl:=R.len
 rw [<- C1f E (Nat.le_of_lt hk)] at hl
 have se:elP E n n (k+1)=Vr n k (elP E n n k):=rfl
 unfold Vr at se
 rw [r,if_pos hk] at se
 generalize elP E n n k=s at *
 have x1:=Vj s.cs.length k
 have x2:∀ i,k<i->xch s.cs.length k i=i:=fun i hi=>by unfold xch;rw [if_neg (by omega),if_neg (by omega)]
 rw [se]
 refine ⟨fun i j hi _=>?_,rfl,fun i hi=>?_⟩
 ·show clr (fun i=>s.M (xch s.cs.length k i)) s.cs.length k s.last i j=_
  unfold clr
  rw [if_neg (by omega)]
  show (s.M (xch s.cs.length k s.cs.length) k*s.M (xch s.cs.length k i) j-s.M (xch s.cs.length k i) k*s.M (xch s.cs.length k s.cs.length) j).tdiv s.last=_
  rw [x1,x2 i hi]
 ·show s.S (xch s.cs.length k i)=_
  rw [x2 i hi]
theorem C2u(sy:Yl n (mtx E n)):∀ k,k<=n->(∀ m,m<k->Dr (mtx E n) n m)->∀ i,k<=i->i<n->(elP E n n k).S i=Sr E n i:=by
 intro k
 induction k with
 | zero=>intro _ _ i _ _;rfl
 | succ k ih=>
  intro hk ok i hi hin
  have ih':=ih (by omega) (fun m hm=>ok m (by omega)) i (by omega) hin
  by_cases e:ldA (mtx E n) k k k=0
  ·rw [A4f sy hk (fun m hm=>ok m (by omega)) e];exact ih'
  ·rw [(A4e sy hk (fun m hm=>ok m (by omega)) e).2.2 i (by omega)];exact ih'
structure LdF (E:Nat->Rat) (n k Q:Nat):Prop where
 val:∀ i j,k<=i->i<n->j<n->((elP E n n k).M i j:Rat)=(elP E n n k).last*(Sr E n i*ldA (mtx E n) k i j)
 last:(elP E n n k).last≠0
 zM:∀ a b,a<n->b<n->ZB Q ((elP E n n k).M a b)
 zl:ZB Q (elP E n n k).last
 zS:∀ a,a<n->Sz Q (Sr E n a)
 zA:∀ i j,k<=i->i<n->j<n->Sz Q (ldA (mtx E n) k i j)
theorem ldF{m Q:Nat}(hs:∀ i,i<n*n->Sz m (E i))(hQ1:3^n*bnd n m+bnd n m<=Q)(sy:Yl n (mtx E n))(hk:k<=n)(ok:∀ m,m<k->Dr (mtx E n) n m):LdF E n k Q:=by
 have rel:=A99 E (rows:=n) (cols:=n) hk
 have R:=A98 sy hk ok
 have hlen:=R.len
 have z:=B8x (E:=E) (rows:=n) (cols:=n) (c:=k) hs hk
 have hbn1:1<=bnd n m:=by unfold bnd;omega
 have hb3:3^(elP E n n k).cs.length*bnd n m<=3^n*bnd n m:=C2z _ (C3k (by decide) z.len)
 have hS:=C2u sy k hk ok
 have val:∀ i j,k<=i->i<n->j<n->((elP E n n k).M i j:Rat)=(elP E n n k).last*(Sr E n i*ldA (mtx E n) k i j):=fun i j hi hin hj=>by
  rw [rel.val i j hin hj,if_neg (by omega),R.low i j hi hin hj,hS i hi hin]
 have zS:∀ a,a<n->Sz (bnd n m) (Sr E n a):=fun a ha=>A1t fun j hj=>hs _ (Ac ha hj)
 refine ⟨val,rel.last,fun a b ha hb=>(z.M a b ha hb).mono (by omega),z.last.mono (by omega),fun a ha=>(zS a ha).mono (by omega),fun i j hi hin hj=>?_⟩
 have e:ldA (mtx E n) k i j=Rat.divInt ((elP E n n k).M i j) (elP E n n k).last/Sr E n i:=by
  have hp:=Pg E n i
  rw [Rat.divInt_eq_div,val i j hi hin hj,C1t (U3 rel.last) (by grind)]
 rw [e]
 exact ((Dp rel.last (z.M i j hin hj) z.last).div (zS i hin) hbn1).mono (by omega)
end
def Wc(A:Nat->Nat->Rat)(n k:Nat):Nat->Rat:=fun t=>if t%n<k then ldL A (t/n) (t%n) else 0
def A0a(A:Nat->Nat->Rat)(k:Nat):Nat->Rat:=fun j=>if j<k then ldD A j else 0
structure Ld (h g o:Heap) (be bl bd:Nat) (T:Tb) (E:Nat->Rat) (n k:Nat) (M:Nat->Nat->Int) (w:IV) (Lf Df:Nat->Rat):Prop where
 e:El h g o be T M (Sr E n) n k w (elP E n n k).last (.slice (some ⟨bl,0,none⟩) (n*n) (n*n)) (.slice (some ⟨bd,0,none⟩) n n)
 m:∀ i j,k<=i->i<n->j<n->M i j=(elP E n n k).M i j
 l:QB g o bl (n*n) Lf
 d:QB g o bd n Df
 tl:¬ onT T bl
 td:¬ onT T bd
 el:be≠bl
 ed:be≠bd
 ld:bl≠bd
section
variable {h g o:Heap} {be bl bd:Nat} {T:Tb} {E:Nat->Rat} {n k:Nat} {M:Nat->Nat->Int} {w:IV} {Lf Df:Nat->Rat} {K:VP} {Q:Nat}
theorem Ld.next(X:Ld h g o be bl bd T E n k M w Lf Df){h' g':Heap}(s:Sep h' g' o)(l:g.le g'):Ld h' g' o be bl bd T E n k M w Lf Df:=⟨X.e.next s l,X.m,X.l.ko l rfl,X.d.ko l rfl,X.tl,X.td,X.el,X.ed,X.ld⟩
theorem Ld.congr(X:Ld h g o be bl bd T E n k M w Lf Df){Lf' Df':Nat->Rat}(e1:∀ i,i<n*n->Lf i=Lf' i)(e2:∀ i,i<n->Df i=Df' i):Ld h g o be bl bd T E n k M w Lf' Df':=⟨X.e,X.m,X.l.congr e1,X.d.congr e2,X.tl,X.td,X.el,X.ed,X.ld⟩
theorem Ld.storeL(X:Ld h g o be bl bd T E n k M w Lf Df){i:Nat}(hi:i<n*n){v:QV}{z:Rat}(hv:RQ g v z){K:Unit->Heap->Prop}
 (x:∀ h' o',Ld h' g o' be bl bd T E n k M w (fun a=>if a=i then z else Lf a) Df->K () h'):wpH prog (C31 G7 (.pointer (some (C2x ⟨bl,0,none⟩ (i*4)))) v.v) K h:=by
 refine X.l.store X.e.t.sep hi hv ?_
 intro h' o' s' q ko
 exact x h' o' ⟨X.e.away s' X.tl X.el ko,X.m,q,X.d.ko (B3 _) (ko _ X.ld.symm),X.tl,X.td,X.el,X.ed,X.ld⟩
theorem Ld.storeD(X:Ld h g o be bl bd T E n k M w Lf Df){i:Nat}(hi:i<n){v:QV}{z:Rat}(hv:RQ g v z){K:Unit->Heap->Prop}
 (x:∀ h' o',Ld h' g o' be bl bd T E n k M w Lf (fun a=>if a=i then z else Df a)->K () h'):wpH prog (C31 G7 (.pointer (some (C2x ⟨bd,0,none⟩ (i*4)))) v.v) K h:=by
 refine X.d.store X.e.t.sep hi hv ?_
 intro h' o' s' q ko
 exact x h' o' ⟨X.e.away s' X.td X.ed ko,X.m,X.l.ko (B3 _) (ko _ X.ld),q,X.tl,X.td,X.el,X.ed,X.ld⟩
theorem Ld.at(X:Ld h g o be bl bd T E n k M w Lf Df)(gl:Gl g)(F:LdF E n k Q){i j:Nat}(hk:k<=i)(hi:i<n)(hj:j<n)(hQ1:1<=Q)(hQ:Q<=6400000000)
 (hK:∀ w' h' g',g.le g'->Sep h' g' o->h.le h'->RQ g' w' (ldA (mtx E n) k i j)->K w'.v h'):FCall prog A06 #[.pointer (some ⟨be,0,none⟩),I (i:Int),I (j:Int)] h K:=by
 have em:=X.m i j hk hi hj
 have hS:=Pg E n i
 refine B6r (m:=Q) X.e gl hi hj (by rw [em];exact F.zM i j hi hj) F.zl (F.zS i hi) (by rw [em];exact Dp F.last (F.zM i j hi hj) F.zl) hQ1 hQ ?_
 intro w' h' g' lg s lh iq
 refine hK w' h' g' lg s lh ?_
 rw [em,Rat.divInt_eq_div,F.val i j hk hi hj,C1t (U3 F.last) (by grind)] at iq
 exact iq
theorem Ld.partner(X:Ld h g o be bl bd T E n k M w Lf Df)(F:LdF E n k Q)(hk:k<n)(hn:n<=10000):FCall prog Dc #[.pointer (some ⟨be,0,none⟩)] h (fun r h'=>h'=h/\∃ (a:Nat) (b:Bool),r= .tuple #[I (a:Int),.bool b]/\(b=true->k<a/\a<n/\ldA (mtx E n) k a k≠0)/\(b=false->∀ j,k<j->j<n->ldA (mtx E n) k j k=0)):=by
 have key:∀ i,k<=i->i<n->(M i k=0↔ldA (mtx E n) k i k=0):=fun i hki hi=>by
  have hv:=F.val i k hki hi hk
  have h3:=U3 F.last
  have h4:Sr E n i≠0:=by have:=Pg E n i;grind
  rw [X.m i k hki hi hk]
  constructor
  ·intro e
   rw [e] at hv
   have h0:((0:Int):Rat)=0:=rfl
   rw [h0] at hv
   rcases Rat.mul_eq_zero.1 hv.symm with e1|e1
   ·exact absurd e1 h3
   ·rcases Rat.mul_eq_zero.1 e1 with e2|e2
    ·exact absurd e2 h4
    ·exact e2
  ·intro e
   rw [e,Rat.mul_zero,Rat.mul_zero] at hv
   exact_mod_cast hv
 refine Zn X.e hk hn (fun i h1 h2 h3=>⟨rfl,i,true,rfl,fun _=>⟨h1,h2,fun e=>h3 ((key i (by omega) h2).2 e)⟩,fun e=>by cases e⟩) (fun hz=>⟨rfl,0,false,rfl,(fun e=>by cases e),fun _ j h1 h2=>(key j (by omega) h2).1 (hz j h1 h2)⟩)
end
theorem Zg{q:Rat}:q.num.sign<0↔q<0:=by
 have h1:q.num.sign<0↔q.num<0:=by
  rcases Int.lt_trichotomy q.num 0 with c|c|c
  ·rw [Int.sign_eq_neg_one_of_neg c];exact ⟨fun _=>c,fun _=>by decide⟩
  ·rw [c];exact ⟨fun h=>by simp at h,fun h=>by omega⟩
  ·rw [Int.sign_eq_one_of_pos c];exact ⟨fun h=>by omega,fun h=>by omega⟩
 have h2:=Rat.num_nonneg (q:=q)
 rw [h1]
 constructor
 ·intro h
  refine C32 fun hn=>?_
  have:0<=q:=by grind
  have:=h2.2 this
  omega
 ·intro h
  refine C32 fun hn=>?_
  have:=h2.1 (by omega)
  grind
theorem Gq{n i j:Nat}(hj:j<n):(i*n+j)/n=i/\(i*n+j)%n=j:=by
 refine ⟨?_,?_⟩
 ·rw [C3i,Nat.mul_add_div (by omega),Nat.div_eq_of_lt hj,Nat.add_zero]
 ·rw [C3i,Nat.mul_add_mod,Nat.mod_eq_of_lt hj]
def B64(A:Nat->Nat->Rat)(n k i:Nat):Nat->Rat:=fun t=>if t%n=k/\t/n<i then ldL A (t/n) k else Wc A n k t
theorem A42(A:Nat->Nat->Rat){n k i:Nat}(h:i=n\/ldA A k k k=0/\k<i):∀ t,t<n*n->B64 A n k i t=Wc A n (k+1) t:=by
 intro t ht
 unfold B64 Wc
 have hd:t/n<n:=C3c ht
 by_cases c:t%n=k
 ·rw [if_pos (show t%n<k+1 by omega),c]
  by_cases c2:t/n<i
  ·rw [if_pos ⟨rfl,c2⟩]
  ·rw [if_neg (fun x=>c2 x.2),if_neg (C35 k)]
   rcases h with h|⟨h1,h2⟩
   ·omega
   ·unfold ldL
    rw [if_neg (by omega),if_neg (by omega),if_pos h1]
 ·rw [if_neg (fun x=>c x.1)]
  by_cases c2:t%n<k
  ·rw [if_pos c2,if_pos (by omega)]
  ·rw [if_neg c2,if_neg (by omega)]
theorem A9i(A:Nat->Nat->Rat)(k:Nat):(fun a=>if a=k then ldA A k k k else A0a A k a)=A0a A (k+1):=by
 funext a
 unfold A0a ldD
 by_cases c:a=k
 ·rw [if_pos c,if_pos (by omega),c]
 ·rw [if_neg c]
  by_cases c2:a<k
  ·rw [if_pos c2,if_pos (by omega)]
  ·rw [if_neg c2,if_neg (by omega)]
section
variable {h:Heap} {A:Option Addr} {E:Nat->Rat} {n cap m Q:Nat} {K:VP}
theorem Id(gl:Gl h)(rq:RowV RQr h A (n*n) E)(hcap:n*n<=cap)(hn1:1<=n)(hn:n<=64)(sy:Yl n (mtx E n))(hs:∀ i,i<n*n->Sz m (E i))(hQ1:3^n*bnd n m+bnd n m<=Q)(hQ:2*Q+1<=100000000)
 (hK1:(∀ k,k<n->Dr (mtx E n) n k)->∀ h' g' o' be bl bd T M w,h.le h'->h.le g'->Ld h' g' o' be bl bd T E n n M w (Wc (mtx E n) n n) (A0a (mtx E n) n)->K (.tuple #[.pointer (some ⟨be,0,none⟩),.bool true]) h')
 (hK0:∀ k,k<n->(∀ k',k'<k->Dr (mtx E n) n k')->¬ Dr (mtx E n) n k->∀ h' g' o' be bl bd T M w,h.le h'->h.le g'->Ld h' g' o' be bl bd T E n k M w (Wc (mtx E n) n k) (A0a (mtx E n) k)->K (.tuple #[.pointer (some ⟨be,0,none⟩),.bool false]) h'):FCall prog Cb #[.slice A (n*n) cap,I (n:Int)] h K:=by
 have hnn:n*n<=64*64:=C33 hn hn
 have hnp:1<=n*n:=Nat.mul_pos hn1 hn1
 have hb:bnd n m<=Q:=by omega
 have hbe:bnd n m=1+n*m+m:=rfl
 refine Yg _ _ _ _ ?_
 unfold Vf
 refine Lo _ _ _ _ ?_
 unfold Hg
 refine Wa (m:=m) gl rq hcap hn1 (by omega) hn1 (by omega) hs (by omega) ?_
 intro h1 g1 o1 T lg1 t1 er ec
 refine ⟨_,rfl,?_⟩
 refine t1.sep.call (Fl (by decide) (by decide) ?_)
 intro s2 A2 n2 c2 g2 l2 i2 h2 sp2
 have t2:=t1.next sp2 l2
 refine ⟨_,_,_,_,rfl,Xo ?_⟩
 intro be hbe2
 have fr:∀ {hh gg oo:Heap} {k x b},Sep hh gg oo->oo k=some x->hh b=none->k≠b:=by
  rintro hh gg oo k x b s e hb rfl
  rw [s.own k x e] at hb;cases hb
 obtain ⟨⟨y1,z1⟩,⟨y2,z2⟩,⟨y3,z3⟩⟩:=t2.own
 have off1:∀ {hh gg oo:Heap} {b},Tab hh gg oo T (Yj E n) (Sr E n)->hh b=none->¬ onT T b:=by
  intro hh gg oo b t hb hx
  obtain ⟨⟨y1,z1⟩,⟨y2,z2⟩,⟨y3,z3⟩⟩:=t.own
  rcases hx with rfl|rfl|rfl
  ·exact fr t.sep z1 hb rfl
  ·exact fr t.sep z2 hb rfl
  ·exact fr t.sep z3 hb rfl
 have s3:=t2.sep.new hbe2 (.cells (Value.agg #[I (n:Int),I (0:Int),.pointer (some ⟨T.bt,0,none⟩),.bool s2,.slice A2 n2 c2,.slice none 0 0,.slice none 0 0]).cells Jj)
 have X3:El _ g2 _ be T (Yj E n) (Sr E n) n 0 ⟨s2,A2,n2,c2⟩ 1 (.slice none 0 0) (.slice none 0 0):=⟨t2.keep s3 (B3 _) (fun k x e _=>by rw [B7 _ _ (fr t2.sep e hbe2)];exact e),er,ec,⟨Jj,C2 _ _ _⟩,off1 t2 hbe2,i2⟩
 refine ⟨_,rfl,_,rfl,?_⟩
 clear t1
 have lh3:h.le (h2.put be (.cells (Value.agg #[I (n:Int),I (0:Int),.pointer (some ⟨T.bt,0,none⟩),.bool s2,.slice A2 n2 c2,.slice none 0 0,.slice none 0 0]).cells Jj)):=A0 lg1 (A0 l2 X3.t.sep.le)
 generalize (h2.put be (.cells (Value.agg #[I (n:Int),I (0:Int),.pointer (some ⟨T.bt,0,none⟩),.bool s2,.slice A2 n2 c2,.slice none 0 0,.slice none 0 0]).cells Jj))=h3 at *
 generalize (o1.put be (.cells (Value.agg #[I (n:Int),I (0:Int),.pointer (some ⟨T.bt,0,none⟩),.bool s2,.slice A2 n2 c2,.slice none 0 0,.slice none 0 0]).cells Jj))=o3 at *
 have lg2:h.le g2:=A0 lg1 l2
 have ewn:B4 ((n:Int)*(n:Int))=((n*n:Nat):Int):=by rw [<- C3b];exact P8 (by omega)
 rw [ewn]
 have ownbe:∀ {hh gg oo M k w z L D},El hh gg oo be T M (Sr E n) n k w z L D->∃ x,oo be=some x:=fun X=>by obtain ⟨e,he⟩:=X.hd;exact ⟨_,he⟩
 refine S6 B7z (zx:=Af) rfl (by omega) (by omega) (by omega) (by omega) ?_
 intro bl hbl
 simp only [C30]
 refine ⟨_,_,_,rfl,_,rfl,?_⟩
 have nbl:be≠bl:=by obtain ⟨x,hx⟩:=ownbe X3;exact fr X3.t.sep hx hbl
 have X4:=X3.away (X3.t.sep.new hbl (.cells ((C2y (n*n) Af).flatMap enc).toArray G7)) (off1 X3.t hbl) nbl (fun y hy=>B7 _ _ hy)
 have q4:QB g2 (o3.put bl (.cells ((C2y (n*n) Af).flatMap enc).toArray G7)) bl (n*n) (fun _=>0):=⟨_,RowX.mk,C34,fun i hi=>⟨Af,by rw [C3a,if_pos hi],RQ.zero⟩⟩
 have tl:=off1 X3.t hbl
 refine X4.set (n':=n) (k':=0) (w':=⟨s2,A2,n2,c2⟩) (z':=1) (L':=.slice (some ⟨bl,0,none⟩) (n*n) (n*n)) (D':=.slice none 0 0) (vs:=[.slice (some ⟨bl,0,none⟩) (n*n) (n*n)]) A85 rfl rfl (by intro x hx;simp only [C3d,C36,or_false] at hx;subst hx;rfl) (by omega) rfl X4.last rfl ?_
 intro h5 o5 X5 ko5
 have q5:=q4.ko (B3 _) (ko5 _ nbl.symm)
 refine S6 B7z (zx:=Af) rfl (by omega) (by omega) (by omega) (by omega) ?_
 intro bd hbd
 simp only [C30]
 refine ⟨_,_,_,rfl,_,rfl,?_⟩
 have nbd:be≠bd:=by obtain ⟨x,hx⟩:=ownbe X5;exact fr X5.t.sep hx hbd
 have nld:bl≠bd:=by obtain ⟨xs,⟨e,hx⟩,_⟩:=q5;exact fr X5.t.sep hx hbd
 have td:=off1 X5.t hbd
 have X6:=X5.away (X5.t.sep.new hbd (.cells ((C2y n Af).flatMap enc).toArray G7)) td nbd (fun y hy=>B7 _ _ hy)
 have d6:QB g2 (o5.put bd (.cells ((C2y n Af).flatMap enc).toArray G7)) bd n (fun _=>0):=⟨_,RowX.mk,C34,fun i hi=>⟨Af,by rw [C3a,if_pos hi],RQ.zero⟩⟩
 have q6:=q5.ko (o':=o5.put bd (.cells ((C2y n Af).flatMap enc).toArray G7)) (B3 _) (B7 _ _ nld)
 refine X6.set (n':=n) (k':=0) (w':=⟨s2,A2,n2,c2⟩) (z':=1) (L':=.slice (some ⟨bl,0,none⟩) (n*n) (n*n)) (D':=.slice (some ⟨bd,0,none⟩) n n) (vs:=[.slice (some ⟨bd,0,none⟩) n n]) A85 rfl rfl (by intro x hx;simp only [C3d,C36,or_false] at hx;subst hx;rfl) (by omega) rfl X6.last rfl ?_
 intro h7 o7 X7 ko7
 have X0:Ld h7 g2 o7 be bl bd T E n 0 (Yj E n) ⟨s2,A2,n2,c2⟩ (Wc (mtx E n) n 0) (A0a (mtx E n) 0):=⟨X7,fun _ _ _ _ _=>rfl,(q6.ko (B3 _) (ko7 _ nbl.symm)).congr (fun i _=>by unfold Wc;rw [if_neg (by omega)]),(d6.ko (B3 _) (ko7 _ nbd.symm)).congr (fun i _=>by unfold A0a;rw [if_neg (by omega)]),tl,td,nbl,nbd,nld⟩
 clear X7 X6 X5 X4 X3 q6 d6 q5 q4 ko7 ko5
 have hQp:1<=Q:=by omega
 have ix:∀ {i j:Nat},i<n->j<n->B4 (B4 ((i:Int)*(n:Int))+(j:Int))=((i*n+j:Nat):Int):=fun {i j} hi hj=>by
  have:=Ac hi hj
  rw [<- C3b,P8 (by omega)]
  exact P8 (n:=i*n+j) (by omega)
 have ew1:∀ {i:Nat},i<n->B4 ((i:Int)+1)=((i+1:Nat):Int):=fun {i} hi=>by rw [B6]<;>omega
 refine ⟨fun L hq=>∃ (k:Nat) (g' o':Heap) (M:Nat->Nat->Int) (w:IV),k<=n/\L=[.bool true,I (k:Int)]/\h.le g'/\(∀ k',k'<k->Dr (mtx E n) n k')/\Ld hq g' o' be bl bd T E n k M w (Wc (mtx E n) n k) (A0a (mtx E n) k),fun L _=>n-(iAt L 1).toNat,⟨0,g2,o7,_,_,by omega,rfl,lg2,fun k' hk'=>by omega,X0⟩,?_⟩
 clear X0
 rintro poss z5 hq ⟨k,g',o',M,w,hk,eL,lg,ok,X⟩
 simp only [C3j,C3p,Value.int.injEq,true_and,and_true] at eL
 obtain ⟨rfl,rfl⟩:=eL
 refine B5 (fun hlt=>?_) (fun hge=>by
  have:k=n:=by omega
  subst this
  exact hK1 ok hq g' o' be bl bd T M w (A0 lg X.e.t.sep.le) lg X)
 have hkn:k<n:=by omega
 have F:=ldF hs hQ1 sy hk ok
 refine X.at (gl.mono lg) F (C2w _) hkn hkn hQp (by omega) ?_
 intro w1 h1 g1 l1 s1 lh1 i1
 refine ⟨_,_,_,_,_,_,_,_,rfl,?_⟩
 have X1:=X.next s1 l1
 have lg1':h.le g1:=A0 lg l1
 refine FCall.mono (X1.partner F hkn (by omega)) ?_
 rintro r h1' ⟨rfl,a,b,rfl,hb1,hb0⟩
 have i1':RQ h1' w1 (ldA (mtx E n) k k k):=Ak _ _ _ _ s1.le i1
 refine ⟨_,_,rfl,fun L hx=>L=[.bool true]/\hx=h1'/\Dr (mtx E n) n k,?_,?_⟩
 ·refine A21 i1' ⟨_,rfl,B5 (fun hneg=>?_) (fun hpos=>?_)⟩
  ·have hneg':=Zg.1 hneg
   exact hK0 k hkn ok (fun x=>absurd x.1 (by grind)) h1' g1 o' be bl bd T M w (A0 lg1' s1.le) lg1' X1
  ·have hnn:0<=ldA (mtx E n) k k k:=by
    have:¬ ldA (mtx E n) k k k<0:=fun c=>hpos (Zg.2 c)
    grind
   refine Fy i1' ⟨_,rfl,B5 (fun e0=>?_) (fun ne0=>⟨rfl,rfl,hnn,fun e=>absurd e ne0⟩)⟩
   cases b with
   | true=>
    obtain ⟨b1,b2,b3⟩:=hb1 rfl
    exact hK0 k hkn ok (fun x=>b3 (x.2 e0 a b1 b2)) h1' g1 o' be bl bd T M w (A0 lg1' s1.le) lg1' X1
   | false=>exact ⟨rfl,rfl,hnn,fun _ j c1 c2=>hb0 rfl j c1 c2⟩
 rintro p1 hx ⟨eL,rfl,okk⟩
 simp only [C3j,C3p,and_true] at eL
 subst eL
 have ok': ∀ k',k'<=k->Dr (mtx E n) n k':=fun k' hk'=>by
  by_cases c:k'=k
  ·rw [c];exact okk
  ·exact ok k' (by omega)
 refine ⟨_,rfl,_,_,_,X1.e.c5,?_⟩
 refine s1.call (Bj (by omega) ?_)
 intro w2 g3 l3 i3 h4 s4
 refine ⟨_,_,_,_,_,_,_,_,rfl,s1.le_le s4 l3,_,rfl,?_⟩
 rw [ix hkn hkn]
 have X2:=X1.next s4 l3
 have hkk:=Ac hkn hkn
 refine ⟨by omega,by omega,?_⟩
 refine X2.storeL hkk (z:=1) i3 ?_
 intro h5 o5 X5
 refine ⟨_,rfl,_,_,_,X5.e.c6,_,rfl,by omega,by omega,?_⟩
 have i13:RQ g3 w1 (ldA (mtx E n) k k k):=Ak _ _ _ _ l3 i1
 refine X5.storeD hkn i13 ?_
 intro h6 o6 X6
 have X7:Ld h6 g3 o6 be bl bd T E n k M w (B64 (mtx E n) n k (k+1)) (A0a (mtx E n) (k+1)):=X6.congr (fun t ht=>by
  show (if t=k*n+k then 1 else Wc (mtx E n) n k t)=_
  unfold B64
  have dm:=Nat.div_add_mod t n
  by_cases c:t=k*n+k
  ·obtain ⟨d1,d2⟩:=Gq (i:=k) hkn
   rw [if_pos c,c,d1,d2,if_pos ⟨rfl,by omega⟩,A2e]
  ·rw [if_neg c]
   by_cases c2:t%n=k/\t/n<k+1
   ·rw [if_pos c2]
    have hlt:t/n<k:=by
     refine C32 fun hno=>c ?_
     have:t/n=k:=by omega
     rw [c2.1,this,C3i] at dm
     exact dm.symm
    rw [Wf hlt]
    unfold Wc
    rw [if_neg (by omega)]
   ·rw [if_neg c2]) (fun t _=>by rw [<- A9i])
 clear X6 X5 X2 X1
 have lg3:h.le g3:=A0 lg1' l3
 refine Fy (Ak _ _ _ _ X7.e.t.sep.le i13) ⟨_,rfl,B5 (fun e0=>?_) (fun ne0=>?_)⟩
 ·refine ⟨_,rfl,_,X7.e.c1,_,rfl,?_⟩
  rw [ew1 hkn]
  refine X7.e.set (n':=n) (k':=k+1) (w':=w) (z':=(elP E n n k).last) (L':=.slice (some ⟨bl,0,none⟩) (n*n) (n*n)) (D':=.slice (some ⟨bd,0,none⟩) n n) (vs:=[I ((k+1:Nat):Int)]) A86 rfl rfl (by intro x hx;simp only [C3d,C36,or_false] at hx;subst hx;rfl) (by omega) rfl X7.e.last rfl ?_
  intro h8 o8 Y ko
  have es:=A4f sy hkn ok' e0
  refine ⟨⟨k+1,g3,o8,M,w,by omega,rfl,lg3,fun k' hk'=>ok' k' (by omega),⟨by rw [es];exact Y,fun i j a b c=>by rw [es];exact X7.m i j (by omega) b c,(X7.l.ko (B3 _) (ko _ X7.el.symm)).congr (A42 _ (.inr ⟨e0,by omega⟩)),X7.d.ko (B3 _) (ko _ X7.ed.symm),X7.tl,X7.td,X7.el,X7.ed,X7.ld⟩⟩,?_⟩
  show n-((k+1:Nat):Int).toNat<n-((k:Nat):Int).toNat
  omega
 rw [ew1 hkn]
 refine ⟨fun L hx=>∃ (i:Nat) (g4 o4:Heap),k<i/\i<=n/\L=[I (i:Int)]/\g3.le g4/\Ld hx g4 o4 be bl bd T E n k M w (B64 (mtx E n) n k i) (A0a (mtx E n) (k+1)),fun L _=>n-(iAt L 0).toNat,⟨k+1,g3,o6,by omega,by omega,rfl,B3 _,X7⟩,?_⟩
 clear X7
 rintro z6 hx ⟨i,g4,o4,hi1,hi2,eL,l4,X8⟩
 obtain rfl:=sI1 eL
 have lg4:h.le g4:=A0 lg3 l4
 refine B5 (fun hlt2=>?_) (fun hge2=>?_)
 ·have hin:i<n:=by omega
  refine ⟨_,rfl,_,_,_,X8.e.c5,?_⟩
  refine X8.at (gl.mono lg4) F (by omega) hin hkn hQp (by omega) ?_
  intro w9 h9 g9 l9 s9 lh9 i9
  refine ⟨_,_,_,_,_,_,_,_,rfl,lh9,?_⟩
  refine s9.call (Mc (m:=Q) (gl.mono (A0 lg4 l9)).tz i9 (Ak _ _ _ _ (A0 l4 l9) i13) (F.zA i k (by omega) hin hkn) (F.zA k k (C2w _) hkn hkn) hQp (by omega) ?_)
  intro w10 g10 l10 i10 h10 s10
  refine ⟨_,_,_,_,_,_,_,_,rfl,s9.le_le s10 l10,_,rfl,?_⟩
  rw [ix hin hkn]
  have hik:=Ac hin hkn
  refine ⟨by omega,by omega,?_⟩
  refine ((X8.next s9 l9).next s10 l10).storeL hik i10 ?_
  intro h11 o11 X11
  rw [ew1 hin]
  refine ⟨⟨i+1,g10,o11,by omega,by omega,rfl,A0 l4 (A0 l9 l10),X11.congr (fun t ht=>?_) (fun _ _=>rfl)⟩,by simp only [Hz];omega⟩
  show (if t=i*n+k then ldA (mtx E n) k i k/ldA (mtx E n) k k k else B64 (mtx E n) n k i t)=_
  unfold B64
  have dm:=Nat.div_add_mod t n
  by_cases c:t=i*n+k
  ·obtain ⟨d1,d2⟩:=Gq (i:=i) hkn
   rw [if_pos c,c,d1,d2,if_pos ⟨rfl,by omega⟩]
   unfold ldL
   rw [if_neg (by omega),if_neg (by omega),if_neg ne0]
  ·rw [if_neg c]
   by_cases c2:t%n=k/\t/n<i
   ·rw [if_pos c2,if_pos ⟨c2.1,by omega⟩]
   ·rw [if_neg c2,if_neg]
    rintro ⟨c3,c4⟩
    have:t/n=i:=by
     have:¬ t/n<i:=fun x=>c2 ⟨c3,x⟩
     omega
    rw [c3,this,C3i] at dm
    exact c dm.symm
 ·have ein:i=n:=by omega
  subst ein
  refine A0j (m:=Q) X8.e hkn (by omega) F.last (fun a b ka ha hb=>by rw [X8.m a b ka ha hb];exact F.zM a b ha hb) F.zl hQp hQ ?_
  intro h9 g9 o9 w9 l9 Y ko
  obtain ⟨es1,es2,_⟩:=A4e sy hkn ok ne0
  refine ⟨rfl,⟨k+1,g9,o9,_,w9,by omega,rfl,A0 lg4 l9,fun k' hk'=>ok' k' (by omega),⟨by rw [es2,<- X8.m k k (C2w _) hkn hkn];exact Y,fun i j a b c=>?_,(X8.l.ko l9 (ko _ X8.tl X8.el.symm)).congr (A42 _ (.inl rfl)),X8.d.ko l9 (ko _ X8.td X8.ed.symm),X8.tl,X8.td,X8.el,X8.ed,X8.ld⟩⟩,?_⟩
  ·rw [if_pos (show k<i by omega),es1 i j (by omega) b,X8.m k k (C2w _) hkn hkn,X8.m i j (by omega) b c,X8.m i k (by omega) b hkn,X8.m k j (C2w _) hkn c]
  ·show i-((k+1:Nat):Int).toNat<i-((k:Nat):Int).toNat
   omega
end
def ns(f:Nat->Nat):Nat->Nat
 | 0=>0
 | n+1=>ns f n+f n
theorem B28{f f':Nat->Nat}: ∀ n,(∀ i,i<n->f i=f' i)->ns f n=ns f' n:=by
 intro n
 induction n with
 | zero=>exact fun _=>rfl
 | succ n ih=>intro h;rw [ns,ns,ih fun i hi=>h i (by omega),h n (by omega)]
theorem B62{f:Nat->Nat}: ∀ n,(∀ i,i<n->f i=0)->ns f n=0:=by
 intro n
 induction n with
 | zero=>exact fun _=>rfl
 | succ n ih=>intro h;rw [ns,ih fun i hi=>h i (by omega),h n (by omega)]
theorem B27{f f':Nat->Nat}{t:Nat}(h0:f t=0)(h1:∀ i,i≠t->f' i=f i):∀ n,t<n->ns f' n=ns f n+f' t:=by
 intro n
 induction n with
 | zero=>intro h;omega
 | succ n ih=>
  intro h
  rw [ns,ns]
  by_cases c:t=n
  ·rw [<- c,h0,B28 t fun i hi=>h1 i (by omega)]
   omega
  ·rw [ih (by omega),h1 n (fun x=>c x.symm)]
   omega
theorem B8e{f:Nat->Nat}{a b k:Nat}(hk:∀ i,i<k->f i=0):∀ n,k<n->f k<=a->(∀ i,k<i->i<n->f i<=b)->ns f n<=a+(n-k-1)*b:=by
 intro n
 induction n with
 | zero=>intro h;omega
 | succ n ih=>
  intro h ha hb
  rw [ns]
  by_cases c:k=n
  ·rw [<- c,B62 k hk];omega
  ·have h1:=ih (by omega) ha fun i h1 h2=>hb i h1 (by omega)
   have h2:=hb n (by omega) (by omega)
   have h3:(n+1-k-1)*b=(n-k-1)*b+b:=by
    rw [show n+1-k-1=(n-k-1)+1 by omega,C3r,C3q]
   omega
theorem A88(f:Nat->Nat):∀ n i,i<=n->ns f i<=ns f n:=by
 intro n
 induction n with
 | zero=>intro i h;rw [show i=0 by omega];exact C2w _
 | succ n ih=>
  intro i h
  by_cases c:i=n+1
  ·rw [c];exact C2w _
  ·have:=ih i (by omega)
   rw [ns];omega
theorem B8d(f:Nat->Nat){n i:Nat}(h:i<n):f i<=ns f n:=by
 have:=A88 f n (i+1) h
 rw [ns] at this
 omega
def Seed(A:Nat->Nat->Rat)(n k:Nat)(v:Nat->Rat):Prop:=
 (v k=1/\(∀ i,k<i->i<n->v i=0)/\ldA A k k k<0)\/
 (∃ p,k<p/\p<n/\v p=1/\(∀ i,k<i->i<n->i≠p->v i=0)/\ldA A k k k=0/\ldA A k p k≠0/\v k=(ldA A k p p+1)/(ldA A k p k * -2))
theorem Seed.congr{A:Nat->Nat->Rat}{n k:Nat}{v v':Nat->Rat}(s:Seed A n k v)(h:∀ i,k<=i->i<n->v i=v' i)(hk:k<n):Seed A n k v':=by
 rcases s with ⟨h1,h2,h3⟩|⟨p,p1,p2,h1,h2,h3,h4,h5⟩
 ·exact .inl ⟨by rw [<- h k (C2w _) hk];exact h1,fun i a b=>by rw [<- h i (by omega) b];exact h2 i a b,h3⟩
 ·exact .inr ⟨p,p1,p2,by rw [<- h p (by omega) p2];exact h1,fun i a b c=>by rw [<- h i (by omega) b];exact h2 i a b c,h3,h4,by rw [<- h k (C2w _) hk];exact h5⟩
theorem Seed.neg{A:Nat->Nat->Rat}{n k:Nat}{v:Nat->Rat}(s:Seed A n k v)(hs:Yl n A)(hk:k<n)(hok:∀ m,m<k->Dr A n m)(hv:∀ m,m<k->sm n (fun i=>ldL A i m*v i)=0):qf n A v<0:=by
 rcases s with ⟨h1,h2,h3⟩|⟨p,p1,p2,h1,h2,h3,h4,h5⟩
 ·exact B67 hs hk hok hv h1 h2 h3
 ·exact B66 hs p1 p2 hok hv h1 h2 h3 h4 h5
def A1k(n k Q:Nat):Nat:=(n-k)*(2*Q+2)+4*Q+10
structure Wv (E:Nat->Rat) (n k Q t:Nat) (v:Nat->Rat) (s:Nat->Nat):Prop where
 seed:Seed (mtx E n) n k v
 low:∀ i,i<t->v i=0
 zero:∀ m,t<=m->m<k->sm n (fun i=>ldL (mtx E n) i m*v i)=0
 sz:∀ i,i<n->Sz (s i) (v i)
 tot:ns (fun i=>if i<t then 0 else 2*Q+1+s i) n+(2*Q+2)<=2^(k-t)*A1k n k Q
theorem Sk:Sz 1 (1:Rat):=(⟨ZB.one (C2w 1),ZB.one (C2w 1)⟩:Sz 1 1)
theorem A8k{E:Nat->Rat}{n Q m:Nat}(F:LdF E n m Q)(hm:m<n)(hQ:1<=Q){i:Nat}(hi:i<n):Sz (2*Q) (ldL (mtx E n) i m):=by
 unfold ldL
 by_cases c:i=m
 ·rw [if_pos c];exact Sk.mono (by omega)
 ·rw [if_neg c]
  by_cases c2:i<m
  ·rw [if_pos c2];exact (Sz.zero (C2w 1)).mono (by omega)
  ·rw [if_neg c2]
   split
   ·exact (Sz.zero (C2w 1)).mono (by omega)
   ·exact ((F.zA i m (by omega) hi hm).div (F.zA m m (C2w _) hm hm) hQ).mono (by omega)
section
variable {h g o:Heap} {be bl bd bv:Nat} {T:Tb} {E:Nat->Rat} {n k Q W m:Nat} {M:Nat->Nat->Int} {w:IV} {K:VP}
theorem Ld.off(X:Ld h g o be bl bd T E n k M w (Wc (mtx E n) n k) (A0a (mtx E n) k)){h' o':Heap}(s:Sep h' g o'){b:Nat}(hb:¬ onT T b)(h1:be≠b)(h2:bl≠b)(h3:bd≠b)(ko:∀ y,y≠b->o' y=o y):Ld h' g o' be bl bd T E n k M w (Wc (mtx E n) n k) (A0a (mtx E n) k):=
 ⟨X.e.away s hb h1 ko,X.m,X.l.ko (B3 _) (ko _ h2),X.d.ko (B3 _) (ko _ h3),X.tl,X.td,X.el,X.ed,X.ld⟩
structure Lv (h g o:Heap) (be bl bd bv:Nat) (T:Tb) (E:Nat->Rat) (n k:Nat) (M:Nat->Nat->Int) (w:IV) (v:Nat->Rat):Prop where
 x:Ld h g o be bl bd T E n k M w (Wc (mtx E n) n k) (A0a (mtx E n) k)
 q:QB g o bv n v
 t:¬ onT T bv
 e:be≠bv
 l:bl≠bv
 d:bd≠bv
theorem Lv.next{v:Nat->Rat}(X:Lv h g o be bl bd bv T E n k M w v){h' g':Heap}(s:Sep h' g' o)(l:g.le g'):Lv h' g' o be bl bd bv T E n k M w v:=⟨X.x.next s l,X.q.ko l rfl,X.t,X.e,X.l,X.d⟩
theorem Lv.store{v:Nat->Rat}(X:Lv h g o be bl bd bv T E n k M w v){i:Nat}(hi:i<n){u:QV}{z:Rat}(hu:RQ g u z){K:Unit->Heap->Prop}
 (x:∀ h' o',Lv h' g o' be bl bd bv T E n k M w (fun a=>if a=i then z else v a)->K () h'):wpH prog (C31 G7 (.pointer (some (C2x ⟨bv,0,none⟩ (i*4)))) u.v) K h:=by
 refine X.q.store X.x.e.t.sep hi hu ?_
 intro h' o' s' q ko
 exact x h' o' ⟨X.x.off s' X.t X.e X.l X.d ko,q,X.t,X.e,X.l,X.d⟩
theorem Lv.congr{v v':Nat->Rat}(X:Lv h g o be bl bd bv T E n k M w v)(e:∀ i,i<n->v i=v' i):Lv h g o be bl bd bv T E n k M w v':=⟨X.x,X.q.congr e,X.t,X.e,X.l,X.d⟩
theorem Yr(X:Ld h g o be bl bd T E n k M w (Wc (mtx E n) n k) (A0a (mtx E n) k))(gl:Gl g)(hF:∀ m,m<=k->LdF E n m Q)(hk:k<n)(hn:n<=64)(sy:Yl n (mtx E n))(ok:∀ m,m<k->Dr (mtx E n) n m)(hno:¬ Dr (mtx E n) n k)(hQ1:1<=Q)(hW:2^k*A1k n k Q<=W)(hW2:W<=1000000000)
 (hK:∀ h' v bv,g.le h'->RowV RQr h' (some ⟨bv,0,none⟩) n v->(∀ i,i<n->Sz W (v i))->qf n (mtx E n) v<0->K (.slice (some ⟨bv,0,none⟩) n n) h'):FCall prog Nb #[.pointer (some ⟨be,0,none⟩)] h K:=by
 have F:=hF k (C2w _)
 have hCW:A1k n k Q<=W:=C37 (Nat.le_mul_of_pos_left _ (Nat.pow_pos (by decide))) hW
 have hQW:4*Q+10<=W:=C37 (by unfold A1k;omega) hCW
 refine A3d _ ?_
 unfold A4z
 refine ⟨_,rfl,_,X.e.c0,_,rfl,_,X.e.c1,?_⟩
 refine S6 B7z (zx:=Af) rfl (by omega) (by omega) (by omega) (by omega) ?_
 intro bv hbv
 simp only [C30]
 refine ⟨_,_,_,rfl,?_⟩
 have fr:∀ {k x},o k=some x->k≠bv:=by
  rintro k x e rfl
  rw [X.e.t.sep.own k x e] at hbv;cases hbv
 have tv:¬ onT T bv:=by
  obtain ⟨⟨y1,z1⟩,⟨y2,z2⟩,⟨y3,z3⟩⟩:=X.e.t.own
  rintro (rfl|rfl|rfl)
  ·exact fr z1 rfl
  ·exact fr z2 rfl
  ·exact fr z3 rfl
 have nbe:be≠bv:=by obtain ⟨e,he⟩:=X.e.hd;exact fr he
 have nbl:bl≠bv:=by obtain ⟨xs,⟨e,he⟩,_⟩:=X.l;exact fr he
 have nbd:bd≠bv:=by obtain ⟨xs,⟨e,he⟩,_⟩:=X.d;exact fr he
 have Y0:Lv _ g _ be bl bd bv T E n k M w (fun _=>0):=⟨X.off (X.e.t.sep.new hbv (.cells ((C2y n Af).flatMap enc).toArray G7)) tv nbe nbl nbd (fun y hy=>B7 _ _ hy),⟨_,RowX.mk,C34,fun i hi=>⟨Af,by rw [C3a,if_pos hi],RQ.zero⟩⟩,tv,nbe,nbl,nbd⟩
 rw [show B2v G7 h bv (C2y n Af)=h.put bv (.cells ((C2y n Af).flatMap enc).toArray G7) from rfl]
 generalize (h.put bv (.cells ((C2y n Af).flatMap enc).toArray G7))=h0 at *
 generalize (o.put bv (.cells ((C2y n Af).flatMap enc).toArray G7))=o0 at *
 clear X
 have ewm:B4 ((k:Int)-1)=(k:Int)-1:=by rw [B6]<;>omega
 rw [ewm]
 have tot1:ns (fun i=>if i<k then 0 else 2*Q+1+1) n+(2*Q+2)<=2^(k-k)*A1k n k Q:=by
  have:=B8e (f:=fun i=>if i<k then 0 else 2*Q+1+1) (a:=2*Q+2) (b:=2*Q+2) (k:=k) (fun i hi=>if_pos hi) n hk (by rw [if_neg (C35 k)];omega) (fun i h1 _=>by rw [if_neg (by omega)];omega)
  have e:(n-k)*(2*Q+2)=(n-k-1)*(2*Q+2)+(2*Q+2):=by rw [<- Nat.succ_mul];congr 1;omega
  rw [Nat.sub_self,Nat.pow_zero,C3q]
  unfold A1k
  omega
 have one:∀ (J:Heap->Prop),(∀ (hp g' o':Heap) (v:Nat->Rat) (s:Nat->Nat),g.le g'->Lv hp g' o' be bl bd bv T E n k M w v->Wv E n k Q k v s->J hp)->∀ {h1 g1:Heap},Sep h1 g1 o0->g.le g1->ldA (mtx E n) k k k<0->FCall prog At #[I (1:Int)] h1 (fun r11 hp14=>∃ (t590:Bool) (t591A:Option Addr) (t591n:Nat) (t591c:Nat) (t592:Bool) (t593A:Option Addr) (t593n:Nat) (t593c:Nat),r11= .agg #[.bool t590,.slice t591A t591n t591c,.bool t592,.slice t593A t593n t593c]/\∃ a4,some (⟨bv,0,none⟩:Addr)=some a4/\0<=(k:Int)/\(k:Int)<((n:Nat):Int)/\wpH prog (C31 G7 (.pointer (some (C2x a4 (((k:Int)).toNat*4)))) (.agg #[.bool t590,.slice t591A t591n t591c,.bool t592,.slice t593A t593n t593c])) (fun _ hp15=>J hp15) hp14):=by
  intro J hJ h1 g1 s1 l1 hneg
  refine s1.call (Bj (by omega) ?_)
  intro w2 g2 l2 i2 h2 s2
  refine ⟨_,_,_,_,_,_,_,_,rfl,_,rfl,by omega,by omega,?_⟩
  refine (Y0.next s2 (A0 l1 l2)).store hk (z:=1) i2 ?_
  intro h3 o3 Y3
  refine hJ h3 g2 o3 _ (fun _=>1) (A0 l1 l2) Y3 ⟨.inl ⟨if_pos rfl,fun i a _=>if_neg (by omega),hneg⟩,fun i hi=>if_neg (by omega),fun m a b=>by omega,fun i hi=>?_,tot1⟩
  split
  ·exact Sk
  ·exact Sz.zero (C2w 1)
 refine ⟨fun L hp=>L=[]/\∃ (g' o':Heap) (v:Nat->Rat) (s:Nat->Nat),g.le g'/\Lv hp g' o' be bl bd bv T E n k M w v/\Wv E n k Q k v s,?_,?_⟩
 ·refine FCall.mono (Y0.x.partner F hk (by omega)) ?_
  rintro r h1 ⟨rfl,a,b,rfl,hb1,hb0⟩
  refine ⟨_,_,rfl,?_⟩
  have neg0:(b=false->ldA (mtx E n) k k k<0)/\(ldA (mtx E n) k k k≠0->ldA (mtx E n) k k k<0):=by
   refine ⟨fun e=>?_,fun e=>?_⟩
   ·refine C32 fun hn=>hno ⟨by grind,fun _ j c1 c2=>hb0 e j c1 c2⟩
   ·refine C32 fun hn=>hno ⟨by grind,fun x=>absurd x e⟩
  cases b with
  | false=>
   show FCall _ _ _ _ _
   exact one _ (fun hp g' o' v s a b c=>⟨rfl,g',o',v,s,a,b,c⟩) Y0.x.e.t.sep (B3 _) (neg0.1 rfl)
  | true=>
   obtain ⟨b1,b2,b3⟩:=hb1 rfl
   show FCall _ _ _ _ _
   refine Y0.x.at gl F (C2w _) hk hk hQ1 (by omega) ?_
   intro w1 h1 g1 l1 s1 _ i1
   refine ⟨_,_,_,_,_,_,_,_,rfl,?_⟩
   refine Fy (Ak _ _ _ _ s1.le i1) ⟨_,rfl,B5 (fun e0=>?_) (fun ne0=>?_)⟩
   rotate_left
   ·exact one _ (fun hp g' o' v s a b c=>⟨rfl,g',o',v,s,a,b,c⟩) s1 l1 (neg0.2 ne0)
   have Y1:=Y0.next s1 l1
   refine Y1.x.at (gl.mono l1) F (by omega) b2 hk hQ1 (by omega) ?_
   intro w2 h2 g2 l2 s2 _ i2
   refine ⟨_,_,_,_,_,_,_,_,rfl,?_⟩
   have Y2:=Y1.next s2 l2
   have l02:=A0 l1 l2
   refine Y2.x.at (gl.mono l02) F (by omega) b2 b2 hQ1 (by omega) ?_
   intro w3 h3 g3 l3 s3 _ i3
   refine ⟨_,_,_,_,_,_,_,_,rfl,?_⟩
   refine s3.call (Bj (by omega) ?_)
   intro w4 g4 l4 i4 h4 s4
   have l04:=A0 l02 (A0 l3 l4)
   refine ⟨_,_,_,_,_,_,_,_,rfl,_,rfl,by omega,by omega,?_⟩
   refine ((Y2.next s3 l3).next s4 l4).store b2 (z:=1) i4 ?_
   intro h5 o5 Y5
   refine Y5.x.e.t.sep.call (Bj (by omega) ?_)
   intro w6 g6 l6 i6 h6 s6
   refine ⟨_,_,_,_,_,_,_,_,rfl,Y5.x.e.t.sep.le_le s6 l6,?_⟩
   have l36:=A0 l4 l6
   have za:=F.zA a a (by omega) b2 b2
   have zb:=F.zA a k (by omega) b2 hk
   refine s6.call (Tw (m:=Q) (gl.mono (A0 l04 l6)).tz (Ak _ _ _ _ l36 i3) i6 za (Sk.mono hQ1) (by omega) ?_)
   intro w7 g7 l7 i7 h7 s7
   refine ⟨_,_,_,_,_,_,_,_,rfl,s6.le_le s7 l7,?_⟩
   refine s7.call (Bj (by omega) ?_)
   intro w8 g8 l8 i8 h8 s8
   refine ⟨_,_,_,_,_,_,_,_,rfl,s7.le_le s8 l8,?_⟩
   have em2:((-2:Int):Rat)= -2:=by decide +kernel
   rw [em2] at i8
   have s2z:Sz 2 (-2:Rat):=⟨by unfold ZB;decide +kernel,by unfold ZB;decide +kernel⟩
   have l48:=A0 l6 (A0 l7 l8)
   refine s8.call (Lz (m:=Q+2) (gl.mono (A0 l04 l48)).tz (Ak _ _ _ _ (A0 l3 (A0 l4 l48)) i2) i8 (zb.mono (by omega)) (s2z.mono (by omega)) (by omega) ?_)
   intro w9 g9 l9 i9 h9 s9
   refine ⟨_,_,_,_,_,_,_,_,rfl,s8.le_le s9 l9,?_⟩
   have zn:Sz (Q+2) (ldA (mtx E n) k a a+((1:Int):Rat)):=(za.add Sk).mono (by omega)
   have zd:Sz (Q+2) (ldA (mtx E n) k a k * -2):=zb.mul s2z
   refine s9.call (Mc (m:=Q+2) (gl.mono (A0 l04 (A0 l48 l9))).tz (Ak _ _ _ _ (A0 l8 l9) i7) i9 zn zd (by omega) (by omega) ?_)
   intro w10 g10 l10 i10 h10 s10
   refine ⟨_,_,_,_,_,_,_,_,rfl,s9.le_le s10 l10,_,rfl,by omega,by omega,?_⟩
   have l510:=A0 l48 (A0 l9 l10)
   refine ((((((Y5.next s6 l6).next s7 l7).next s8 l8).next s9 l9).next s10 l10)).store hk i10 ?_
   intro h11 o11 Y11
   refine ⟨rfl,g10,o11,_,fun i=>if i=k then 2*Q+4 else 1,A0 l04 l510,Y11,.inr ⟨a,b1,b2,?_,fun i c1 c2 c3=>?_,e0,b3,if_pos rfl⟩,fun i hi=>?_,fun m c1 c2=>by omega,fun i hi=>?_,?_⟩
   ·try dsimp only
    rw [if_neg (by omega),if_pos rfl]
   ·try dsimp only
    rw [if_neg (by omega),if_neg c3]
   ·try dsimp only
    rw [if_neg (by omega),if_neg (by omega)]
   ·try dsimp only
    by_cases c:i=k
    ·rw [if_pos c,if_pos c]
     exact (zn.div zd (by omega)).mono (by omega)
    ·rw [if_neg c,if_neg c]
     split
     ·exact Sk
     ·exact Sz.zero (C2w 1)
   ·have:=B8e (f:=fun i=>if i<k then 0 else 2*Q+1+if i=k then 2*Q+4 else 1) (a:=4*Q+5) (b:=2*Q+2) (k:=k) (fun i hi=>if_pos hi) n hk (by rw [if_neg (C35 k),if_pos rfl];omega) (fun i c1 _=>by rw [if_neg (by omega),if_neg (by omega)];omega)
    have e:(n-k)*(2*Q+2)=(n-k-1)*(2*Q+2)+(2*Q+2):=by rw [<- Nat.succ_mul];congr 1;omega
    rw [Nat.sub_self,Nat.pow_zero,C3q]
    unfold A1k
    omega
 rintro hq ⟨_,g1,o1,v0,s0,lg,Y,V⟩
 refine ⟨fun L hp=>∃ (t:Nat) (g' o':Heap) (v:Nat->Rat) (s:Nat->Nat),t<=k/\L=[I ((t:Int)-1)]/\g.le g'/\Lv hp g' o' be bl bd bv T E n k M w v/\Wv E n k Q t v s,fun L _=>(iAt L 0+1).toNat,⟨k,g1,o1,v0,s0,C2w _,rfl,lg,Y,V⟩,?_⟩
 clear Y V Y0 one tot1
 rintro z hp ⟨t,g2,o2,v,s,ht,eL,lg2,Y2,V2⟩
 obtain rfl:z=(t:Int)-1:=by simpa using eL
 have htW:ns (fun i=>if i<t then 0 else 2*Q+1+s i) n+(2*Q+2)<=W:=C37 V2.tot (C37 (C2z _ (C3k (by decide) (by omega))) hW)
 refine B5 (fun hge=>?_) (fun hlt=>?_)
 rotate_left
 ·have t0:t=0:=by omega
  subst t0
  refine hK hp v bv (A0 lg2 Y2.x.e.t.sep.le) (Y2.q.rowV Y2.x.e.t.sep) (fun i hi=>(V2.sz i hi).mono ?_) (V2.seed.neg sy hk ok fun m hm=>V2.zero m (Nat.zero_le _) hm)
  have:=B8d (fun i=>if i<0 then 0 else 2*Q+1+s i) hi
  rw [if_neg (by omega)] at this
  omega
 obtain ⟨j,rfl⟩:∃ j,t=j+1:=⟨t-1,by omega⟩
 have ej:((j+1:Nat):Int)-1=(j:Int):=by omega
 rw [ej]
 have hjn:j<n:=by omega
 have ewj:B4 ((j:Int)+1)=((j+1:Nat):Int):=by rw [B6]<;>omega
 rw [ewj]
 have hv0:=V2.low j (by omega)
 generalize hf:(fun i=>if i<j+1 then 0 else 2*Q+1+s i)=f at *
 have hfi:∀ i,j<i->f i=2*Q+1+s i:=fun i hi=>by rw [<- hf];dsimp only;rw [if_neg (by omega)]
 have hfj:f j=0:=by rw [<- hf];dsimp only;rw [if_pos (by omega)]
 have hnn:n*n<=64*64:=C33 hn hn
 refine ⟨fun L hx=>∃ (i:Nat) (g3 o3:Heap) (r:Rat),j<i/\i<=n/\L=[I (i:Int)]/\g2.le g3/\Lv hx g3 o3 be bl bd bv T E n k M w (fun a=>if a=j then r else v a)/\r= - sm i (fun a=>if a<=j then 0 else ldL (mtx E n) a j*v a)/\Sz (1+ns f i) r,fun L _=>n-(iAt L 0).toNat,⟨j+1,g2,o2,0,by omega,by omega,rfl,B3 _,Y2.congr (fun i _=>by
  by_cases c:i=j
  ·rw [if_pos c,c,hv0]
  ·rw [if_neg c]),by rw [Dz fun i hi=>if_pos (by omega)];grind,Sz.zero (by omega)⟩,?_⟩
 rintro z2 hx ⟨i,g3,o3,r,hi1,hi2,eL,l3,Y3,er,sr⟩
 obtain rfl:=sI1 eL
 have lg3:=A0 lg2 l3
 refine B5 (fun hlti=>?_) (fun hgei=>?_)
 ·have hin:i<n:=by omega
  have hij:=Ac hin hjn
  have ix:B4 (B4 ((i:Int)*(n:Int))+(j:Int))=((i*n+j:Nat):Int):=by
   rw [<- C3b,P8 (by omega)]
   exact P8 (n:=i*n+j) (by omega)
  obtain ⟨wj,iwj,a0,a1,a2,a3⟩:=Y3.q.at hjn
  rw [if_pos rfl] at iwj
  obtain ⟨wl,iwl,b0,b1,b2,b3⟩:=Y3.x.l.at hij
  obtain ⟨d1,d2⟩:=Gq (i:=i) hjn
  have elow:Wc (mtx E n) n k (i*n+j)=ldL (mtx E n) i j:=by unfold Wc;rw [d1,d2,if_pos (by omega)]
  rw [elow] at iwl
  obtain ⟨wi,iwi,c0,c1,c2,c3⟩:=Y3.q.at hin
  rw [if_neg (by omega)] at iwi
  have sp:=Y3.x.e.t.sep
  refine ⟨_,rfl,by omega,by omega,_,_,_,_,_,_,_,_,sp.cell a0,sp.cell a1,sp.cell a2,sp.cell a3,_,rfl,_,_,_,Y3.x.e.c5,_,rfl,?_⟩
  rw [ix]
  refine ⟨by omega,by omega,_,_,_,_,_,_,_,_,sp.cell b0,sp.cell b1,sp.cell b2,sp.cell b3,_,rfl,by omega,by omega,_,_,_,_,_,_,_,_,sp.cell c0,sp.cell c1,sp.cell c2,sp.cell c3,?_⟩
  have hmi:=A88 f n (i+1) hin
  have emi:ns f (i+1)=ns f i+(2*Q+1+s i):=by rw [ns,hfi i hi1]
  have sl:=A8k (hF j (by omega)) hjn hQ1 hin
  have sv:=V2.sz i hin
  refine sp.call (Lz (m:=W) (gl.mono lg3).tz iwl iwi (sl.mono (by omega)) (sv.mono (by omega)) (by omega) ?_)
  intro w4 g4 l4 i4 h4 s4
  refine ⟨_,_,_,_,_,_,_,_,rfl,sp.le_le s4 l4,?_⟩
  have spr:Sz (2*Q+s i) (ldL (mtx E n) i j*v i):=sl.mul sv
  refine s4.call (A5c (m:=W) (gl.mono (A0 lg3 l4)).tz (Ak _ _ _ _ l4 iwj) i4 (sr.mono (by omega)) (spr.mono (by omega)) (by omega) ?_)
  intro w5 g5 l5 i5 h5 s5
  refine ⟨_,_,_,_,_,_,_,_,rfl,s4.le_le s5 l5,_,rfl,by omega,by omega,?_⟩
  refine ((Y3.next s4 l4).next s5 l5).store hjn i5 ?_
  intro h6 o6 Y6
  rw [wiS i (by omega)]
  refine ⟨⟨i+1,g5,o6,r-ldL (mtx E n) i j*v i,by omega,by omega,rfl,A0 l3 (A0 l4 l5),Y6.congr (fun a _=>?_),?_,?_⟩,by simp only [Hz];omega⟩
  ·by_cases c:a=j
   ·rw [if_pos c,if_pos c]
   ·rw [if_neg c,if_neg c,if_neg c]
  ·rw [sm,if_neg (by omega),er];grind
  ·exact (sr.sub spr).mono (by omega)
 ·have ein:i=n:=by omega
  subst ein
  have ewj2:B4 ((j:Int)-1)=(j:Int)-1:=by rw [B6]<;>omega
  rw [ewj2]
  refine ⟨⟨j,g3,o3,fun a=>if a=j then r else v a,fun a=>if a=j then 1+ns f i else s a,by omega,rfl,lg3,Y3,⟨V2.seed.congr (fun a ha _=>by rw [if_neg (by omega)]) hk,fun a ha=>by rw [if_neg (by omega)];exact V2.low a (by omega),fun m hm hmk=>?_,fun a ha=>?_,?_⟩⟩,?_⟩
  ·by_cases c:m=j
   ·rw [c]
    have e:sm i (fun a=>ldL (mtx E i) a j*if a=j then r else v a)=sm i (fun a=>(if a=j then r else 0)+if a<=j then 0 else ldL (mtx E i) a j*v a):=by
     refine F7 fun a ha=>?_
     by_cases c1:a=j
     ·rw [if_pos c1,if_pos c1,if_pos (by omega),c1,A2e,Rat.one_mul,C3h]
     ·rw [if_neg c1,if_neg c1]
      by_cases c2:a<=j
      ·rw [if_pos c2,Wf (show a<j by omega),C3o,C3h]
      ·rw [if_neg c2,Rat.zero_add]
    rw [e,Nz,Pz hjn fun a _ c=>if_neg c,if_pos rfl,er]
    grind
   ·rw [<- V2.zero m (by omega) hmk]
    refine F7 fun a ha=>?_
    by_cases c1:a=j
    ·rw [c1,Wf (show j<m by omega),C3o,C3o]
    ·rw [if_neg c1]
  ·by_cases c:a=j
   ·rw [if_pos c,if_pos c];exact sr
   ·rw [if_neg c,if_neg c];exact V2.sz a ha
  ·rw [B27 (f:=f) (f':=fun a=>if a<j then 0 else 2*Q+1+if a=j then 1+ns f i else s a) hfj (fun a ha=>by
    by_cases c:a<j
    ·rw [if_pos c,<- hf];dsimp only;rw [if_pos (by omega)]
    ·rw [if_neg c,if_neg ha,hfi a (by omega)]) i hjn,if_neg (C35 j),if_pos rfl]
   have h1:=V2.tot
   rw [hf] at h1
   have h2:2^(k-j)*A1k i k Q=2*(2^(k-(j+1))*A1k i k Q):=by
    rw [show k-j=(k-(j+1))+1 by omega,Nat.pow_succ,C3i _ 2,Nat.mul_assoc]
   rw [h2]
   omega
  ·show ((j:Int)-1+1).toNat<((j:Int)+1).toNat
   omega
end
def SymT(q:Nat)(ls:Nat->List UInt8):Prop:=∀ i j,i<q->j<i->ls (i*q+j)=ls (j*q+i)
def B4z(r c:Int)(n:Nat)(ls:Nat->List UInt8)(q:Nat):Prop:=MOk r c n ls q q/\SymT q ls
def SqE(r c:Int)(n:Nat)(ls:Nat->List UInt8)(e:Int):Prop:=(¬ Mx r c n ls/\e=1)\/(Mx r c n ls/\(¬ ∃ q,B4z r c n ls q)/\e=4)
theorem SymT.symm{q:Nat}{ls:Nat->List UInt8}(h:SymT q ls):Yl q (mtx (rvs ls) q):=fun i j hi hj=>by
 show rv (ls (i*q+j))=rv (ls (j*q+i))
 rcases Nat.lt_trichotomy i j with c|c|c
 ·rw [h j i hj c]
 ·rw [c]
 ·rw [h i j hi c]
section
variable {h:Heap} {K:VP} {A:Option Addr} {n cap m:Nat} {r c:Int} {ls:Nat->List UInt8}
theorem MOk.sq{q q':Nat}(mk:MOk r c n ls q q')(e:r=c):q=q':=by have:=mk.er;have:=mk.ec;omega
theorem Uk(gl:Gl h)(rv':RowV SSr h A n ls)(hn:n<=1000000)(hl:∀ i,i<n->(ls i).length<=100000000)
 (hK1:∀ q,B4z r c n ls q->∀ b h',Own RQr h h' b (q*q) (rvs ls)->K (.tuple #[.slice (some ⟨b,0,none⟩) (q*q) (q*q),I 0]) h')
 (hK0:∀ e,SqE r c n ls e->∀ h',h.le h'->K (.tuple #[.slice none 0 0,I e]) h'):FCall prog Xd #[B46 r c A n cap] h K:=by
 refine B3v _ _ _ _ _ ?_
 unfold B9z
 refine A5m gl rv' hn hl ?_ (fun hno h1 l1=>⟨_,_,_,_,rfl,hK0 1 (.inl ⟨hno,rfl⟩) h1 l1⟩)
 intro q q' mk b h1 own
 refine ⟨_,_,_,_,rfl,?_⟩
 show Br _ _ _
 refine R2 (fun hne=>hK0 4 (.inr ⟨⟨_,_,mk⟩,(fun ⟨a,x,_⟩=>hne (by have:=x.er;have:=x.ec;omega)),rfl⟩) h1 own.le) (fun heq=>?_)
 obtain rfl:=mk.sq heq
 have:=mk.r2
 obtain ⟨rfl,rfl,_,_,_,_,rfl,hnum⟩:=id mk
 have sv:RowV SSr h1 A (q*q) ls:=rv'.mono Ga own.le
 have hqq:q*q<=64*64:=C33 (by omega) (by omega)
 have ix:∀ {i j:Nat},i<q->j<q->B4 (B4 ((i:Int)*(q:Int))+(j:Int))=((i*q+j:Nat):Int):=fun {i j} hi hj=>by
  have:=Ac hi hj
  rw [<- C3b,P8 (by omega)]
  exact P8 (n:=i*q+j) (by omega)
 have bad:∀ {i j:Nat},i<q->j<i->ls (i*q+j)≠ls (j*q+i)->¬ ∃ a,B4z (q:Int) (q:Int) (q*q) ls a:=by
  rintro i j hi hj hne ⟨a,x,y⟩
  obtain rfl:a=q:=by have:=x.er;omega
  exact hne (y i j hi hj)
 refine ⟨fun L hp=>∃ i:Nat,i<=q/\L=[I (i:Int)]/\hp=h1/\∀ a b,a<i->b<a->ls (a*q+b)=ls (b*q+a),fun L _=>q-(iAt L 0).toNat,⟨0,by omega,rfl,rfl,fun a b ha=>by omega⟩,?_⟩
 rintro z hp ⟨i,hi,eL,rfl,hh⟩
 obtain rfl:=sI1 eL
 refine B5 (fun hlt=>?_) (fun hge=>hK1 q ⟨mk,fun a b ha hb=>hh a b (by omega) hb⟩ b hp own)
 have hiq:i<q:=by omega
 refine ⟨fun L hx=>∃ j:Nat,j<=i/\L=[I (j:Int)]/\hx=hp/\∀ b,b<j->ls (i*q+b)=ls (b*q+i),fun L _=>i-(iAt L 0).toNat,⟨0,by omega,rfl,rfl,fun b hb=>by omega⟩,?_⟩
 rintro z2 hx ⟨j,hj,eL,rfl,hg⟩
 obtain rfl:=sI1 eL
 refine B5 (fun hlt2=>?_) (fun hge2=>?_)
 ·have hji:j<i:=by omega
  have i1:=Ac hiq (show j<q by omega)
  have i2:=Ac (show j<q by omega) hiq
  obtain ⟨u,rfl,hc⟩:=sv.sat i1
  obtain ⟨u',eu,hd⟩:=sv.sat i2
  simp only [Option.some.injEq] at eu
  subst eu
  rw [ix hiq (show j<q by omega),ix (show j<q by omega) hiq]
  refine ⟨_,rfl,by omega,by omega,_,hc,_,rfl,by omega,by omega,_,hd,?_⟩
  rw [Oj]
  refine Br.not (B5 (fun e=>?_) (fun e=>hK0 4 (.inr ⟨⟨_,_,mk⟩,bad hiq hji e,rfl⟩) hx own.le))
  rw [wiS j (by omega)]
  refine ⟨⟨j+1,by omega,rfl,rfl,fun b hb=>?_⟩,by simp only [Hz];omega⟩
  by_cases c:b=j
  ·rw [c];exact e
  ·exact hg b (by omega)
 ·rw [wiS i (by omega)]
  refine ⟨⟨i+1,by omega,rfl,rfl,fun a b ha hb=>?_⟩,by simp only [Hz];omega⟩
  by_cases c:a=i
  ·rw [c];exact hg b (by omega)
  ·exact hh a b (by omega) hb
structure FacV (h:Heap) (q:Nat) (A1:Option Addr) (A2:Option Addr) (E:Nat->Rat):Prop where
 l:RowV SSr h A1 (q*q) (fun t=>M0 (Wc (mtx E q) q q t))
 d:RowV SSr h A2 q (fun t=>M0 (A0a (mtx E q) q t))
theorem Oh{Q:Nat}(gl:Gl h)(rv':RowV SSr h A n ls)(hn:n<=1000000)(hl:∀ i,i<n->(ls i).length<=100000000)(hs:∀ i,i<n->Sz m (rv (ls i)))(hb:∀ q,MOk r c n ls q q->3^q*bnd q m+bnd q m<=Q)(hQ:Q<=20000000)
 (hK1:∀ q,B4z r c n ls q->(∀ k,k<q->Dr (mtx (rvs ls) q) q k)->∀ b1 b2 h',h.le h'->FacV h' q (some ⟨b1,0,none⟩) (some ⟨b2,0,none⟩) (rvs ls)->K (.tuple #[.agg #[I r,I c,.slice (some ⟨b1,0,none⟩) (q*q) (q*q),.slice (some ⟨b2,0,none⟩) q q],.bool true,I 0]) h')
 (hK2:∀ q,B4z r c n ls q->(¬ ∀ k,k<q->Dr (mtx (rvs ls) q) q k)->∀ h',h.le h'->K (.tuple #[.agg #[I 0,I 0,.slice none 0 0,.slice none 0 0],.bool false,I 0]) h')
 (hK0:∀ e,SqE r c n ls e->∀ h',h.le h'->K (.tuple #[.agg #[I 0,I 0,.slice none 0 0,.slice none 0 0],.bool false,I e]) h'):FCall prog Ks #[B46 r c A n cap] h K:=by
 refine A6q _ _ _ _ _ ?_
 unfold B15
 refine Uk gl rv' hn hl ?_ (fun e he h1 l1=>⟨_,_,_,_,rfl,R2 (fun _=>hK0 e he h1 l1) (fun e0=>by rcases he with ⟨_,x⟩|⟨_,_,x⟩<;>omega)⟩)
 intro q sq b h1 own
 obtain ⟨mk,st⟩:=id sq
 have hbq:=hb q mk
 have:=mk.r1;have:=mk.r2
 obtain ⟨rfl,rfl,_,_,_,_,rfl,hnum⟩:=id mk
 refine ⟨_,_,_,_,rfl,R2 (fun hne=>absurd rfl hne) (fun _=>?_)⟩
 refine Id (Q:=Q) (gl.mono own.le) (own.vis Ak) (C2w _) (by omega) (by omega) st.symm hs hbq (by omega) ?_ ?_
 ·intro ok h2 g2 o2 be bl bd T M w lh lg X
  have hqq:q*q<=64*64:=C33 (by omega) (by omega)
  have hQp:1<=Q:=by unfold bnd at hbq;omega
  have F:=fun k (hk:k<=q)=>ldF hs hbq st.symm hk fun m hm=>ok m (by omega)
  have g02:Gl g2:=gl.mono (A0 own.le lg)
  refine ⟨_,_,rfl,?_⟩
  show Br false _ _
  refine ⟨_,rfl,_,_,_,X.e.c5,?_⟩
  have gh2:Gl h2:=gl.mono (A0 own.le lh)
  refine Fv (m:=2*Q) gh2 (X.l.rowV X.e.t.sep) (by omega) (fun i hi=>?_) (by omega) ?_
  ·unfold Wc
   have hm:i%q<q:=Nat.mod_lt _ (by omega)
   rw [if_pos hm]
   exact A8k (F _ (by omega)) hm hQp (C3c hi)
  intro b3 h3 own3
  refine ⟨_,_,_,rfl,own3.le,_,rfl,_,_,_,B8 own3.le X.e.c6,?_⟩
  refine Fv (m:=Q) (gh2.mono own3.le) ((X.d.rowV X.e.t.sep).mono Ak own3.le) (by omega) (fun i hi=>?_) (by omega) ?_
  ·unfold A0a ldD
   rw [if_pos hi]
   exact (F i (by omega)).zA i i (C2w _) hi hi
  intro b4 h4 own4
  exact ⟨_,_,_,rfl,own4.le,hK1 q sq ok b3 b4 h4 (A0 (A0 own.le lh) (A0 own3.le own4.le)) ⟨(own3.vis Ga).mono Ga own4.le,own4.vis Ga⟩⟩
 ·intro k hk ok hno h2 g2 o2 be bl bd T M w lh lg X
  refine ⟨_,_,rfl,?_⟩
  show Br true _ _
  exact hK2 q sq (fun x=>hno (x k hk)) h2 (A0 own.le lh)
theorem Xi{Q:Nat}(gl:Gl h)(rv':RowV SSr h A n ls)(hn:n<=1000000)(hl:∀ i,i<n->(ls i).length<=100000000)(hs:∀ i,i<n->Sz m (rv (ls i)))(hb:∀ q,MOk r c n ls q q->3^q*bnd q m+bnd q m<=Q){W:Nat}(hW:∀ q k,MOk r c n ls q q->k<q->2^k*A1k q k Q<=W)(hW2:W<=40000000)
 (hK1:∀ q,B4z r c n ls q->(¬ ∀ k,k<q->Dr (mtx (rvs ls) q) q k)->∀ v b h',h.le h'->RowV SSr h' (some ⟨b,0,none⟩) q (fun i=>M0 (v i))->(∀ i,i<q->Sz W (v i))->qf q (mtx (rvs ls) q) v<0->K (.tuple #[.slice (some ⟨b,0,none⟩) q q,.bool true,I 0]) h')
 (hK2:∀ q,B4z r c n ls q->(∀ k,k<q->Dr (mtx (rvs ls) q) q k)->∀ h',h.le h'->K (.tuple #[.slice none 0 0,.bool false,I 0]) h')
 (hK0:∀ e,SqE r c n ls e->∀ h',h.le h'->K (.tuple #[.slice none 0 0,.bool false,I e]) h'):FCall prog Nd #[B46 r c A n cap] h K:=by
 refine A3g _ _ _ _ _ ?_
 unfold A52
 refine Uk gl rv' hn hl ?_ (fun e he h1 l1=>⟨_,_,_,_,rfl,R2 (fun _=>hK0 e he h1 l1) (fun e0=>by rcases he with ⟨_,x⟩|⟨_,_,x⟩<;>omega)⟩)
 intro q sq b h1 own
 obtain ⟨mk,st⟩:=id sq
 have hbq:=hb q mk
 have hWq:=hW q
 have:=mk.r1;have:=mk.r2
 obtain ⟨rfl,rfl,_,_,_,_,rfl,hnum⟩:=id mk
 have hQp:1<=Q:=by unfold bnd at hbq;omega
 have hQW:4*Q+10<=W:=by
  have:=hWq 0 mk (by omega)
  unfold A1k at this
  omega
 refine ⟨_,_,_,_,rfl,R2 (fun hne=>absurd rfl hne) (fun _=>?_)⟩
 refine Id (Q:=Q) (gl.mono own.le) (own.vis Ak) (C2w _) (by omega) (by omega) st.symm hs hbq (by omega) ?_ ?_
 ·intro ok h2 g2 o2 be bl bd T M w lh lg X
  refine ⟨_,_,rfl,?_⟩
  show Br true _ _
  exact hK2 q sq ok h2 (A0 own.le lh)
 ·intro k hk ok hno h2 g2 o2 be bl bd T M w lh lg X
  refine ⟨_,_,rfl,?_⟩
  show Br false _ _
  have l02:h.le g2:=A0 own.le lg
  refine Yr (Q:=Q) (W:=W) X (gl.mono l02) (fun m hm=>ldF hs hbq st.symm (by omega) fun k' hk'=>ok k' (by omega)) hk (by omega) st.symm ok hno hQp (hWq k mk hk) (by omega) ?_
  intro h3 v bv l3 rq sz neg
  refine ⟨_,_,_,rfl,?_⟩
  have l03:=A0 l02 l3
  refine Fv (m:=W) (gl.mono l03) rq (by omega) sz hW2 ?_
  intro b4 h4 own4
  exact ⟨_,_,_,rfl,hK1 q sq (fun x=>hno (x k hk)) v b4 h4 (A0 l03 own4.le) (own4.vis Ga) sz neg⟩
end
theorem Lp{X Y:Prop}(x:X):Br true X Y:=x
theorem Br.no{X Y:Prop}(y:Y):Br false X Y:=y
theorem C02:M0 0=[48]:=A77
theorem C2q:M0 (1/2)=[49,47,50]:=by
 have e1:L9 1=[49]:=by decide +kernel
 have e2:L9 2=[50]:=by decide +kernel
 have h1:(1/2:Rat).den=2:=by decide +kernel
 have h2:(1/2:Rat).num=1:=by decide +kernel
 simp [M0,Jk,e1,e2,h1,h2]
abbrev E4:Nat->Rat:=fun i=>([4,2,2,1]:List Rat).getD i 0
abbrev E0:Nat->Rat:=fun i=>([0,1,1,0]:List Rat).getD i 0
theorem aw4:ldA (mtx E4 2) 0 0 0=4/\ldA (mtx E4 2) 1 1 1=0:=by decide +kernel
theorem aw5:∀ t,t<4->Wc (mtx E4 2) 2 2 t=([1,0,1/2,1]:List Rat).getD t 0:=by decide +kernel
theorem aw6:∀ t,t<2->A0a (mtx E4 2) 2 t=([4,0]:List Rat).getD t 0:=by decide +kernel
theorem aw7:ldA (mtx E0 2) 0 0 0=0/\ldA (mtx E0 2) 0 1 0≠0:=by decide +kernel
theorem C1g:∀ k,k<2->Dr (mtx E4 2) 2 k:=by
 intro k hk
 have h:=aw4
 by_cases c:k=0
 ·subst c
  exact ⟨by rw [h.1];decide +kernel,fun e=>by rw [h.1] at e;exact absurd e (by decide +kernel)⟩
 ·have:k=1:=by omega
  subst this
  exact ⟨by rw [h.2];exact Rat.le_refl,fun _ i h1 h2=>by omega⟩
theorem C1h:¬ ∀ k,k<2->Dr (mtx E0 2) 2 k:=fun x=>aw7.2 ((x 0 (by omega)).2 aw7.1 1 (by omega) (by omega))
theorem A8h(l:List Rat)(hl:∀ q∈l,(M0 q).length<=1){i:Nat}(hi:i<(l.map M0).length):((l.map M0).getD i []).length<=1:=by
 rw [C3f,C3g hi]
 have hi':i<l.length:=by simpa using hi
 simp only [List.getElem_map,Option.getD_some]
 exact hl _ (List.getElem_mem hi')
theorem Qn(l:List Rat){i:Nat}(hi:i<l.length):(l.map M0).getD i []=M0 (l.getD i 0):=by
 rw [C3f,C3f,C3n,C3g hi]
 rfl
theorem C1s(l:List Rat)(hl:l.length=4):MOk 2 2 4 (fun i=>(l.map M0).getD i []) 2 2:=by
 refine MOk.of (r:=2) (c:=2) ⟨by omega,by omega,by omega,by omega,by omega⟩ fun i hi=>⟨l.getD i 0,Qn l (by omega)⟩
theorem B80(l:List Rat)(hl:l.length=4)(e:l.getD 2 0=l.getD 1 0):SymT 2 (fun i=>(l.map M0).getD i []):=fun i j hi hj=>by
 have h1:i=1:=by omega
 have h2:j=0:=by omega
 subst h1
 subst h2
 show (l.map M0).getD 2 []=(l.map M0).getD 1 []
 rw [Qn l (by omega),Qn l (by omega),e]
theorem A2z{h:Heap}{K:VP}(gl:Gl h)(hK:∀ h',h.le h'->K (.bool true) h'):FCall prog Hp #[] h K:=by
 refine B0l ?_
 unfold B53
 have b4:∀ q,MOk 2 2 4 (fun i=>(([4,2,2,1]:List Rat).map M0).getD i []) q q->3^q*bnd q 4+bnd q 4<=1000:=fun q mk=>by
  have:=mk.er
  have:q=2:=by omega
  subst this
  decide
 have b0:∀ q,MOk 2 2 4 (fun i=>(([0,1,1,0]:List Rat).map M0).getD i []) q q->3^q*bnd q 4+bnd q 4<=1000:=fun q mk=>by
  have:=mk.er
  have:q=2:=by omega
  subst this
  decide
 have mk4:=C1s [4,2,2,1] rfl
 have mk0:=C1s [0,1,1,0] rfl
 have st4:=B80 [4,2,2,1] rfl rfl
 have st0:=B80 [0,1,1,0] rfl rfl
 have ne4:∀ e,¬ SqE 2 2 4 (fun i=>(([4,2,2,1]:List Rat).map M0).getD i []) e:=fun e x=>by
  rcases x with ⟨x,_⟩|⟨_,x,_⟩
  ·exact x ⟨_,_,mk4⟩
  ·exact x ⟨2,mk4,st4⟩
 have ne0:∀ e,¬ SqE 2 2 4 (fun i=>(([0,1,1,0]:List Rat).map M0).getD i []) e:=fun e x=>by
  rcases x with ⟨x,_⟩|⟨_,x,_⟩
  ·exact x ⟨_,_,mk0⟩
  ·exact x ⟨2,mk0,st0⟩
 have z4:∀ {i:Nat},i<4->((([4,2,2,1]:List Rat).map M0).getD i []).length<=1:=fun {i} hi=>A8h _ (by simp [B7x,C1q,C0s]) (by simpa using hi)
 have z0:∀ {i:Nat},i<4->((([0,1,1,0]:List Rat).map M0).getD i []).length<=1:=fun {i} hi=>A8h _ (by simp [B7x,C02]) (by simpa using hi)
 refine We Dw (ls:=[4,2,2,1].map M0) rfl (by simp) (by rw [show ([4,2,2,1]:List Rat).map M0=[[52],[50],[50],[49]] by simp [B7x,C1q,C0s]];rfl) ?_
 intro b1 h1 l1 s1
 have r1:=Fx s1
 refine ⟨_,_,_,rfl,?_⟩
 refine Oh (m:=4) (Q:=1000) (gl.mono l1) r1 (by simp) (fun i hi=>C37 (z4 (by simpa using hi)) (by omega)) (fun i hi=>A7p (k:=1) (z4 (by simpa using hi)) (by omega)) b4 (by omega) ?_ (fun q sq hno _ _=>?_) (fun e he _ _=>absurd he (ne4 e))
 rotate_left
 ·obtain rfl:q=2:=by have:=sq.1.er;omega
  rw [Vt] at hno
  exact absurd C1g hno
 intro q sq ok1 c1 c2 h2 l2 fv
 obtain rfl:q=2:=by have:=sq.1.er;omega
 have fl:=fv.l
 have fd:=fv.d
 rw [Vt] at fl fd
 refine ⟨_,_,_,_,_,_,_,_,_,_,rfl,?_⟩
 refine We Dw (ls:=[0,1,1,0].map M0) rfl (by simp) (by rw [show ([0,1,1,0]:List Rat).map M0=[[48],[49],[49],[48]] by simp [B7x,C02]];rfl) ?_
 intro b3 h3 l3 s3
 have r3:=Fx s3
 have l13:=A0 l1 (A0 l2 l3)
 refine ⟨_,_,_,rfl,?_⟩
 refine Oh (m:=4) (Q:=1000) (gl.mono l13) r3 (by simp) (fun i hi=>C37 (z0 (by simpa using hi)) (by omega)) (fun i hi=>A7p (k:=1) (z0 (by simpa using hi)) (by omega)) b0 (by omega) (fun q sq ok _ _ _ _ _=>?_) ?_ (fun e he _ _=>absurd he (ne0 e))
 ·obtain rfl:q=2:=by have:=sq.1.er;omega
  rw [Vt] at ok
  exact absurd ok C1h
 intro q sq0 _ h4 l4
 refine ⟨_,_,_,_,_,_,_,_,_,_,rfl,Lp (Lp ?_)⟩
 refine We Dw (ls:=[4,0].map M0) rfl (by simp) (by rw [show ([4,0]:List Rat).map M0=[[52],[48]] by simp [C0s,C02]];rfl) ?_
 intro b5 h5 l5 s5
 have r5:=Fx s5
 refine ⟨_,_,_,rfl,?_⟩
 have l25:=A0 l3 (A0 l4 l5)
 refine Kc (fd.mono Ga l25) r5 (by omega) (fun _ _=>⟨_,rfl,Lp ?_⟩) (fun hno=>absurd ⟨by simp,fun i hi=>?_⟩ hno)
 rotate_left
 ·rw [Qn _ (by simpa using hi),aw6 i hi]
 refine We Dw (ls:=[1,0,1/2,1].map M0) rfl (by simp) (by rw [show ([1,0,1/2,1]:List Rat).map M0=[[49],[48],[49,47,50],[49]] by simp only [List.map_cons,List.map_nil,B7x,C02,C2q]];rfl) ?_
 intro b6 h6 l6 s6
 have r6:=Fx s6
 refine ⟨_,_,_,rfl,?_⟩
 refine Kc (fl.mono Ga (A0 l25 l6)) r6 (by omega) (fun _ _=>⟨_,rfl,Lp (Lp ?_)⟩) (fun hno=>absurd ⟨by simp,fun i hi=>?_⟩ hno)
 rotate_left
 ·rw [Qn _ (by simpa using hi),aw5 i hi]
 exact hK h6 (A0 l13 (A0 l4 (A0 l5 l6)))
section
variable {h:Heap} {A:Option Addr} {n cap:Nat} {r c:Int} {ls:Nat->List UInt8}
end
section
variable {h:Heap} {K:VP} {A:Option Addr} {n cap m w:Nat} {r c:Int} {ls:Nat->List UInt8} {R:Nat->Nat->Rat}
theorem Is(hn:n<=10000)(hw:w<=10000)
 (hK:∀ h' g' o' bo rb,h.le g'->Mt h' g' o' bo rb n w (fun _ _=>0)->K (.slice (some ⟨bo,0,none⟩) n n) h'):FCall prog Kr #[I (n:Int),I (w:Int)] h K:=by
 refine B14 _ _ ?_
 unfold B5c
 refine S6 C03 (zx:=(⟨none,0,0⟩:HV)) rfl (by omega) (by omega) (by omega) (by omega) ?_
 intro bo hbo
 simp only [C30]
 refine ⟨_,_,_,rfl,fun L hp=>∃ (k:Nat) (g o:Heap) (hd:List HV) (rb:Nat->Nat),k<=n/\L=[I (k:Int)]/\h.le g/\Sep hp g o/\RowX o bo hd/\hd.length=n/\(∀ i,i<k->hd[i]? = some ⟨some ⟨rb i,0,none⟩,w,w⟩)/\(∀ i,i<k->rb i≠bo)/\(∀ i j,i<k->j<k->rb i=rb j->i=j)/\(∀ i,i<k->RowX o (rb i) (C2y w Af)),fun L _=>n-(iAt L 0).toNat,
  ⟨0,h,Fc.put bo _,C2y n ⟨none,0,0⟩,fun _=>0,by omega,rfl,B3 _,No hbo,RowX.mk,C34,fun i hi=>by omega,fun i hi=>by omega,fun i j hi=>by omega,fun i hi=>by omega⟩,?_⟩
 rintro z hp ⟨k,g,o,hd,rb,hk,eL,lg,s,rx,hl,h1,h2,h3,h4⟩
 obtain rfl:=sI1 eL
 refine B5 (fun hlt=>?_) (fun hge=>?_)
 ·have hkn:k<n:=by omega
  refine S6 A1v (zx:=Af) rfl (by omega) (by omega) (by omega) (by omega) ?_
  intro b2 hb2
  simp only [C30]
  have ob2:∀ q x,o q=some x->q≠b2:=by
   rintro q x e rfl
   rw [s.own q x e] at hb2;cases hb2
  have nbo:bo≠b2:=by obtain ⟨e,he⟩:=rx;exact ob2 _ _ he
  have nrb:∀ i,i<k->rb i≠b2:=fun i hi=>by obtain ⟨e,he⟩:=h4 i hi;exact ob2 _ _ he
  refine ⟨_,_,_,rfl,_,rfl,by omega,by omega,?_⟩
  refine Nn A3q (y:=(⟨some ⟨b2,0,none⟩,w,w⟩:HV)) rfl (s.new hb2 _) (rx.other nbo _) (i:=k) (by omega) ?_
  intro h5 o5 x5 eo5 s5 rx5
  rw [wiS k (by omega)]
  refine ⟨⟨k+1,g,o5,_,fun i=>if i=k then b2 else rb i,by omega,rfl,lg,s5,rx5,by rw [List.length_set];exact hl,fun i hi=>?_,fun i hi=>?_,fun i j hi hj e=>?_,fun i hi=>?_⟩,by simp only [Hz];omega⟩
  ·show (hd.set k _)[i]? = some (⟨some ⟨if i=k then b2 else rb i,0,none⟩,w,w⟩:HV)
   by_cases e:i=k
   ·subst e
    rw [if_pos rfl,List.getElem?_set_self (by omega)]
   ·rw [if_neg e,List.getElem?_set_ne (fun x=>e x.symm)]
    exact h1 i (by omega)
  ·show (if i=k then b2 else rb i)≠bo
   by_cases e:i=k
   ·rw [if_pos e];exact nbo.symm
   ·rw [if_neg e];exact h2 i (by omega)
  ·change (if i=k then b2 else rb i)=(if j=k then b2 else rb j) at e
   by_cases e1:i=k
   ·by_cases e2:j=k
    ·omega
    ·rw [if_pos e1,if_neg e2] at e
     exact absurd e.symm (nrb j (by omega))
   ·by_cases e2:j=k
    ·rw [if_neg e1,if_pos e2] at e
     exact absurd e (nrb i (by omega))
    ·rw [if_neg e1,if_neg e2] at e
     exact h3 i j (by omega) (by omega) e
  ·show RowX o5 (if i=k then b2 else rb i) _
   by_cases e:i=k
   ·rw [if_pos e,eo5]
    exact RowX.mk.other nbo.symm _
   ·rw [if_neg e,eo5]
    exact ((h4 i (by omega)).other (nrb i (by omega)) _).other (h2 i (by omega)) _
 ·have:k=n:=by omega
  subst this
  refine hK hp g o bo rb lg ⟨s,⟨hd,rx.rowB,hl,fun i hi=>⟨w,h1 i hi,C2w _⟩⟩,h2,h3,fun i hi=>⟨_,(h4 i hi).rowB,C34,fun j hj=>⟨Af,by rw [C3a,if_pos hj],NQ.zero⟩⟩⟩
def A53(R:Nat->Nat->Rat)(i k:Nat):Nat->Nat->Rat:=fun a b=>if b<i\/(b=i/\a<k) then R b a else 0
theorem A5s(rs:RowsV h A n w R)(hn1:1<=n)(hn:n<=10000)(hw:w<=10000)
 (hK:∀ bo h',h.le h'->RowsV h' (some ⟨bo,0,none⟩) w n (fun a b=>R b a)->K (.slice (some ⟨bo,0,none⟩) w w) h'):FCall prog A2p #[.slice A n cap] h K:=by
 refine B3r _ _ _ ?_
 unfold B9u
 obtain ⟨a,sv,ea,e1,e2,hc,_⟩:=rs.at (i:=0) (by omega)
 refine ⟨a,ea,by omega,by omega,_,_,_,hc,?_⟩
 rw [e1]
 refine Is hw hn ?_
 intro h1 g1 o1 bo rb l1 t1
 refine ⟨_,_,_,rfl,fun L hp=>∃ (i:Nat) (g o:Heap),i<=n/\L=[I (i:Int)]/\h.le g/\Mt hp g o bo rb w n (A53 R i 0),fun L _=>n-(iAt L 0).toNat,⟨0,g1,o1,by omega,rfl,l1,t1.congr fun a b _ _=>by unfold A53;rw [if_neg (by omega)]⟩,?_⟩
 rintro z hp ⟨i,g,o,hi,eL,lg,t⟩
 obtain rfl:=sI1 eL
 refine B5 (fun hlt=>?_) (fun hge=>?_)
 ·have hin:i<n:=by omega
  obtain ⟨a1,s1,ea1,f1,f2,hc1,row⟩:=rs.at hin
  refine ⟨fun L hp=>∃ (k:Nat) (g o:Heap),k<=w/\L=[I (k:Int)]/\h.le g/\Mt hp g o bo rb w n (A53 R i k),fun L _=>w-(iAt L 0).toNat,⟨0,g,o,by omega,rfl,lg,t⟩,?_⟩
  rintro z hp2 ⟨k,g2,o2,hk,eL2,lg2,t2⟩
  obtain rfl:=sI1 eL2
  have lhp:=A0 lg2 t2.sep.le
  refine ⟨a1,ea1,by omega,by omega,_,_,_,B8 lhp hc1,?_⟩
  rw [f1]
  refine B5 (fun hlt2=>?_) (fun hge2=>?_)
  ·have hkw:k<w:=by omega
   obtain ⟨cc,hcc,hh⟩:=t2.head hkw
   obtain ⟨a5,w5,e5,n5,c0,c1,c2',c3⟩:=(row.mono S5 lg2).qat hkw
   refine ⟨_,rfl,by omega,by omega,_,_,_,t2.sep.cell hh,a1,ea1,by omega,by omega,_,_,_,B8 lhp hc1,a5,e5,by omega,by omega,_,_,_,_,_,_,_,_,B8 t2.sep.le c0,B8 t2.sep.le c1,B8 t2.sep.le c2',B8 t2.sep.le c3,_,rfl,by omega,by omega,?_⟩
   refine t2.store hkw hin n5 ?_
   intro h6 o6 t6 _
   rw [wiS k (by omega)]
   refine ⟨⟨k+1,g2,o6,by omega,rfl,lg2,t6.congr fun a b _ _=>?_⟩,by simp only [Hz];omega⟩
   unfold A6t A53
   by_cases e:a=k/\b=i
   ·rw [if_pos e,if_pos (by omega),e.1,e.2]
   ·rw [if_neg e]
    by_cases e3:b<i\/(b=i/\a<k)
    ·rw [if_pos e3,if_pos (by omega)]
    ·rw [if_neg e3,if_neg (by omega)]
  ·have:k=w:=by omega
   subst this
   rw [wiS i (by omega)]
   refine ⟨⟨i+1,g2,o2,by omega,rfl,lg2,t2.congr fun a b ha _=>?_⟩,by simp only [Hz];omega⟩
   unfold A53
   by_cases e3:b<i\/(b=i/\a<k)
   ·rw [if_pos e3,if_pos (by omega)]
   ·rw [if_neg e3,if_neg (by omega)]
 ·have:i=n:=by omega
  subst this
  exact hK bo hp (A0 lg t.sep.le) ((t.rowsV).congr fun a b _ hb=>by unfold A53;rw [if_pos (.inl hb)])
end
structure MOut where
 r:Int
 c:Int
 n:Nat
 f:Nat->List UInt8
 e:Int
section
variable {h:Heap} {K:VP} {A B:Option Addr} {n n2 cap cap2 m w:Nat} {r c r2 c2:Int} {la lb:Nat->List UInt8}
end
structure VV where
 A:Option Addr
 n:Nat
 c:Nat
 s:Bool
 B:Option Addr
 bn:Nat
 bc:Nat
abbrev VV.v(w:VV):Value:=.agg #[.slice w.A w.n w.c,.bool w.s,.slice w.B w.bn w.bc]
instance:Enc VV:=⟨⟨fun w=>[.slice w.A w.n w.c,.bool w.s,.slice w.B w.bn w.bc],3,fun _=>rfl,fun w v hv=>by
 simp only [C3d,C36,or_false] at hv
 rcases hv with rfl|rfl|rfl<;>rfl⟩⟩
section
variable {h:Heap} {K:VP} {A B:Option Addr} {n cap m w:Nat} {f f2:Nat->Rat}
end
section
variable {h:Heap} {K:VP} {A:Option Addr} {cap m rows cols:Nat} {E:Nat->Rat}
end
section
variable {h:Heap} {K:VP} {A B:Option Addr} {n n2 cap cap2 m:Nat} {r c r2 c2:Int} {la lb:Nat->List UInt8} {w:QV} {q:Rat}
end
section
variable {h:Heap} {K:VP} {A B:Option Addr} {n w cap cap2 m:Nat} {f f2:Nat->Rat} {R:Nat->Nat->Rat}
theorem B83(hs:∀ i,i<w->Sz m (f i))(hs2:∀ i,i<w->Sz m (f2 i)):∀ k,k<=w->Sz (1+k*(2*m+1)) (sm k (fun j=>f j*f2 j)):=by
 intro k
 induction k with
 | zero=>intro _;exact Sz.zero (by omega)
 | succ k ih=>
  intro hk
  have h1:=ih (by omega)
  have h2:=(hs k (by omega)).mul (hs2 k (by omega))
  have e:1+(k+1)*(2*m+1)=1+k*(2*m+1)+(m+m)+1:=by rw [C3r];omega
  rw [e]
  exact h1.add h2
theorem A02(ra:RowV NQr h A w f)(rb:RowV NQr h B w f2)(hw:w<=10000)(hs:∀ i,i<w->Sz m (f i))(hs2:∀ i,i<w->Sz m (f2 i))(hm:1+w*(2*m+1)+2*m<=400000000)
 (hK:∀ v h',h.le h'->NQ h' v (sm w (fun j=>f j*f2 j))->K v.v h'):FCall prog A4c #[.slice A w cap,.slice B w cap2] h K:=by
 refine B7d _ _ _ _ _ _ ?_
 unfold C2m
 refine ⟨fun L hp=>∃ (k:Nat) (v:QV),k<=w/\L=I (k:Int)::qc v/\h.le hp/\NQ hp v (sm k (fun j=>f j*f2 j)),fun L _=>w-(iAt L 0).toNat,⟨0,Af,by omega,rfl,B3 _,NQ.zero⟩,?_⟩
 rintro z d0 d1A d1n d1c d2 d3A d3n d3c hp ⟨k,v,hk,eL,l,iv⟩
 simp only [C3j,Value.int.injEq,true_and] at eL
 obtain ⟨rfl,eL⟩:=eL
 obtain ⟨rfl,_⟩:=C0z (by simpa only [C3j,C3p,Value.slice.injEq,and_true] using eL:(.bool d0:Value) :: .slice d1A d1n d1c :: .bool d2 :: .slice d3A d3n d3c::[]= .bool v.s :: .slice v.A v.n v.c :: .bool v.s2 :: .slice v.A2 v.n2 v.c2::[])
 refine B5 (fun hlt=>?_) (fun hge=>?_)
 ·have hkw:k<w:=by omega
  obtain ⟨a5,w5,e5,n5,c0,c1,c2,c3⟩:=(ra.mono S5 l).qat hkw
  obtain ⟨a6,w6,e6,n6,g0,g1,g2,g3⟩:=(rb.mono S5 l).qat hkw
  have hkm:k*(2*m+1)<=w*(2*m+1):=C2z _ hk
  refine ⟨a5,e5,by omega,by omega,_,_,_,_,_,_,_,_,c0,c1,c2,c3,a6,e6,by omega,by omega,_,_,_,_,_,_,_,_,g0,g1,g2,g3,?_⟩
  refine Qb (a:=w5) (b:=w6) n5 n6 (hs k hkw) (hs2 k hkw) (by omega) ?_
  intro w7 h7 l7 i7
  refine ⟨_,_,_,_,_,_,_,_,rfl,l7,?_⟩
  refine Qd (a:=⟨d0,d1A,d1n,d1c,d2,d3A,d3n,d3c⟩) (b:=w7) (m:=1+k*(2*m+1)+2*m) (NQ.mono l7 iv) i7 ((B83 hs hs2 k hk).mono (by omega)) (((hs k hkw).mul (hs2 k hkw)).mono (by omega)) (by omega) ?_
  intro w8 h8 l8 i8
  rw [wiS k (by omega)]
  refine ⟨_,_,_,_,_,_,_,_,rfl,l8,⟨k+1,w8,by omega,rfl,A0 l (A0 l7 l8),i8⟩,?_⟩
  show w-((k+1:Nat):Int).toNat<w-(k:Int).toNat
  omega
 ·have:k=w:=by omega
  subst this
  exact hK ⟨d0,d1A,d1n,d1c,d2,d3A,d3n,d3c⟩ hp l iv
theorem A8w(rs:RowsV h A n w R)(rx:RowV NQr h B w f)(hn:n<=10000)(hw:w<=10000)(hs:∀ i j,i<n->j<w->Sz m (R i j))(hs2:∀ i,i<w->Sz m (f i))(hm:1+w*(2*m+1)+2*m<=400000000)
 (hK:∀ b h',Own NQr h h' b n (fun i=>sm w (fun j=>R i j*f j))->K (.slice (some ⟨b,0,none⟩) n n) h'):FCall prog A93 #[.slice A n cap,.slice B w cap2] h K:=by
 refine B7e _ _ _ _ _ _ ?_
 unfold C2n
 refine S6 A1v (zx:=Af) rfl (by omega) (by omega) (by omega) (by omega) ?_
 intro b hb
 simp only [C30]
 refine ⟨_,_,_,rfl,fun L hp=>∃ k:Nat,k<=n/\L=[I (k:Int)]/\OwnK NQr h hp b n k (fun i=>sm w (fun j=>R i j*f j)),fun L _=>n-(iAt L 0).toNat,⟨0,by omega,rfl,OwnK.zero hb⟩,?_⟩
 rintro z hp ⟨k,hk,eL,g,o,xs,lg,s,rb,hx,rr⟩
 obtain rfl:=sI1 eL
 refine B5 (fun hlt=>?_) (fun hge=>?_)
 ·have hkn:k<n:=by omega
  obtain ⟨a1,s1,ea1,f1,f2',hc1,row1⟩:=rs.at hkn
  refine ⟨a1,ea1,by omega,by omega,_,_,_,B8 (A0 lg s.le) hc1,?_⟩
  rw [f1]
  refine s.call (A02 (row1.mono S5 lg) (rx.mono S5 lg) hw (fun j hj=>hs k j hkn hj) hs2 hm ?_)
  intro v g2 l2 iv h2 s2
  refine ⟨_,_,_,_,_,_,_,_,rfl,_,rfl,by omega,by omega,?_⟩
  refine OwnK.store S5 Px (y:=v) lg l2 s2 rb hx rr hkn rfl iv ?_
  intro h3 ow
  rw [wiS k (by omega)]
  exact ⟨⟨k+1,by omega,rfl,ow⟩,by simp only [Hz];omega⟩
 ·have:k=n:=by omega
  subst this
  exact hK b hp ⟨g,o,xs,lg,s,rb,hx,rr⟩
end
structure VOut where
 n:Nat
 f:Nat->List UInt8
 e:Int
section
variable {h:Heap} {K:VP} {A B:Option Addr} {n n2 cap cap2 m:Nat} {r c:Int} {la lx:Nat->List UInt8}
end
section
variable {h:Heap} {K:VP} {A B:Option Addr} {n n2 cap cap2 m:Nat} {r c:Int} {la lx:Nat->List UInt8}
end
section
variable {h:Heap} {K:VP} {A B:Option Addr} {n n2 cap cap2 m:Nat} {r c r2 c2:Int} {la lb:Nat->List UInt8} {E:Nat->Rat}
end
def Ec(P Q:Nat->Nat->Rat)(w i k j:Nat):Nat->Nat->Rat:=fun a b=>if a<i then sm w (fun t=>P a t*Q t b) else if a=i then (if b<j then sm (k+1) (fun t=>P a t*Q t b) else sm k (fun t=>P a t*Q t b)) else 0
theorem A28(P Q:Nat->Nat->Rat)(w a b:Nat):Ec P Q w 0 0 0 a b=0:=by
 unfold Ec
 rw [if_neg (C3e a),if_neg (C3e b)]
 split<;>rfl
theorem A5h(P Q:Nat->Nat->Rat)(w i k j a b:Nat):A6t (Ec P Q w i k j) i j (sm k (fun t=>P i t*Q t j)+P i k*Q k j) a b=Ec P Q w i k (j+1) a b:=by
 unfold A6t Ec
 by_cases e:a=i/\b=j
 ·obtain ⟨rfl,rfl⟩:=e
  rw [if_pos ⟨rfl,rfl⟩,if_neg (C35 a),if_pos rfl,if_pos (Nat.lt_succ_self b)]
  rfl
 ·rw [if_neg e]
  by_cases h1:a<i
  ·rw [if_pos h1,if_pos h1]
  ·rw [if_neg h1,if_neg h1]
   by_cases h2:a=i
   ·rw [if_pos h2,if_pos h2]
    by_cases h3:b<j
    ·rw [if_pos h3,if_pos (by omega)]
    ·rw [if_neg h3,if_neg (by omega)]
   ·rw [if_neg h2,if_neg h2]
theorem A5i(P Q:Nat->Nat->Rat){w i k j c:Nat}(h:j=c\/P i k=0){a b:Nat}(hb:b<c):Ec P Q w i k j a b=Ec P Q w i (k+1) 0 a b:=by
 unfold Ec
 by_cases h1:a<i
 ·rw [if_pos h1,if_pos h1]
 ·rw [if_neg h1,if_neg h1]
  by_cases h2:a=i
  ·subst h2
   rw [if_pos rfl,if_pos rfl,if_neg (C3e b)]
   by_cases h3:b<j
   ·rw [if_pos h3]
   ·rw [if_neg h3]
    rcases h with h|h
    ·omega
    ·show _=sm k (fun t=>P a t*Q t b)+P a k*Q k b
     rw [h,C3o,C3h]
  ·rw [if_neg h2,if_neg h2]
theorem A7x(P Q:Nat->Nat->Rat)(w i a b:Nat):Ec P Q w i w 0 a b=Ec P Q w (i+1) 0 0 a b:=by
 unfold Ec
 by_cases h1:a<i
 ·rw [if_pos h1,if_pos (by omega)]
 ·rw [if_neg h1]
  by_cases h2:a=i
  ·rw [if_pos h2,if_neg (C3e b),if_pos (by omega)]
  ·rw [if_neg h2,if_neg (by omega)]
   split
   ·rw [if_neg (C3e b)];rfl
   ·rfl
section
variable {h:Heap} {K:VP} {A B:Option Addr} {n n2 cap cap2 m w cols:Nat} {r c r2 c2:Int} {la lb:Nat->List UInt8} {P Q:Nat->Nat->Rat}
theorem A00(ra:RowsV h A n w P)(rb:RowsV h B w cols Q)(hn1:1<=n)(hn:n<=10000)(hw1:1<=w)(hw:w<=10000)(hc1:1<=cols)(hc:cols<=10000)(hs:∀ i j,i<n->j<w->Sz m (P i j))(hs2:∀ i j,i<w->j<cols->Sz m (Q i j))(hm:1+w*(2*m+1)+2*m<=400000000)
 (hK:∀ h' g' o' bo rb,h.le g'->Mt h' g' o' bo rb n cols (fun a b=>sm w (fun t=>P a t*Q t b))->K (.slice (some ⟨bo,0,none⟩) n n) h'):FCall prog Xc #[.slice A n cap,.slice B w cap2] h K:=by
 refine B12 _ _ _ _ _ _ ?_
 unfold B5b
 obtain ⟨aB,sB,eB,fB1,fB2,hcB,_⟩:=rb.at (i:=0) (by omega)
 refine ⟨aB,eB,by omega,by omega,_,_,_,hcB,?_⟩
 rw [fB1]
 refine Is hn hc ?_
 intro h1 g1 o1 bo rbo l1 t1
 refine ⟨_,_,_,rfl,fun L hp=>∃ (i:Nat) (g o:Heap),i<=n/\L=[I (i:Int)]/\h.le g/\Mt hp g o bo rbo n cols (Ec P Q w i 0 0),fun L _=>n-(iAt L 0).toNat,⟨0,g1,o1,by omega,rfl,l1,t1.congr fun a b _ _=>(A28 P Q w a b).symm⟩,?_⟩
 rintro z hp ⟨i,g,o,hi,eL,lg,t⟩
 obtain rfl:=sI1 eL
 refine B5 (fun hlt=>?_) (fun hge=>?_)
 ·have hin:i<n:=by omega
  obtain ⟨a1,s1,ea1,f1,f2,hc1,row1⟩:=ra.at hin
  refine ⟨fun L hp=>∃ (k:Nat) (g o:Heap),k<=w/\L=[I (k:Int)]/\h.le g/\Mt hp g o bo rbo n cols (Ec P Q w i k 0),fun L _=>w-(iAt L 0).toNat,⟨0,g,o,by omega,rfl,lg,t⟩,?_⟩
  rintro z hp2 ⟨k,g2,o2,hk,eL2,lg2,t2⟩
  obtain rfl:=sI1 eL2
  refine B5 (fun hlt2=>?_) (fun hge2=>?_)
  ·have hkw:k<w:=by omega
   obtain ⟨a2,s2,ea2,f3,f4,hc2,row2⟩:=rb.at hkw
   refine ⟨fun L hp=>∃ (j:Nat) (g o:Heap),j<=cols/\L=[I (j:Int)]/\h.le g/\Mt hp g o bo rbo n cols (Ec P Q w i k j),fun L _=>cols-(iAt L 0).toNat,⟨0,g2,o2,by omega,rfl,lg2,t2⟩,?_⟩
   rintro z hp3 ⟨j,g3,o3,hj,eL3,lg3,t3⟩
   obtain rfl:=sI1 eL3
   have lhp:=A0 lg3 t3.sep.le
   have next:(j=cols\/P i k=0)->((∃ (k':Nat) (g o:Heap),k'<=w/\[I (B4 ((k:Int)+1))]=[I (k':Int)]/\h.le g/\Mt hp3 g o bo rbo n cols (Ec P Q w i k' 0))/\w-(iAt [I (B4 ((k:Int)+1))] 0).toNat<w-(iAt [I (k:Int)] 0).toNat):=by
    intro hx
    rw [wiS k (by omega)]
    exact ⟨⟨k+1,g3,o3,by omega,rfl,lg3,t3.congr fun a b _ hb=>A5i P Q hx hb⟩,by simp only [Hz];omega⟩
   refine ⟨aB,eB,by omega,by omega,_,_,_,B8 lhp hcB,?_⟩
   rw [fB1]
   refine B5 (fun hlt3=>?_) (fun hge3=>next (.inl (by omega)))
   have hjc:j<cols:=by omega
   obtain ⟨a5,w5,e5,n5,c0,c1,c2',c3⟩:=(row1.mono S5 lg3).qat hkw
   obtain ⟨a6,w6,e6,n6,d0,d1,d2,d3⟩:=(row2.mono S5 lg3).qat hjc
   obtain ⟨cc,hcc,hh⟩:=t3.head hin
   obtain ⟨x,ix,x0,x1,x2,x3⟩:=t3.elem hin hjc
   refine ⟨a1,ea1,by omega,by omega,_,_,_,B8 lhp hc1,a5,e5,by omega,by omega,_,_,_,_,_,_,_,_,B8 t3.sep.le c0,B8 t3.sep.le c1,B8 t3.sep.le c2',B8 t3.sep.le c3,?_⟩
   refine Bc (NQ.mono t3.sep.le n5) ⟨_,rfl,R2 (fun hne=>?_) (fun he=>next (.inr (by rw [C3s] at he;exact Rat.num_eq_zero.1 he)))⟩
   refine ⟨_,rfl,by omega,by omega,_,_,_,t3.sep.cell hh,_,rfl,by omega,by omega,_,_,_,t3.sep.cell hh,_,rfl,by omega,by omega,_,_,_,_,_,_,_,_,t3.sep.cell x0,t3.sep.cell x1,t3.sep.cell x2,t3.sep.cell x3,a1,ea1,by omega,by omega,_,_,_,B8 lhp hc1,a5,e5,by omega,by omega,_,_,_,_,_,_,_,_,B8 t3.sep.le c0,B8 t3.sep.le c1,B8 t3.sep.le c2',B8 t3.sep.le c3,a2,ea2,by omega,by omega,_,_,_,B8 lhp hc2,a6,e6,by omega,by omega,_,_,_,_,_,_,_,_,B8 t3.sep.le d0,B8 t3.sep.le d1,B8 t3.sep.le d2,B8 t3.sep.le d3,?_⟩
   refine t3.sep.call (Qb (a:=w5) (b:=w6) n5 n6 (hs i k hin hkw) (hs2 k j hkw hjc) (by omega) ?_)
   intro w7 g7 l7 i7 h7 s7
   refine ⟨_,_,_,_,_,_,_,_,rfl,t3.sep.le_le s7 l7,?_⟩
   have ev:Ec P Q w i k j i j=sm k (fun t=>P i t*Q t j):=by
    unfold Ec
    rw [if_neg (C35 i),if_pos rfl,if_neg (C35 j)]
   rw [ev] at ix
   have hkm:k*(2*m+1)<=w*(2*m+1):=C2z _ hk
   refine s7.call (Qd (a:=x) (b:=w7) (m:=1+k*(2*m+1)+2*m) (NQ.mono l7 ix) i7 ((B83 (f:=fun t=>P i t) (f2:=fun t=>Q t j) (fun t ht=>hs i t hin ht) (fun t ht=>hs2 t j ht hjc) k hk).mono (by omega)) (((hs i k hin hkw).mul (hs2 k j hkw hjc)).mono (by omega)) (by omega) ?_)
   intro w8 g8 l8 i8 h8 s8
   have t8:Mt h8 g8 o3 bo rbo n cols (Ec P Q w i k j):=t3.next s8 (A0 l7 l8)
   refine ⟨_,_,_,_,_,_,_,_,rfl,s7.le_le s8 l8,_,rfl,by omega,by omega,?_⟩
   refine t8.store hin hjc i8 ?_
   intro h9 o9 t9 _
   rw [wiS j (by omega)]
   exact ⟨⟨j+1,g8,o9,by omega,rfl,A0 lg3 (A0 l7 l8),t9.congr fun a b _ _=>A5h P Q w i k j a b⟩,by simp only [Hz];omega⟩
  ·have:k=w:=by omega
   subst this
   rw [wiS i (by omega)]
   exact ⟨⟨i+1,g2,o2,by omega,rfl,lg2,t2.congr fun a b _ _=>A7x P Q k i a b⟩,by simp only [Hz];omega⟩
 ·have:i=n:=by omega
  subst this
  exact hK hp g o bo rbo lg (t.congr fun a b ha _=>by unfold Ec;rw [if_pos ha])
end
def unP(k:Nat):Nat->Nat->Rat:=fun a b=>if a=b/\a<k then 1 else 0
def inR(bo:Nat)(rb:Nat->Nat)(n x:Nat):Prop:=x=bo\/∃ i,i<n/\x=rb i
theorem Mt.blk{h g o:Heap}{bo n w:Nat}{rb:Nat->Nat}{M:Nat->Nat->Rat}(t:Mt h g o bo rb n w M){x:Nat}(hx:inR bo rb n x):∃ y,o x=some y:=by
 obtain ⟨h1,h2⟩:=t.own
 rcases hx with rfl|⟨i,hi,rfl⟩
 ·exact h1
 ·exact h2 i hi
section
variable {h:Heap} {K:VP} {n:Nat}
theorem A2g(hn:n<=10000)
 (hK:∀ h' g' o' bo rb,h.le g'->Mt h' g' o' bo rb n n (fun a b=>if a=b then 1 else 0)->K (.slice (some ⟨bo,0,none⟩) n n) h'):FCall prog A2o #[I (n:Int)] h K:=by
 refine B3q _ ?_
 unfold B9t
 refine Is hn hn ?_
 intro h1 g1 o1 bo rb l1 t1
 refine ⟨_,_,_,rfl,fun L hp=>∃ (k:Nat) (g o:Heap),k<=n/\L=[I (k:Int)]/\h.le g/\Mt hp g o bo rb n n (unP k),fun L _=>n-(iAt L 0).toNat,⟨0,g1,o1,by omega,rfl,l1,t1.congr fun a b _ _=>by unfold unP;rw [if_neg (by omega)]⟩,?_⟩
 rintro z hp ⟨k,g,o,hk,eL,lg,t⟩
 obtain rfl:=sI1 eL
 refine B5 (fun hlt=>?_) (fun hge=>?_)
 ·have hkn:k<n:=by omega
  obtain ⟨cc,hcc,hh⟩:=t.head hkn
  refine ⟨_,rfl,by omega,by omega,_,_,_,t.sep.cell hh,?_⟩
  refine t.sep.call (B8a ⟨by omega,by omega⟩ ?_)
  intro w7 g7 l7 i7 h7 s7
  have one:((1:Int):Rat)=1:=rfl
  rw [one] at i7
  refine ⟨_,_,_,_,_,_,_,_,rfl,t.sep.le_le s7 l7,_,rfl,by omega,by omega,?_⟩
  refine (t.next s7 l7).store hkn hkn i7 ?_
  intro h9 o9 t9 _
  rw [wiS k (by omega)]
  refine ⟨⟨k+1,g7,o9,by omega,rfl,A0 lg l7,t9.congr fun a b _ _=>?_⟩,by simp only [Hz];omega⟩
  unfold A6t unP
  by_cases e:a=k/\b=k
  ·rw [if_pos e,if_pos (by omega)]
  ·rw [if_neg e]
   by_cases e2:a=b/\a<k
   ·rw [if_pos e2,if_pos (by omega)]
   ·rw [if_neg e2,if_neg (by omega)]
 ·have:k=n:=by omega
  subst this
  exact hK hp g o bo rb lg (t.congr fun a b ha _=>by
   unfold unP
   by_cases e:a=b
   ·rw [if_pos ⟨e,ha⟩,if_pos e]
   ·rw [if_neg (fun x=>e x.1),if_neg e])
end
structure Gd (h g o:Heap) (ba:Nat) (ra:Nat->Nat) (bl:Nat) (rl:Nat->Nat) (n:Nat) (P L:Nat->Nat->Rat) (A:Option Addr) (c k:Nat) (D:Nat->Rat):Prop where
 a:Mt h g o ba ra n n P
 l:Mt h g o bl rl n n L
 d:∃ xs:List QV,OwnSl o J3 A c xs/\xs.length=k/\Row NQr g xs k D
 al:∀ x,inR ba ra n x->¬ inR bl rl n x
 ad:∀ x,A=some ⟨x,0,none⟩->¬ inR ba ra n x/\¬ inR bl rl n x
section
variable {h g o:Heap} {ba bl n c k:Nat} {ra rl:Nat->Nat} {P L:Nat->Nat->Rat} {A:Option Addr} {D:Nat->Rat}
theorem Gd.next(X:Gd h g o ba ra bl rl n P L A c k D){h' g':Heap}(s:Sep h' g' o)(l:g.le g'):Gd h' g' o ba ra bl rl n P L A c k D:=by
 obtain ⟨xs,o1,e,q⟩:=X.d
 exact ⟨X.a.next s l,X.l.next s l,⟨xs,o1,e,q.mono S5 l⟩,X.al,X.ad⟩
theorem Gd.congr(X:Gd h g o ba ra bl rl n P L A c k D){P' L':Nat->Nat->Rat}(e1:∀ i j,i<n->j<n->P i j=P' i j)(e2:∀ i j,i<n->j<n->L i j=L' i j):Gd h g o ba ra bl rl n P' L' A c k D:=⟨X.a.congr e1,X.l.congr e2,X.d,X.al,X.ad⟩
theorem Gd.storeA(X:Gd h g o ba ra bl rl n P L A c k D){i j:Nat}(hi:i<n)(hj:j<n){x:QV}{q:Rat}(hx:NQ g x q){K:Unit->Heap->Prop}
 (y:∀ h' o',Gd h' g o' ba ra bl rl n (A6t P i j q) L A c k D->K () h'):wpH prog (C31 J3 (.pointer (some (C2x ⟨ra i,0,none⟩ (j*4)))) x.v) K h:=by
 refine X.a.store hi hj hx ?_
 intro h' o' t' ko
 have hb:∀ y,¬ inR ba ra n y->o' y=o y:=fun y hy=>ko y (fun e=>hy (.inr ⟨i,hi,e⟩))
 obtain ⟨xs,o1,e,q1⟩:=X.d
 exact y h' o' ⟨t',X.l.keep t'.sep (B3 _) (fun y z e hy=>by rw [hb y (fun hu=>X.al y hu hy)];exact e),⟨xs,o1.keep fun b x hA hx=>by rw [hb b (X.ad b hA).1];exact hx,e,q1⟩,X.al,X.ad⟩
theorem Gd.storeL(X:Gd h g o ba ra bl rl n P L A c k D){i j:Nat}(hi:i<n)(hj:j<n){x:QV}{q:Rat}(hx:NQ g x q){K:Unit->Heap->Prop}
 (y:∀ h' o',Gd h' g o' ba ra bl rl n P (A6t L i j q) A c k D->K () h'):wpH prog (C31 J3 (.pointer (some (C2x ⟨rl i,0,none⟩ (j*4)))) x.v) K h:=by
 refine X.l.store hi hj hx ?_
 intro h' o' t' ko
 have hb:∀ y,¬ inR bl rl n y->o' y=o y:=fun y hy=>ko y (fun e=>hy (.inr ⟨i,hi,e⟩))
 obtain ⟨xs,o1,e,q1⟩:=X.d
 exact y h' o' ⟨X.a.keep t'.sep (B3 _) (fun y z e hy=>by rw [hb y (X.al y hy)];exact e),t',⟨xs,o1.keep fun b x hA hx=>by rw [hb b (X.ad b hA).2];exact hx,e,q1⟩,X.al,X.ad⟩
theorem Gd.push(X:Gd h g o ba ra bl rl n P L A c k D)(hk:k<=10000){w:QV}{q:Rat}(hw:NQ g w q){K:Option Addr->Nat->Nat->Heap->Prop}
 (y:∀ A' c' h' g' o',g.le g'->Gd h' g' o' ba ra bl rl n P L A' c' (k+1) (fun i=>if i=k then q else D i)->K A' (k+1) c' h'):
 wpH prog (Instr.buildSlice Ai 1 #[(0,w.v)]) (fun v' hp=>∃ (B:Option Addr) (m d:Nat),v'= .slice B m d/\wpH prog (Builtin.append_ #[Ai,Ai] Ai #[.slice A k c,.slice B m d]) (fun v1 hp1=>∃ (A':Option Addr) (n' c':Nat),v1= .slice A' n' c'/\K A' n' c' hp1) hp) h:=by
 obtain ⟨xs,o1,e,q1⟩:=X.d
 refine Ez (n:=k) A1v X.a.sep o1 e.symm (y:=w) rfl (by decide) (by omega) (by omega) ?_
 intro A' c' h' g' o' lg s' o2 ko
 have ne:∀ x,(inR ba ra n x\/inR bl rl n x)->A≠some ⟨x,0,none⟩:=fun x hx hA=>by
  obtain ⟨h1,h2⟩:=X.ad x hA
  rcases hx with hx|hx
  ·exact h1 hx
  ·exact h2 hx
 rw [e]
 refine y A' c' h' g' o' lg ⟨X.a.keep s' lg (fun x z hx hi=>(ko x z hx (ne x (.inl hi))).1),X.l.keep s' lg (fun x z hx hi=>(ko x z hx (ne x (.inr hi))).1),⟨_,o2,by rw [C39,e];rfl,?_⟩,X.al,fun x hA=>⟨fun hi=>?_,fun hi=>?_⟩⟩
 ·have r:=Row.push (R:=NQr) (g:=g') (xs:=xs) (f:=fun i=>if i=k then q else D i) (w:=w) (by
   rw [e]
   exact (q1.mono S5 lg).congr fun i hi=>by rw [if_neg (by omega)]) (by rw [e,if_pos rfl];exact NQ.mono lg hw)
  rw [C39,e] at r
  exact r
 ·obtain ⟨z,hz⟩:=X.a.blk hi
  exact (ko x z hz (ne x (.inl hi))).2 hA
 ·obtain ⟨z,hz⟩:=X.l.blk hi
  exact (ko x z hz (ne x (.inr hi))).2 hA
end
def stA(A:Nat->Nat->Rat)(k i j:Nat):Nat->Nat->Rat:=fun a b=>if k<b/\((k<a/\a<i)\/(a=i/\b<j)) then ldA A (k+1) a b else ldA A k a b
def stL(A:Nat->Nat->Rat)(k i:Nat):Nat->Nat->Rat:=fun a b=>if b<k\/(b=k/\a<i) then ldL A a b else if a=b then 1 else 0
section
variable {h:Heap} {K:VP} {A:Option Addr} {n cap Q:Nat} {E:Nat->Rat}
theorem Qs(rs:RowsV h A n n (mtx E n))(hn1:1<=n)(hn:n<=64)(hF:∀ k,k<=n->(∀ m,m<k->Dr (mtx E n) n m)->LdF E n k Q)(hQ1:1<=Q)(hQ:3*Q+1<=400000000)
 (hK1:(∀ k,k<n->Dr (mtx E n) n k)->∀ bo A' c' h',h.le h'->n<=c'->RowsV h' (some ⟨bo,0,none⟩) n n (fun i j=>ldL (mtx E n) i j)->RowV NQr h' A' n (ldD (mtx E n))->K (.tuple #[.slice (some ⟨bo,0,none⟩) n n,.slice A' n c',.bool true]) h')
 (hK0:(¬ ∀ k,k<n->Dr (mtx E n) n k)->∀ h',h.le h'->K (.tuple #[.slice none 0 0,.slice none 0 0,.bool false]) h'):FCall prog Gk #[.slice A n cap] h K:=by
 refine Yf _ _ _ ?_
 unfold Ve
 refine A5v rs (by omega) hn1 (by omega) hn1 ?_
 intro h1 g1 o1 ba ra ca l1 ta
 refine ⟨_,_,_,rfl,?_⟩
 refine ta.sep.call (A2g (by omega) ?_)
 intro h2' g2 o2 bl rl l2 tl h2 s2
 refine ⟨_,_,_,rfl,?_⟩
 have j1:∀ k x,o2 k=some x->(o1.join o2) k=some x:=fun k x e=>by show (match o2 k with|some x=>some x|none=>o1 k)=_;rw [e]
 have dj:∀ k x,o1 k=some x->o2 k=none:=fun k x e=>by
  cases h0:o2 k with
  | none=>rfl
  | some y=>
   have e1:=s2.dis k x e
   rw [tl.sep.own k y h0] at e1;cases e1
 have j2:∀ k x,o1 k=some x->(o1.join o2) k=some x:=fun k x e=>by show (match o2 k with|some x=>some x|none=>o1 k)=_;rw [dj k x e];exact e
 have sj:=s2.join tl.sep
 have X0:Gd h2 g2 (o1.join o2) ba ra bl rl n (mtx E n) (stL (mtx E n) 0 0) none 0 0 (ldD (mtx E n)):=⟨ta.keep sj l2 fun k x e _=>j2 k x e,(tl.keep sj (B3 _) fun k x e _=>j1 k x e).congr fun a b _ _=>by unfold stL;rw [if_neg (show ¬ (b<0\/b=0/\a<0) by omega)],⟨[],OwnSl.nil,rfl,Row.nil⟩,fun x hx hy=>(by
  obtain ⟨y,hy'⟩:=ta.blk hx
  obtain ⟨z,hz⟩:=tl.blk hy
  rw [dj x y hy'] at hz;cases hz),fun x hA=>by cases hA⟩
 refine ⟨fun L hp=>∃ (k:Nat) (g o:Heap) (P:Nat->Nat->Rat) (A':Option Addr) (c:Nat),k<=n/\L=[.slice A' k c,I (k:Int)]/\h.le g/\(∀ m,m<k->Dr (mtx E n) n m)/\(∀ i j,k<=i->i<n->k<=j->j<n->P i j=ldA (mtx E n) k i j)/\Gd hp g o ba ra bl rl n P (stL (mtx E n) k 0) A' c k (ldD (mtx E n)),fun L _=>n-(iAt L 1).toNat,⟨0,g2,_,_,none,0,by omega,rfl,A0 l1 l2,fun m hm=>by omega,fun i j _ _ _ _=>rfl,X0⟩,?_⟩
 clear X0 sj j1 j2 dj s2 tl ta
 rintro dA dn dc z hp ⟨k,g,o,P,A',c,hk,eL,lg,ok,hP,X⟩
 obtain ⟨⟨rfl,rfl,rfl⟩,rfl⟩:=sI2 eL
 refine B5 (fun hlt=>?_) (fun hge=>?_)
 rotate_left
 ·have:dn=n:=by omega
  subst this
  obtain ⟨xs,o3,e,q⟩:=X.d
  refine hK1 ok bl dA dc hp (A0 lg X.a.sep.le) (by have:=o3.1;omega) (X.l.rowsV.congr fun i j _ hj=>by unfold stL;rw [if_pos (.inl hj)]) ⟨xs,o3.slF X.a.sep.ole,e,q.mono S5 X.a.sep.le⟩
 have hkn:dn<n:=by omega
 have F:=hF dn hk ok
 have F1:=fun ok1:Dr (mtx E n) n dn=>hF (dn+1) hkn fun m hm=>by
  by_cases c:m=dn
  ·rw [c];exact ok1
  ·exact ok m (by omega)
 have zkk:=F.zA dn dn (C2w _) hkn hkn
 obtain ⟨cc,hcc,hh⟩:=X.a.head hkn
 obtain ⟨x,ix,x0,x1,x2,x3⟩:=X.a.elem hkn hkn
 rw [hP dn dn (C2w _) hkn (C2w _) hkn] at ix
 have sp:=X.a.sep
 have lhp:=A0 lg sp.le
 refine ⟨_,rfl,by omega,by omega,_,_,_,sp.cell hh,_,rfl,by omega,by omega,_,_,_,_,_,_,_,_,sp.cell x0,sp.cell x1,sp.cell x2,sp.cell x3,?_⟩
 refine Bc (NQ.mono sp.le ix) ⟨_,rfl,B5 (fun hneg=>?_) (fun hpos=>?_)⟩
 ·have hneg':=Zg.1 hneg
  exact hK0 (fun y=>absurd (y dn hkn).1 (by grind)) hp lhp
 have hnn:0<=ldA (mtx E n) dn dn dn:=by
  have:¬ ldA (mtx E n) dn dn dn<0:=fun c=>hpos (Zg.2 c)
  grind
 refine ⟨_,rfl,by omega,by omega,_,_,_,sp.cell hh,_,rfl,by omega,by omega,_,_,_,_,_,_,_,_,sp.cell x0,sp.cell x1,sp.cell x2,sp.cell x3,?_⟩
 refine X.push (by omega) (w:=x) ix ?_
 intro A5 c5 h5 g5 o5 l5 X5
 have ew1:∀ {i:Nat},i<n->B4 ((i:Int)+1)=((i+1:Nat):Int):=fun {i} hi=>by rw [B6]<;>omega
 rw [ew1 hkn]
 have eD:∀ i,i<dn+1->(if i=dn then ldA (mtx E n) dn dn dn else ldD (mtx E n) i)=ldD (mtx E n) i:=fun i _=>by
  by_cases c:i=dn
  ·rw [if_pos c,c];rfl
  ·rw [if_neg c]
 have X6:∀ {hp g o:Heap} {P L:Nat->Nat->Rat},Gd hp g o ba ra bl rl n P L A5 c5 (dn+1) (fun i=>if i=dn then ldA (mtx E n) dn dn dn else ldD (mtx E n) i)->Gd hp g o ba ra bl rl n P L A5 c5 (dn+1) (ldD (mtx E n)):=fun Y=>by
  obtain ⟨xs,o1,e,q⟩:=Y.d
  exact ⟨Y.a,Y.l,⟨xs,o1,e,q.congr eD⟩,Y.al,Y.ad⟩
 have X7:=X6 X5
 clear X6 X5
 refine ⟨fun L hq=>∃ (i:Nat) (g' o':Heap) (P':Nat->Nat->Rat),dn<i/\i<=n/\L=[I (i:Int)]/\h.le g'/\(ldA (mtx E n) dn dn dn=0->∀ i',dn<i'->i'<i->ldA (mtx E n) dn i' dn=0)/\(∀ a b,dn<=a->a<n->dn<=b->b<n->P' a b=stA (mtx E n) dn i 0 a b)/\Gd hq g' o' ba ra bl rl n P' (stL (mtx E n) dn i) A5 c5 (dn+1) (ldD (mtx E n)),fun L _=>n-(iAt L 0).toNat,⟨dn+1,g5,o5,P,by omega,by omega,rfl,A0 lg l5,fun _ i' h1 h2=>by omega,fun a b ha hb h1 h2=>by unfold stA;rw [if_neg (by omega)];exact hP a b ha hb h1 h2,X7.congr (fun _ _ _ _=>rfl) (fun a b _ _=>?_)⟩,?_⟩
 ·unfold stL
  by_cases c:b<dn
  ·rw [if_pos (.inl c),if_pos (.inl c)]
  ·rw [if_neg (by omega)]
   by_cases c2:b=dn/\a<dn+1
   ·rw [if_pos (show b<dn\/b=dn/\a<dn+1 from .inr c2)]
    by_cases c3:a=b
    ·rw [if_pos c3,c3,A2e]
    ·rw [if_neg c3,Wf (by omega)]
   ·rw [if_neg (show ¬ (b<dn\/b=dn/\a<dn+1) by omega)]
 clear X7
 rintro z6 hq ⟨i,g6,o6,P6,hi1,hi2,eL,lg6,hz,hP6,X6⟩
 obtain rfl:=sI1 eL
 have sp6:=X6.a.sep
 have lhq:=A0 lg6 sp6.le
 refine B5 (fun hlti=>?_) (fun hgei=>?_)
 rotate_left
 ·have ein:i=n:=by omega
  subst ein
  have okk:Dr (mtx E i) i dn:=⟨hnn,fun e j h1 h2=>hz e j h1 h2⟩
  refine ⟨⟨dn+1,g6,o6,P6,A5,c5,by omega,rfl,lg6,fun m hm=>?_,fun a b ha hb h1 h2=>?_,X6.congr (fun _ _ _ _=>rfl) (fun a b ha _=>?_)⟩,?_⟩
  ·by_cases c:m=dn
   ·rw [c];exact okk
   ·exact ok m (by omega)
  ·rw [hP6 a b (by omega) hb (by omega) h2]
   unfold stA
   rw [if_pos (by omega)]
  ·unfold stL
   by_cases c:b<dn+1
   ·rw [if_pos (show b<dn\/b=dn/\a<i by omega),if_pos (.inl c)]
   ·rw [if_neg (show ¬ (b<dn\/b=dn/\a<i) by omega),if_neg (show ¬ (b<dn+1\/b=dn+1/\a<0) by omega)]
  ·show i-((dn+1:Nat):Int).toNat<i-((dn:Nat):Int).toNat
   omega
 have hin:i<n:=by omega
 obtain ⟨ck,hck,hk6⟩:=X6.a.head hkn
 obtain ⟨ci,hci,hi6⟩:=X6.a.head hin
 obtain ⟨y,iy,y0,y1,y2,y3⟩:=X6.a.elem hkn hkn
 obtain ⟨u,iu,u0,u1,u2,u3⟩:=X6.a.elem hin hkn
 have ekk:P6 dn dn=ldA (mtx E n) dn dn dn:=by rw [hP6 dn dn (C2w _) hkn (C2w _) hkn];unfold stA;rw [if_neg (by omega)]
 have eik:P6 i dn=ldA (mtx E n) dn i dn:=by rw [hP6 i dn (by omega) hin (C2w _) hkn];unfold stA;rw [if_neg (by omega)]
 rw [ekk] at iy
 rw [eik] at iu
 refine ⟨_,rfl,by omega,by omega,_,_,_,sp6.cell hk6,_,rfl,by omega,by omega,_,_,_,_,_,_,_,_,sp6.cell y0,sp6.cell y1,sp6.cell y2,sp6.cell y3,?_⟩
 have sg0:∀ {q:Rat},q.num.sign=0↔q=0:=fun {q}=>by rw [C3s];exact Rat.num_eq_zero
 refine Bc (NQ.mono sp6.le iy) ⟨_,rfl,D8 (fun he=>?_) (fun hne=>?_)⟩
 ·have e0:=sg0.1 he
  refine ⟨_,rfl,by omega,by omega,_,_,_,sp6.cell hi6,_,rfl,by omega,by omega,_,_,_,_,_,_,_,_,sp6.cell u0,sp6.cell u1,sp6.cell u2,sp6.cell u3,?_⟩
  refine Bc (NQ.mono sp6.le iu) ⟨_,rfl,R2 (fun hne=>?_) (fun he2=>?_)⟩
  ·exact hK0 (fun y=>hne (sg0.2 ((y dn hkn).2 e0 i hi1 hin))) hq lhq
  ·have ei0:=sg0.1 he2
   rw [ew1 hin]
   have eA:∀ a b,ldA (mtx E n) (dn+1) a b=ldA (mtx E n) dn a b:=fun a b=>by
    show (if ldA (mtx E n) dn dn dn=0 then _ else _)=_
    rw [if_pos e0]
   refine ⟨⟨i+1,g6,o6,P6,by omega,by omega,rfl,lg6,fun e i' h1 h2=>?_,fun a b ha hb h1 h2=>?_,X6.congr (fun _ _ _ _=>rfl) (fun a b _ _=>?_)⟩,by simp only [Hz];omega⟩
   ·by_cases c:i'=i
    ·rw [c];exact ei0
    ·exact hz e i' h1 (by omega)
   ·rw [hP6 a b ha hb h1 h2]
    unfold stA
    rw [eA]
    split<;>split<;>rfl
   ·unfold stL
    by_cases c:b<dn\/b=dn/\a<i
    ·rw [if_pos c,if_pos (by omega)]
    ·rw [if_neg c]
     by_cases c2:b=dn/\a=i
     ·rw [if_pos (show b<dn\/b=dn/\a<i+1 by omega),if_neg (by omega),c2.1,c2.2]
      unfold ldL
      rw [if_neg (by omega),if_neg (by omega),if_pos e0]
     ·rw [if_neg (show ¬ (b<dn\/b=dn/\a<i+1) by omega)]
 have ne0:ldA (mtx E n) dn dn dn≠0:=fun e=>hne (sg0.2 e)
 have okk:Dr (mtx E n) n dn:=⟨hnn,fun e=>absurd e ne0⟩
 have F2:=F1 okk
 obtain ⟨cl,hcl,hl6⟩:=X6.l.head hin
 refine ⟨_,rfl,by omega,by omega,_,_,_,sp6.cell hl6,_,rfl,by omega,by omega,_,_,_,sp6.cell hi6,_,rfl,by omega,by omega,_,_,_,_,_,_,_,_,sp6.cell u0,sp6.cell u1,sp6.cell u2,sp6.cell u3,_,rfl,by omega,by omega,_,_,_,sp6.cell hk6,_,rfl,by omega,by omega,_,_,_,_,_,_,_,_,sp6.cell y0,sp6.cell y1,sp6.cell y2,sp6.cell y3,?_⟩
 refine sp6.call (A7t (m:=Q) iu iy (F.zA i dn (by omega) hin hkn) zkk (by omega) ?_)
 intro w7 g7 l7 i7 h7 s7
 refine ⟨_,_,_,_,_,_,_,_,rfl,sp6.le_le s7 l7,_,rfl,by omega,by omega,?_⟩
 refine (X6.next s7 l7).storeL hin hkn i7 ?_
 intro h8 o8 X8
 have eLk:ldA (mtx E n) dn i dn/ldA (mtx E n) dn dn dn=ldL (mtx E n) i dn:=by
  unfold ldL
  rw [if_neg (by omega),if_neg (by omega),if_neg ne0]
 rw [eLk] at X8
 have X9:Gd h8 g7 o8 ba ra bl rl n P6 (stL (mtx E n) dn (i+1)) A5 c5 (dn+1) (ldD (mtx E n)):=X8.congr (fun _ _ _ _=>rfl) (fun a b _ _=>by
  unfold A6t stL
  by_cases c:a=i/\b=dn
  ·rw [if_pos c,if_pos (.inr ⟨c.2,by omega⟩),c.1,c.2]
  ·rw [if_neg c]
   by_cases c2:b<dn\/b=dn/\a<i
   ·rw [if_pos c2,if_pos (by omega)]
   ·rw [if_neg c2,if_neg (show ¬ (b<dn\/b=dn/\a<i+1) by omega)])
 clear X8
 refine ⟨fun L hq=>∃ (j:Nat) (g' o':Heap) (P':Nat->Nat->Rat),dn<j/\j<=n/\L=[I (j:Int)]/\h.le g'/\(∀ a b,dn<=a->a<n->dn<=b->b<n->P' a b=stA (mtx E n) dn i j a b)/\Gd hq g' o' ba ra bl rl n P' (stL (mtx E n) dn (i+1)) A5 c5 (dn+1) (ldD (mtx E n)),fun L _=>n-(iAt L 0).toNat,⟨dn+1,g7,o8,P6,by omega,by omega,rfl,A0 lg6 l7,fun a b ha hb h1 h2=>by
  rw [hP6 a b ha hb h1 h2]
  unfold stA
  by_cases c:dn<b/\((dn<a/\a<i)\/(a=i/\b<0))
  ·rw [if_pos c,if_pos (by omega)]
  ·rw [if_neg c,if_neg (by omega)],X9⟩,?_⟩
 clear X9 X6 hP6
 rintro z10 hr ⟨j,g10,o10,P10,hj1,hj2,eL,lg10,hP10,X10⟩
 obtain rfl:=sI1 eL
 have sp10:=X10.a.sep
 refine B5 (fun hltj=>?_) (fun hgej=>?_)
 rotate_left
 ·have ejn:j=n:=by omega
  subst ejn
  rw [ew1 hin]
  refine ⟨⟨i+1,g10,o10,P10,by omega,by omega,rfl,lg10,fun e=>absurd e ne0,fun a b ha hb h1 h2=>?_,X10⟩,by simp only [Hz];omega⟩
  rw [hP10 a b ha hb h1 h2]
  unfold stA
  by_cases c:dn<b/\((dn<a/\a<i)\/(a=i/\b<j))
  ·rw [if_pos c,if_pos (by omega)]
  ·rw [if_neg c,if_neg (by omega)]
 have hjn:j<n:=by omega
 obtain ⟨c1,hc1,d1⟩:=X10.a.head hin
 obtain ⟨c2,hc2,d2⟩:=X10.a.head hkn
 obtain ⟨c3,hc3,d3⟩:=X10.l.head hin
 obtain ⟨p,ip,p0,p1,p2,p3⟩:=X10.a.elem hin hjn
 obtain ⟨q,iq,q0,q1,q2,q3⟩:=X10.l.elem hin hkn
 obtain ⟨v,iv,v0,v1,v2,v3⟩:=X10.a.elem hkn hjn
 have e1:P10 i j=ldA (mtx E n) dn i j:=by rw [hP10 i j (by omega) hin (by omega) hjn];unfold stA;rw [if_neg (by omega)]
 have e2:P10 dn j=ldA (mtx E n) dn dn j:=by rw [hP10 dn j (C2w _) hkn (by omega) hjn];unfold stA;rw [if_neg (by omega)]
 have e3:stL (mtx E n) dn (i+1) i dn=ldL (mtx E n) i dn:=by unfold stL;rw [if_pos (.inr ⟨rfl,by omega⟩)]
 rw [e1] at ip
 rw [e2] at iv
 rw [e3] at iq
 refine ⟨_,rfl,by omega,by omega,_,_,_,sp10.cell d1,_,rfl,by omega,by omega,_,_,_,sp10.cell d1,_,rfl,by omega,by omega,_,_,_,_,_,_,_,_,sp10.cell p0,sp10.cell p1,sp10.cell p2,sp10.cell p3,_,rfl,by omega,by omega,_,_,_,sp10.cell d3,_,rfl,by omega,by omega,_,_,_,_,_,_,_,_,sp10.cell q0,sp10.cell q1,sp10.cell q2,sp10.cell q3,_,rfl,by omega,by omega,_,_,_,sp10.cell d2,_,rfl,by omega,by omega,_,_,_,_,_,_,_,_,sp10.cell v0,sp10.cell v1,sp10.cell v2,sp10.cell v3,?_⟩
 have zl:=A8k F hkn hQ1 hin
 have zv:=F.zA dn j (C2w _) hkn hjn
 refine sp10.call (Qb (m:=2*Q) iq iv zl (zv.mono (by omega)) (by omega) ?_)
 intro w11 g11 l11 i11 h11 s11
 refine ⟨_,_,_,_,_,_,_,_,rfl,sp10.le_le s11 l11,?_⟩
 refine s11.call (Zh (m:=3*Q+1) (NQ.mono l11 ip) i11 ((F.zA i j (by omega) hin hjn).mono (by omega)) ((zl.mul zv).mono (by omega)) (by omega) ?_)
 intro w12 g12 l12 i12 h12 s12
 refine ⟨_,_,_,_,_,_,_,_,rfl,s11.le_le s12 l12,_,rfl,by omega,by omega,?_⟩
 refine ((X10.next s11 l11).next s12 l12).storeA hin hjn i12 ?_
 intro h13 o13 X13
 rw [ew1 hjn]
 refine ⟨⟨j+1,g12,o13,_,by omega,by omega,rfl,A0 lg10 (A0 l11 l12),fun a b ha hb h1 h2=>?_,X13⟩,by simp only [Hz];omega⟩
 have hnext:ldA (mtx E n) dn i j-ldL (mtx E n) i dn*ldA (mtx E n) dn dn j=ldA (mtx E n) (dn+1) i j:=by
  show _=(if ldA (mtx E n) dn dn dn=0 then _ else _)
  rw [if_neg ne0,<- eLk]
  grind
 unfold A6t
 by_cases c:a=i/\b=j
 ·rw [if_pos c,hnext,c.1,c.2]
  unfold stA
  rw [if_pos (by omega)]
 ·rw [if_neg c,hP10 a b ha hb h1 h2]
  unfold stA
  by_cases c2:dn<b/\((dn<a/\a<i)\/(a=i/\b<j))
  ·rw [if_pos c2,if_pos (by omega)]
  ·rw [if_neg c2,if_neg (by omega)]
theorem Ta(rs:RowsV h A n n (mtx E n))(hn1:1<=n)(hn:n<=64)(hF:∀ k,k<=n->(∀ m,m<k->Dr (mtx E n) n m)->LdF E n k Q)(hQ1:1<=Q)(hQ:3*Q+1<=400000000)
 (hK1:(∀ k,k<n->Dr (mtx E n) n k)->∀ h',h.le h'->K (.bool true) h') (hK0:(¬ ∀ k,k<n->Dr (mtx E n) n k)->∀ h',h.le h'->K (.bool false) h'):FCall prog Ep #[.slice A n cap] h K:=by
 refine A16 _ _ _ ?_
 unfold A17
 exact Qs rs hn1 hn hF hQ1 hQ (fun ok _ _ _ h' l _ _ _=>⟨_,_,_,_,_,_,_,rfl,hK1 ok h' l⟩) (fun hno h' l=>⟨_,_,_,_,_,_,_,rfl,hK0 hno h' l⟩)
end
end Go.Proofs.YtajkakhfcokljaaGreatDoor
namespace Go.Proofs.YtajkakhfcokljaaGreatDoor
set_option maxRecDepth 20000
structure LUS where
 R:Nat->Nat->Rat
 L:Nat->Nat->Rat
 p:Nat->Nat
def B88(n c:Nat)(s:LUS):Nat:=fnd (fun i=>decide (s.R i c≠0)) (n-c) c
def C0v(R:Nat->Nat->Rat)(c:Nat):Nat->Nat->Rat:=fun i j=>if i<=c\/j<c then R i j else R i j-R i c/R c c*R c j
def C0x(R L:Nat->Nat->Rat)(c:Nat):Nat->Nat->Rat:=fun i j=>if j=c then (if i=c then 1 else if c<i then R i c/R c c else 0) else L i j
def C0w(n c:Nat)(s:LUS):LUS:=
 { R:=C0v (fun i=>s.R (xch c (B88 n c s) i)) c
   L:=C0x (fun i=>s.R (xch c (B88 n c s) i)) (fun i=>s.L (xch c (B88 n c s) i)) c
   p:=fun i=>s.p (xch c (B88 n c s) i) }
def C0y(n:Nat)(M:Nat->Nat->Rat):Nat->LUS
 | 0=>⟨M,fun _ _=>0,fun i=>i⟩
 | c+1=>C0w n c (C0y n M c)
structure LuI (n c m:Nat) (M:Nat->Nat->Rat) (s:LUS):Prop where
 zero:∀ i j,i<n->c<=i->j<c->s.R i j=0
 lz:∀ i j,c<=j->s.L i j=0
 szR:∀ i j,i<n->j<n->Sz (7^c*m) (s.R i j)
 szL:∀ i j,i<n->j<n->Sz (7^c*m) (s.L i j)
 len:(B5t n ⟨M,[],1⟩ c).cs.length=c
 sync:∀ i j,i<n->c<=i->(B5t n ⟨M,[],1⟩ c).R i j=s.R i j
def inM(bo:Nat)(rb:Nat->Nat)(n x:Nat):Prop:=x=bo\/∃ i,i<n/\x=rb i
structure Lu3 (h g o:Heap) (bu:Nat) (ru:Nat->Nat) (bl:Nat) (rl:Nat->Nat) (bp n:Nat) (U L:Nat->Nat->Rat) (p:Nat->Nat):Prop where
 u:Mt h g o bu ru n n U
 l:Mt h g o bl rl n n L
 p:∃ ps:List Int,RowB o bp ps/\ps.length=n/\∀ i,i<n->ps[i]? = some ((p i:Nat):Int)
 ul:∀ x,inM bu ru n x->¬ inM bl rl n x
 pu:¬ inM bu ru n bp
 pl:¬ inM bl rl n bp
section
variable {h g o:Heap} {bu bl bp n:Nat} {ru rl:Nat->Nat} {U L:Nat->Nat->Rat} {p:Nat->Nat}
end
structure LOut where
 d:Int
 n:Nat
 q:Nat
 p:Nat->Nat
 l:Nat->List UInt8
 u:Nat->List UInt8
 e:Int
section
variable {h:Heap} {K:VP} {A:Option Addr} {n cap m:Nat} {r c:Int} {la:Nat->List UInt8}
end
def QM(g o:Heap)(b n:Nat)(L:Nat->Nat->Rat):Prop:=∃ xs:List QV,RowX o b xs/\xs.length=n*n/\∀ i j,i<n->j<n->∃ w,xs[i*n+j]? = some w/\RQ g w (L i j)
def inT(T:Tb)(x:Nat):Prop:=x=T.bt\/x=T.bE\/x=T.bS
section
variable {g o:Heap} {b n:Nat} {L:Nat->Nat->Rat}
end
structure LuT (h g o:Heap) (T:Tb) (M:Nat->Nat->Int) (S:Nat->Rat) (bp bl bu n:Nat) (p:Nat->Nat) (L U:Nat->Nat->Rat):Prop where
 t:Tab h g o T M S
 p:∃ ps:List Int,RowB o bp ps/\ps.length=n/\∀ i,i<n->ps[i]? = some ((p i:Nat):Int)
 l:QM g o bl n L
 u:QM g o bu n U
 tp:¬ inT T bp
 tl:¬ inT T bl
 tu:¬ inT T bu
 pl:bp≠bl
 pu:bp≠bu
 lu:bl≠bu
section
variable {h g o:Heap} {T:Tb} {M:Nat->Nat->Int} {S:Nat->Rat} {bp bl bu n:Nat} {p:Nat->Nat} {L U:Nat->Nat->Rat}
end
theorem fr2{l si ri sk rk:Rat}(hl:l≠0)(hi:si≠0)(hk:sk≠0):l*(si*ri)/(l*(sk*rk))*sk/si=ri/rk:=by
 have h1:=C38 _ hl
 have h2:=C38 _ hi
 have h3:=C38 _ hk
 rw [C3l,C3l,C3l,Rat.inv_mul_rev,Rat.inv_mul_rev]
 grind
structure LuF (E:Nat->Rat) (n k m:Nat):Prop where
 row:A3s n k (elP E n n k)=B88 n k (C0y n (mtx E n) k)
 val:∀ i j,i<n->k<=i->j<n->((elP E n n k).M i j:Rat)=(elP E n n k).last*((elP E n n k).S i*(C0y n (mtx E n) k).R i j)
 last:(elP E n n k).last≠0
 S:∀ i,i<n->(elP E n n k).S i≠0
 len:(elP E n n k).cs.length=k
 zM:∀ a b,a<n->b<n->ZB (3^k*bnd n m) ((elP E n n k).M a b)
 zl:ZB (3^k*bnd n m) (elP E n n k).last
 zS:∀ a,a<n->Sz (bnd n m) ((elP E n n k).S a)
section
variable {h:Heap} {K:VP} {A:Option Addr} {n cap m:Nat} {r c:Int} {la:Nat->List UInt8}
end
section
variable {h:Heap} {K:VP} {A B:Option Addr} {n n2 cap cap2 m:Nat} {r c r2 c2:Int} {la lb:Nat->List UInt8}
end
section
variable {r c r2 c2:Int} {n n2 m rows mid mid2 cols:Nat} {la lb:Nat->List UInt8} {o:MOut}
end
section
variable {h:Heap} {K:VP} {A:Option Addr} {n cap m:Nat} {r c:Int} {la:Nat->List UInt8}
end
section
variable {h g o:Heap} {wA B:Option Addr} {wc be m d:Nat} {hd:List HV} {xs ys:List QV}
end
section
variable {h:Heap} {K:VP} {A B:Option Addr} {n cap m:Nat} {r c:Int} {la:Nat->List UInt8} {E:Nat->Rat}
end
set_option maxRecDepth 20000
section
variable {h:Heap} {K:VP} {A:Option Addr} {n ac N cap:Nat} {r c:Int} {la:Nat->List UInt8}
end
section
variable {h:Heap} {A:Option Addr} {n cap:Nat} {r c:Int} {ls:Nat->List UInt8}
end
theorem B2j{M:Nat->Nat->Rat}{q:Nat}{r:Int}(hr:r=q)(h1:1<=q)(h2:q<=64):MOk r r (q*q) (Eg M q) q q:=⟨hr,hr,h1,h2,h1,h2,rfl,fun _ _=>⟨_,rfl⟩⟩
theorem B2i{M:Nat->Nat->Rat}{q m:Nat}(hq:1<=q)(hs:∀ i j,i<q->j<q->Sz m (M i j)):∀ i,i<q*q->Sz m (rv (Eg M q i)):=by
 intro i hi
 show Sz m (rv (M0 _))
 rw [Qa]
 exact hs _ _ (C3c hi) (Nat.mod_lt i (by omega))
theorem A8t{M:Nat->Nat->Rat}{q m:Nat}(hq:1<=q)(hs:∀ i j,i<q->j<q->Sz m (M i j)):∀ i,i<q*q->(Eg M q i).length<=2*m+4:=by
 intro i hi
 exact A3l (hs _ _ (C3c hi) (Nat.mod_lt i (by omega)))
section
variable {h:Heap} {K:VP} {A:Option Addr} {n cap m:Nat} {r c:Int} {la:Nat->List UInt8}
end
def bvF(ls:Nat->List UInt8)(ln:Nat):Nat->Rat:=fun t=>if t<ln then rv (ls t) else 0
def B7i(E:Nat->Rat)(q:Nat):Nat->Nat->Rat:=fun a b=>sm q fun t=>mtx E q t a*mtx E q t b
def Yk(ls:Nat->List UInt8)(ln:Nat)(cs:Nat->List UInt8)(cn q:Nat):Nat->Nat->Rat:=fun a b=>B7i (bvF ls ln) q a b-if a=b/\a<cn then rv (cs a) else 0
theorem A7j(ls:Nat->List UInt8)(ln:Nat)(cs:Nat->List UInt8)(cn q a b:Nat):Yk ls ln cs cn q a b=Yk ls ln cs cn q b a:=by
 unfold Yk B7i
 rw [F7 fun t _=>Rat.mul_comm _ _]
 congr 1
 by_cases e:a=b
 ·rw [e]
 ·rw [if_neg (fun x=>e x.1),if_neg (fun x=>e x.1.symm)]
theorem B3z{w m m2:Nat}{f f2:Nat->Rat}(hs:∀ i,i<w->Sz m (f i))(hs2:∀ i,i<w->Sz m2 (f2 i)):∀ k,k<=w->Sz (1+k*(m+m2+1)) (sm k (fun j=>f j*f2 j)):=by
 intro k
 induction k with
 | zero=>intro _;exact Sz.zero (by omega)
 | succ k ih=>
  intro hk
  have h1:=ih (by omega)
  have h2:=(hs k (by omega)).mul (hs2 k (by omega))
  have e:1+(k+1)*(m+m2+1)=1+k*(m+m2+1)+(m+m2)+1:=by rw [C3r];omega
  rw [e]
  exact h1.add h2
theorem B4p{ls:Nat->List UInt8}{ln:Nat}(hl:∀ i,i<ln->(ls i).length<=8)(t:Nat):Sz 32 (bvF ls ln t):=by
 unfold bvF
 split
 ·exact A7p (k:=8) (hl t (by assumption)) (by omega)
 ·exact Sz.zero (by omega)
theorem A7h{E:Nat->Rat}{q:Nat}(hE:∀ t,Sz 32 (E t))(hq:q<=4)(a b:Nat):Sz 261 (B7i E q a b):=by
 have:=B3z (w:=q) (f:=fun t=>mtx E q t a) (f2:=fun t=>mtx E q t b) (fun t _=>hE _) (fun t _=>hE _) q (C2w _)
 exact this.mono (by omega)
theorem A7i{ls cs:Nat->List UInt8}{ln cn q:Nat}(hl:∀ i,i<ln->(ls i).length<=8)(hc:∀ i,i<cn->(cs i).length<=8)(hq:q<=4)(a b:Nat):Sz 294 (Yk ls ln cs cn q a b):=by
 refine ((A7h (B4p hl) hq a b).sub (n:=32) ?_).mono (by omega)
 split
 ·rename_i e;exact A7p (k:=8) (hc a e.2) (by omega)
 ·exact Sz.zero (by omega)
theorem B82(ls:Nat->List UInt8)(ln:Nat)(cs:Nat->List UInt8)(cn:Nat){q:Nat}:SymT q (Eg (Yk ls ln cs cn q) q):=fun i j hi hj=>by
 have hjq:j<q:=by omega
 unfold Eg
 obtain ⟨d1,d2⟩:=Gq (i:=i) hjq
 obtain ⟨d3,d4⟩:=Gq (i:=j) hi
 rw [d1,d2,d3,d4,A7j]
theorem B81(ls:Nat->List UInt8)(ln:Nat)(cs:Nat->List UInt8)(cn:Nat){q:Nat}(h1:1<=q)(h2:q<=64):B4z (q:Int) (q:Int) (q*q) (Eg (Yk ls ln cs cn q) q) q:=⟨B2j rfl h1 h2,B82 ls ln cs cn⟩
section
variable {h:Heap} {K:VP} {A B lA cA:Option Addr} {n ln lc cn cc cap cap2 m m2:Nat} {ls cs:Nat->List UInt8} {R:Nat->Nat->Rat} {f:Nat->Rat}
theorem A5p{n:Int}(hK:∀ k:Nat,k<4->K (I (k:Int)) h):FCall prog A92 #[I n,I 4] h K:=by
 refine B7c _ _ ?_
 unfold C2l
 have h1:=Int.tmod_lt_of_pos n (show (0:Int)<4 by decide)
 have h2: -4<C3m n 4:=by
  have:=Int.lt_tmod_of_pos n (show (0:Int)<4 by decide)
  omega
 refine B5 (fun e=>by omega) (fun _=>B5 (fun hneg=>?_) (fun hpos=>?_))
 ·have:=hK (C3m n 4+4).toNat (by omega)
  rw [show B4 (C3m n 4+4)=(((C3m n 4+4).toNat:Nat):Int) by rw [B6]<;>omega]
  exact this
 ·have:=hK (C3m n 4).toNat (by omega)
  rw [show ((C3m n 4).toNat:Int)=C3m n 4 by omega] at this
  exact this
theorem Ql{n:Int}(rl:RowV SSr h lA ln ls)(rc:RowV SSr h cA cn cs)(hl:∀ i,i<ln->(ls i).length<=8)(hc:∀ i,i<cn->(cs i).length<=8)
 (hK:∀ q,1<=q->q<=4->∀ A' c' h',h.le h'->q*q<=c'->RowV SSr h' A' (q*q) (Eg (Yk ls ln cs cn q) q)->K (B46 q q A' (q*q) c') h'):FCall prog Gj #[.slice lA ln lc,I n,.slice cA cn cc] h K:=by
 refine Yd _ _ _ _ _ _ _ ?_
 unfold Vd
 refine A5p ?_
 intro k hk
 refine ⟨_,rfl,?_⟩
 rw [wiS k (by omega)]
 have hq1:1<=k+1:=by omega
 have hq4:k+1<=4:=by omega
 generalize k+1=q at *
 have hqq:q*q<=4*4:=C33 hq4 hq4
 rw [wiM q q (by omega)]
 have sE:=B4p hl
 refine ⟨fun L hp=>∃ (k:Nat) (g o:Heap) (xs:List QV) (A':Option Addr) (c':Nat),k<=q*q/\L=[.slice A' k c',I (k:Int)]/\h.le g/\Sep hp g o/\OwnSl o J3 A' c' xs/\xs.length=k/\Row NQr g xs k (bvF ls ln),fun L _=>q*q-(iAt L 1).toNat,⟨0,h,Fc,[],none,0,by omega,rfl,B3 _,Sep.refl h,OwnSl.nil,rfl,Row.nil⟩,?_⟩
 rintro bA bn bc z hp ⟨k,g,o,xs,A',c',hk,eL,lg,s,ow,hxl,rr⟩
 obtain ⟨⟨rfl,rfl,rfl⟩,rfl⟩:=sI2 eL
 have lhp:=A0 lg s.le
 refine B5 (fun hlt=>?_) (fun hge=>?_)
 ·have hkq:bn<q*q:=by omega
  have ew:B4 ((bn:Int)+1)=((bn+1:Nat):Int):=by rw [B6]<;>omega
  have step:∀ {h1 g1:Heap} (w:QV),Sep h1 g1 o->g.le g1->NQ g1 w (bvF ls ln bn)->wpH prog (Instr.buildSlice Ai 1 #[(0,w.v)]) (fun v' hp=>∃ (B:Option Addr) (m d:Nat),v'= .slice B m d/\wpH prog (Builtin.append_ #[Ai,Ai] Ai #[.slice bA bn bc,.slice B m d]) (fun v1 hp1=>∃ (A':Option Addr) (n' c':Nat),v1= .slice A' n' c'/\(∃ (k:Nat) (g o:Heap) (xs:List QV) (A2:Option Addr) (c2:Nat),k<=q*q/\[.slice A' n' c',I (B4 ((bn:Int)+1))]=[.slice A2 k c2,I (k:Int)]/\h.le g/\Sep hp1 g o/\OwnSl o J3 A2 c2 xs/\xs.length=k/\Row NQr g xs k (bvF ls ln))/\q*q-(iAt [.slice A' n' c',I (B4 ((bn:Int)+1))] 1).toNat<q*q-(iAt [.slice bA bn bc,I (bn:Int)] 1).toNat) hp) h1:=by
   intro h1 g1 w s1 l1 iw
   refine Ez (n:=bn) A1v s1 ow hxl.symm (y:=w) rfl (by decide) (by omega) (by omega) ?_
   intro A3 c3 h3 g3 o3 l3 s3 ow3 _
   rw [hxl,ew]
   refine ⟨⟨bn+1,g3,o3,_,A3,c3,by omega,rfl,A0 lg (A0 l1 l3),s3,ow3,by rw [C39,hxl];rfl,?_⟩,?_⟩
   ·have r:=Row.push (R:=NQr) (g:=g3) (xs:=xs) (f:=bvF ls ln) (w:=w) (by rw [hxl];exact rr.mono S5 (A0 l1 l3)) (by rw [hxl];exact NQ.mono l3 iw)
    rw [C39,hxl] at r
    exact r
   ·show q*q-((bn+1:Nat):Int).toNat<q*q-((bn:Nat):Int).toNat
    omega
  refine B5 (fun hln=>?_) (fun hln=>?_)
  ·have hbl:bn<ln:=by omega
   obtain ⟨u,eu,hcu⟩:=(rl.mono Ga lhp).sat hbl
   refine ⟨u,eu,by omega,by omega,_,hcu,?_⟩
   refine s.call (A41 (by have:=hl bn hbl;omega) ?_)
   intro w g1 l1 iw h1 s1
   refine ⟨_,_,_,_,_,_,_,_,rfl,?_⟩
   refine step w s1 l1 ?_
   unfold bvF
   rw [if_pos hbl]
   exact iw
  ·refine step Af s (B3 _) ?_
   unfold bvF
   rw [if_neg (by omega)]
   exact NQ.zero
 ·have hkq:bn=q*q:=by omega
  subst hkq
  have rb:RowV NQr hp bA (q*q) (bvF ls ln):=⟨xs,ow.slF s.ole,hxl,rr.mono S5 s.le⟩
  have hbc:q*q<=bc:=by have:=ow.1;omega
  clear s ow rr lg
  refine ⟨fun L hx=>∃ (k:Nat) (g o:Heap) (hd:List HV) (A':Option Addr) (c':Nat),k<=q/\L=[.slice A' k c',I (k:Int)]/\hp.le g/\Sep hx g o/\OwnSl o Cs A' c' hd/\hd.length=k/\∀ i,i<k->∃ s,hd[i]? = some s/\s.n=q/\q<=s.c/\RowV NQr hp s.A q (mtx (bvF ls ln) q i),fun L _=>q-(iAt L 1).toNat,⟨0,hp,Fc,[],none,0,by omega,rfl,B3 _,Sep.refl hp,OwnSl.nil,rfl,fun i hi=>by omega⟩,?_⟩
  rintro rA rn rcp z hx ⟨k,g,o,hd,A',c',hk,eL,lg,s,ow,hhd,rows⟩
  obtain ⟨⟨rfl,rfl,rfl⟩,rfl⟩:=sI2 eL
  have lhx:=A0 lhp (A0 lg s.le)
  refine B5 (fun hlt=>?_) (fun hge=>?_)
  ·have hkr:rn<q:=by omega
   have h2:(rn+1)*q<=q*q:=C2z _ hkr
   have h3:(rn+1)*q=rn*q+q:=by rw [C3r,C3q]
   have e0:B4 ((rn:Int)+1)=((rn+1:Nat):Int):=B6 (by omega) (by omega)
   have e1:B4 ((rn:Int)*(q:Int))=((rn*q:Nat):Int):=by rw [<- C3b];exact P8 (by omega)
   have e2:B4 (B4 ((rn:Int)+1)*(q:Int))=(((rn+1)*q:Nat):Int):=by rw [e0,<- C3b];exact P8 (by omega)
   rw [e1,e2,e0]
   refine ⟨⟨by omega,by omega⟩,⟨by omega,by simp only [C30];omega⟩,?_⟩
   simp only [C30]
   have e5:(rn+1)*q-rn*q=q:=by omega
   rw [e5]
   have row:RowV NQr hp (J5 bA bc (rn*q) 4) q (mtx (bvF ls ln) q rn):=rb.cut (c:=bc) (l:=rn*q) (k:=q) (by omega) hbc
   refine Ez (ty:=A1o) (n:=rn) C03 s ow hhd.symm (y:=(⟨J5 bA bc (rn*q) 4,q,bc-rn*q⟩:HV)) rfl (by decide) (by omega) (by omega) ?_
   intro A3 c3 h3 g3 o3 l3 s3 ow3 _
   rw [hhd]
   refine ⟨⟨rn+1,g3,o3,_,A3,c3,by omega,rfl,A0 lg l3,s3,ow3,by rw [C39,hhd];rfl,fun i hi=>?_⟩,?_⟩
   ·by_cases e:i=rn
    ·subst e
     exact ⟨_,by rw [List.getElem?_append_right (by omega),hhd,Nat.sub_self];rfl,rfl,by show q<=bc-i*q;omega,row⟩
    ·obtain ⟨u,f1,f2,f3,f4⟩:=rows i (by omega)
     exact ⟨u,by rw [List.getElem?_append_left (by omega)];exact f1,f2,f3,f4⟩
   ·show q-((rn+1:Nat):Int).toNat<q-((rn:Nat):Int).toNat
    omega
  ·have hrq:rn=q:=by omega
   subst hrq
   have rs:RowsV hx rA rn rn (mtx (bvF ls ln) rn):=⟨hd,ow.slF s.ole,hhd,fun i hi=>by
    obtain ⟨u,f1,f2,f3,f4⟩:=rows i hi
    exact ⟨u,f1,f2,f3,f4.mono S5 (A0 lg s.le)⟩⟩
   clear s ow lg
   refine A5s rs hq1 (by omega) (by omega) ?_
   intro b1 h1 l1 rt
   refine ⟨_,_,_,rfl,?_⟩
   refine A00 (m:=32) rt (rs.mono l1) hq1 (by omega) hq1 (by omega) hq1 (by omega) (fun i j _ _=>sE _) (fun i j _ _=>sE _) (by omega) ?_
   intro h2 g2 o2 bo ro l2 t2
   refine ⟨_,_,_,rfl,fun L hy=>∃ (k:Nat) (g o:Heap),k<=rn/\k<=cn/\L=[I (k:Int)]/\h.le g/\Mt hy g o bo ro rn rn (fun a b=>B7i (bvF ls ln) rn a b-if a=b/\a<k then rv (cs a) else 0),fun L _=>rn-(iAt L 0).toNat,⟨0,g2,o2,by omega,by omega,rfl,A0 lhx (A0 l1 l2),t2.congr fun a b _ _=>by rw [if_neg (by omega),Rat.sub_eq_add_neg,Rat.neg_zero,C3h];rfl⟩,?_⟩
   clear t2
   rintro z3 hy ⟨k,g,o,hk1,hk2,eL,lg,t⟩
   obtain rfl:=sI1 eL
   have fin:(k=rn\/k=cn)->FCall prog Re #[.slice (some ⟨bo,0,none⟩) rn rn] hy (fun r6 hp16=>∃ (t900:Int) (t901:Int) (t902A:Option Addr) (t902n:Nat) (t902c:Nat),r6= .agg #[I t900,I t901,.slice t902A t902n t902c]/\K (.agg #[I t900,I t901,.slice t902A t902n t902c]) hp16):=fun hx=>by
    have rM:RowsV hy (some ⟨bo,0,none⟩) rn rn (Yk ls ln cs cn rn):=t.rowsV.congr fun a b ha _=>by
     unfold Yk
     congr 1
     by_cases e:a=b/\a<cn
     ·rw [if_pos e,if_pos ⟨e.1,by omega⟩]
     ·rw [if_neg e,if_neg (fun x=>e ⟨x.1,by omega⟩)]
    refine A5u (m:=294) rM (by omega) hq1 (by omega) hq1 (fun i j _ _=>A7i hl hc hq4 i j) (by omega) ?_
    intro A9 c9 h9 l9 hc9 r9
    exact ⟨_,_,_,_,_,rfl,hK rn hq1 hq4 A9 c9 h9 (A0 lg (A0 t.sep.le l9)) hc9 r9⟩
   refine B5 (fun hlt=>?_) (fun hge=>fin (.inl (by omega)))
   refine B5 (fun hlt2=>?_) (fun hge=>fin (.inr (by omega)))
   have hkr:k<rn:=by omega
   have hkc:k<cn:=by omega
   obtain ⟨ch,hch,hh⟩:=t.head hkr
   obtain ⟨x,ix,x0,x1,x2,x3⟩:=t.elem hkr hkr
   rw [if_neg (by omega)] at ix
   have sp:=t.sep
   have lhy:=A0 lg sp.le
   obtain ⟨u,eu,hcu⟩:=(rc.mono Ga lhy).sat hkc
   refine ⟨_,rfl,by omega,by omega,_,_,_,sp.cell hh,_,rfl,by omega,by omega,_,_,_,sp.cell hh,_,rfl,by omega,by omega,_,_,_,_,_,_,_,_,sp.cell x0,sp.cell x1,sp.cell x2,sp.cell x3,u,eu,by omega,by omega,_,hcu,?_⟩
   refine sp.call (A41 (by have:=hc k hkc;omega) ?_)
   intro w7 g7 l7 i7 h7 s7
   refine ⟨_,_,_,_,_,_,_,_,rfl,sp.le_le s7 l7,?_⟩
   have z1:Sz 300 (B7i (bvF ls ln) rn k k-0):=((A7h sE hq4 k k).sub (Sz.zero (m:=1) (C2w 1))).mono (by omega)
   refine s7.call (Zh (m:=300) (NQ.mono l7 ix) i7 z1 ((A7p (k:=8) (hc k hkc) (by omega)).mono (by omega)) (by omega) ?_)
   intro w8 g8 l8 i8 h8 s8
   refine ⟨_,_,_,_,_,_,_,_,rfl,s7.le_le s8 l8,_,rfl,by omega,by omega,?_⟩
   refine ((t.next s7 l7).next s8 l8).store hkr hkr i8 ?_
   intro h9 o9 t9 _
   rw [wiS k (by omega)]
   refine ⟨⟨k+1,g8,o9,by omega,by omega,rfl,A0 lg (A0 l7 l8),t9.congr fun a b _ _=>?_⟩,by simp only [Hz];omega⟩
   unfold A6t
   by_cases e:a=k/\b=k
   ·rw [if_pos e,e.1,e.2,if_pos ⟨rfl,by omega⟩,Rat.sub_eq_add_neg (B7i _ _ _ _) 0,Rat.neg_zero,C3h]
   ·rw [if_neg e]
    dsimp only
    by_cases e2:a=b/\a<k
    ·rw [if_pos e2,if_pos ⟨e2.1,by omega⟩]
    ·rw [if_neg e2,if_neg (by omega)]
theorem A5q(rs:RowsV h A n n R)(rx:RowV NQr h B n f)(hn:n<=64)(hs:∀ i j,i<n->j<n->Sz m (R i j))(hs2:∀ i,i<n->Sz m2 (f i))(hmm:m<=m2)(hm:1+n*(2*(1+n*(m+m2+1))+1)+2*(1+n*(m+m2+1))<=400000000)(hm0:1+n*(2*m2+1)+2*m2<=400000000)(hn1:1<=n)
 (hK:∀ v h',h.le h'->NQ h' v (qf n R f)->K v.v h'):FCall prog A2n #[.slice A n cap,.slice B n cap2] h K:=by
 refine B3p _ _ _ _ _ _ ?_
 unfold B9s
 refine A8w (m:=m2) rs rx (by omega) (by omega) (fun i j hi hj=>(hs i j hi hj).mono hmm) hs2 hm0 ?_
 intro b h1 own
 refine ⟨_,_,_,rfl,?_⟩
 have hle:n*1<=n*(m+m2+1):=Nat.mul_le_mul_left _ (by omega)
 have hle2:m2<=1+n*(m+m2+1):=by
  have:1*(m+m2+1)<=n*(m+m2+1):=C2z _ hn1
  omega
 refine A02 (m:=1+n*(m+m2+1)) (rx.mono S5 own.le) (own.vis S5) (by omega) (fun i hi=>(hs2 i hi).mono hle2) (fun i hi=>B3z (fun j hj=>hs i j hi hj) hs2 n (C2w _)) hm ?_
 intro v h2 l2 iv
 exact ⟨_,_,_,_,_,_,_,_,rfl,hK v h2 (A0 own.le l2) iv⟩
theorem A2c(rl:RowV SSr h lA ln ls)(rc:RowV SSr h cA cn cs)(hK1:ln<=20->cn<=8->(∀ i,i<ln->(ls i).length<=8)->(∀ i,i<cn->(cs i).length<=8)->K (.bool true) h)(hK0:K (.bool false) h):FCall prog Xa #[.slice lA ln lc,.slice cA cn cc] h K:=by
 refine B0z _ _ _ _ _ _ ?_
 unfold B58
 refine B5 (fun h1=>?_) (fun _=>hK0)
 refine B5 (fun h2=>?_) (fun _=>hK0)
 refine Qo rl (by omega) (fun h3=>⟨_,rfl,Lp ?_⟩) (fun _=>⟨_,rfl,Br.no hK0⟩)
 refine Qo rc (by omega) (fun h4=>⟨_,rfl,hK1 (by omega) (by omega) (fun i hi=>by have:=h3 i hi;omega) (fun i hi=>by have:=h4 i hi;omega)⟩) (fun _=>⟨_,rfl,hK0⟩)
theorem A7g{q:Nat}(h:q<=4):3^q*bnd q 294+bnd q 294<=121000:=by
 have h1:bnd q 294<=1471:=by unfold bnd;omega
 have h2:3^q*bnd q 294<=3^4*1471:=C33 (C3k (show 3>0 by decide) h) h1
 have h3:3^4*1471=119151:=by decide
 omega
theorem B5p{q k:Nat}(h:q<=4)(hk:k<q):2^k*A1k q k 121000<=6000000:=by
 have key:∀ q,q<5->∀ k,k<q->2^k*A1k q k 121000<=6000000:=by
  unfold A1k
  decide
 exact key q (by omega) k hk
theorem law_ldlWitness{n:Int}(gl:Gl h)(rl:RowV SSr h lA ln ls)(rc:RowV SSr h cA cn cs):FCall prog Kq #[.slice lA ln lc,I n,.slice cA cn cc] h (C1l h):=by
 refine Tq _ _ _ _ _ _ _ ?_
 unfold So
 have aw:∀ h',h.le h'->FCall prog Hp #[] h' (fun r hp=>∃ t,r= .bool t/\C1l h (.bool t) hp):=fun h' l=>A2z (gl.mono l) fun h'' l''=>⟨_,rfl,rfl,A0 l l''⟩
 refine A2c rl rc (fun hln hcn hl hc=>⟨_,rfl,Br.no ?_⟩) ⟨_,rfl,Lp (aw h (B3 _))⟩
 refine Ql rl rc hl hc ?_
 intro q hq1 hq4 A1 c1 h1 l1 _ r1
 refine ⟨_,_,_,_,_,rfl,?_⟩
 have hqq:q*q<=4*4:=C33 hq4 hq4
 have ms:∀ i j,i<q->j<q->Sz 294 (Yk ls ln cs cn q i j):=fun i j _ _=>A7i hl hc hq4 i j
 have fl:∀ i,i<q*q->(Eg (Yk ls ln cs cn q) q i).length<=100000000:=fun i hi=>C37 (A8t hq1 ms i hi) (by omega)
 have fs:∀ i,i<q*q->Sz 294 (rv (Eg (Yk ls ln cs cn q) q i)):=B2i hq1 ms
 have sq:=B81 ls ln cs cn (q:=q) hq1 (by omega)
 have uq:∀ {a b},MOk (q:Int) (q:Int) (q*q) (Eg (Yk ls ln cs cn q) q) a b->a=q/\b=q:=fun mk=>by have:=mk.er;have:=mk.ec;omega
 have noE:∀ {e},¬ SqE (q:Int) (q:Int) (q*q) (Eg (Yk ls ln cs cn q) q) e:=fun x=>by
  rcases x with ⟨x,_⟩|⟨_,x,_⟩
  ·exact x ⟨_,_,sq.1⟩
  ·exact x ⟨_,sq⟩
 have hb:∀ a,MOk (q:Int) (q:Int) (q*q) (Eg (Yk ls ln cs cn q) q) a a->3^a*bnd a 294+bnd a 294<=121000:=fun a mk=>by rw [(uq mk).1];exact A7g hq4
 have hW:∀ a k,MOk (q:Int) (q:Int) (q*q) (Eg (Yk ls ln cs cn q) q) a a->k<a->2^k*A1k a k 121000<=6000000:=fun a k mk hk=>B5p (by have:=uq mk;omega) hk
 refine A5t r1 (by omega) fl ?_ (fun hno=>absurd ⟨_,_,sq.1⟩ hno)
 intro a b mk b2 h2 l2 rs
 obtain ⟨rfl,rfl⟩:=uq mk
 refine ⟨_,_,_,_,rfl,?_⟩
 have l02:=A0 l1 l2
 have def2:∀ {h3:Heap} {K:VP} {cap:Nat},h2.le h3->((∀ k,k<b->Dr (mtx (rvs (Eg (Yk ls ln cs cn b) b)) b) b k)->∀ h',h3.le h'->K (.bool true) h')->((¬ ∀ k,k<b->Dr (mtx (rvs (Eg (Yk ls ln cs cn b) b)) b) b k)->∀ h',h3.le h'->K (.bool false) h')->FCall prog Ep #[.slice (some ⟨b2,0,none⟩) b cap] h3 K:=fun l k1 k0=>Ta (Q:=121000) (rs.mono l) hq1 (by omega) (fun k hk ok=>ldF (m:=294) fs (A7g hq4) sq.2.symm hk ok) (by omega) (by omega) k1 k0
 refine Xi (Q:=121000) (W:=6000000) (gl.mono l02) (r1.mono Ga l2) (by omega) fl fs hb hW (by omega) ?_ ?_ (fun e he=>absurd he noE)
 ·intro a' sq' hno v b3 h3 l3 rv3 sz neg
  obtain ⟨rfl,-⟩:=uq sq'.1
  refine ⟨_,_,_,_,_,rfl,Br.no ?_⟩
  refine def2 l3 (fun ok=>absurd ok hno) ?_
  intro _ h4 l4
  refine ⟨_,rfl,Br.no (Br.no ?_)⟩
  have l34:=A0 l3 l4
  refine Zp (rv3.mono Ga l4) (by omega) (fun i hi=>C37 (A3l (sz i hi)) (by omega)) ?_ (fun hno'=>absurd (fun i _=>⟨_,rfl⟩) hno')
  intro _ b5 h5 own5
  refine ⟨_,_,_,_,rfl,Lp ?_⟩
  refine D8 (fun _=>?_) (fun x=>absurd rfl x)
  have rv5:RowV NQr h5 (some ⟨b5,0,none⟩) a' v:=(own5.vis S5).congr fun i _=>Qa (v i)
  refine A5q (m:=294) (m2:=6000000) (rs.mono (A0 l34 own5.le)) rv5 (by omega) (fun i j hi hj=>fs _ (Ac hi hj)) sz (by omega) ?_ (by omega) hq1 ?_
  ·have hx:a'*(294+6000000+1)<=4*(294+6000000+1):=C2z _ hq4
   have hy:a'*(2*(1+a'*(294+6000000+1))+1)<=4*(2*(1+4*(294+6000000+1))+1):=C33 hq4 (by omega)
   omega
  intro v6 h6 l6 i6
  refine ⟨_,_,_,_,_,_,_,_,rfl,?_⟩
  refine Bc i6 ⟨_,rfl,B5 (fun _=>aw h6 (A0 l02 (A0 l34 (A0 own5.le l6)))) (fun x=>absurd (Zg.2 neg) x)⟩
 ·intro a' sq' ok h3 l3
  obtain ⟨rfl,-⟩:=uq sq'.1
  refine ⟨_,_,_,_,_,rfl,Br.no ?_⟩
  refine def2 l3 ?_ (fun hno=>absurd ok hno)
  intro _ h4 l4
  refine ⟨_,rfl,Br.no (Lp ?_)⟩
  exact D8 (fun _=>aw h4 (A0 l02 (A0 l3 l4))) (fun x=>absurd rfl x)
end
end Go.Proofs.YtajkakhfcokljaaGreatDoor
namespace Go.Proofs.YtajkakhfcokljaaGreatDoor
set_option maxRecDepth 20000
open Go Go.RowKit
theorem B93(s:ByteArray):bs s.data.toList=s:=by
 cases s;simp [bs]
theorem open_strV{H:Type}{enc:TypeId × Value->H}{P:Program}{W:World}{base:Nat}{sp:Nat->Bool}{held:Bool}{t e:TypeId}{fuel:Nat}{A:Option Addr}{len cap:Nat}{x:DataW H × List MemPlace}(ht:P.underlying t=some (.slice e))(he:P.underlying e=some .string)(hc:P.cellsOf e=1)
 (hf:DataW.trod enc P W base sp held fuel t [.slice A len cap]=some x):∃ ls:Nat->List UInt8,RowV SSr (memOf W) A len ls/\len<=maxLen:=by
 rcases Deep.open_strs ht he hc hf with ⟨hcs,_⟩|⟨a,l,c,m,Sx,hcs,_,hl,hm,hmm,_,hcell⟩
 ·simp at hcs
  obtain ⟨rfl,rfl,rfl⟩:=hcs
  exact ⟨fun _=>[],RowV.nil,Nat.zero_le _⟩
 ·simp at hcs
  obtain ⟨rfl,rfl,rfl⟩:=hcs
  have hlm:len<=m:=by rw [hmm];split<;>omega
  have sl:SlV (memOf W) (some a) (((List.range len).map fun i=>(Sx i).data.toList).map fun l=>Value.string (bs l)):=by
   refine .inr ⟨a,rfl,fun i v hv=>?_⟩
   rw [C3n,C3n] at hv
   by_cases hi:i<len
   ·rw [List.getElem?_range hi] at hv
    simp only [Option.map_some,Option.some.injEq,B93] at hv
    rw [<- hv]
    exact Mm (hcell i (by omega)).1
   ·rw [List.getElem?_eq_none (by simpa using hi)] at hv;cases hv
  have:=Fx sl
  rw [List.length_map,List.length_range] at this
  exact ⟨_,this,by omega⟩
end Go.Proofs.YtajkakhfcokljaaGreatDoor
