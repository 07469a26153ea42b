/-
  Texts of this proof, merged by a program of ours.
-/
import Derived.Test.YtajkakhfcokljaaGreatDoorG31
import Derived.Test.YtajkakhfcokljaaGreatDoorG32
import Derived.Test.YtajkakhfcokljaaGreatDoorG22
import Derived.Test.YtajkakhfcokljaaGreatDoorG30
import Derived.Test.YtajkakhfcokljaaGreatDoorG21
open Go.Proofs.Tryz
open _root_.Go.Addr renaming add->C5k
open Classical renaming byContradiction->C5m
open _root_.Go.Instr renaming storeAt->C66
open Int renaming toNat_natCast->C5l,natCast_mul->C5t,tmod->C6m
open List renaming length_append->C5i,replicate->C5o,length_replicate->C5s,getD_eq_getElem?_getD->C61,not_mem_nil->C62,getElem?_eq_getElem->C64,mem_cons->C68,getElem?_replicate->C6f,length_set->C6g,length_nil->C6h,range->C6r
open Nat renaming le_refl->C5h,mul_le_mul_right->C5j,div_lt_of_lt_mul->C5p,add_mul_mod_self_right->C5q,mul_comm->C5r,add_mul_div_right->C5u,mod_eq_of_lt->C5w,div_eq_of_lt->C5x,mul_le_mul->C5y,zero_add->C60,add_comm->C67,not_lt_zero->C69,add_mul->C6a,zero_mul->C6c,mod_lt->C6d,lt_irrefl->C6e,one_mul->C6k,add_assoc->C6l
open Rat renaming add_zero->C5n,zero_mul->C5v,intCast_mul->C5z,mul_zero->C63,mul_inv_cancel->C65,sub_eq_add_neg->C6b,mul_nonneg->C6i,div_def->C6j,divInt_eq_div->C6n,mul_comm->C6o,intCast_add->C6p,divInt->C6q
namespace Go.Proofs.YtajkakhfcokljaaGreatDoor
set_option linter.all false
set_option maxRecDepth 20000
open Go
theorem Sep.storeRaw{P:Program}{t:TypeId}{m:Nat}(one:P.cellsOf t=m/\(P.info? t).isSome=true){v:Value}{vs:List Value}(hv:v.cells=vs.toArray)(hl:vs.length=m)(h1:∀ x∈vs,A3f x=true){h g o:Heap}(s:Sep h g o){b:Nat}{arr:List Value}{e:TypeId}(hb:o b=some (.cells arr.toArray e)){off:Nat}(hoff:off+m<=arr.length){K:Unit->Heap->Prop}
 (x:∀ h' o',o'=o.put b (.cells (K5 arr off vs).toArray e)->Sep h' g o'->K () h'):wpH P (C66 t (.pointer (some ⟨b,off,none⟩)) v) K h:=by
 obtain ⟨ti,hti⟩:=Option.isSome_iff_exists.1 one.2
 have hs:ti.size=m:=by simpa [Program.cellsOf,hti] using one.1
 have hput:(h.without b).put b (.cells arr.toArray e)=h:=L4 (s.own b _ hb)
 unfold C66
 simp only [C7,Instr.sureAddr,G2,storeVar,L3 hti,hs,hv,List.size_toArray,hl,ne_eq,not_true_eq_false,if_false]
 rw [<- hput]
 refine J1 vs off 0 _ (by omega) h1 ?_
 rw [Nat.add_zero]
 have hp2:(h.without b).put b (.cells (K5 arr off vs).toArray e)=h.put b (.cells (K5 arr off vs).toArray e):=by
  rw [<- hput,Ih,hput]
 rw [hp2]
 exact x _ _ rfl (s.upd hb _)
theorem B0d:prog.cellsOf Q9=1/\(prog.info? Q9).isSome=true:=⟨by kernel_rfl,by kernel_rfl⟩
theorem B0c:prog.cellsOf V4=1/\(prog.info? V4).isSome=true:=⟨by kernel_rfl,by kernel_rfl⟩
def QB(g o:Heap)(b n:Nat)(f:Nat->Rat):Prop:=∃ xs:List QV,RowX o b xs/\xs.length=n/\Row RQr g xs n f
def onT(T:Tb)(x:Nat):Prop:=x=T.bt\/x=T.bE\/x=T.bS
section
variable {g o:Heap} {b n:Nat} {f:Nat->Rat}
theorem QB.ko(q:QB g o b n f){g' o':Heap}(l:g.le g')(e:o' b=o b):QB g' o' b n f:=by
 obtain ⟨xs,r,h1,h2⟩:=q
 exact ⟨xs,r.keep fun x hx=>by rw [e];exact hx,h1,h2.mono K7 l⟩
theorem QB.congr(q:QB g o b n f){f':Nat->Rat}(e:∀ i,i<n->f i=f' i):QB g o b n f':=by
 obtain ⟨xs,r,h1,h2⟩:=q
 exact ⟨xs,r,h1,h2.congr e⟩
theorem QB.at(q:QB g o b n f){i:Nat}(hi:i<n):∃ w:QV,RQ g w (f i)/\o.cell? (C5k (C5k ⟨b,0,none⟩ (i*4)) 0)=some (.bool w.s)/\o.cell? (C5k (C5k ⟨b,0,none⟩ (i*4)) 1)=some (.slice w.A w.n w.c)/\o.cell? (C5k (C5k ⟨b,0,none⟩ (i*4)) 2)=some (.bool w.s2)/\o.cell? (C5k (C5k ⟨b,0,none⟩ (i*4)) 3)=some (.slice w.A2 w.n2 w.c2):=by
 obtain ⟨xs,r,h1,h2⟩:=q
 obtain ⟨w,e1,hw⟩:=h2 i hi
 have hlt:i<xs.length:=by omega
 have cell:∀ k v,(enc xs[i])[k]? = some v->o.cell? (C5k (C5k ⟨b,0,none⟩ (i*4)) k)=some v:=by
  intro k v hk
  rw [D9,D9,C60]
  exact r.rowB.cell (i:=i) hlt (j:=k) hk
 rw [C64 hlt] at e1
 have e2:=Option.some.inj e1
 rw [e2] at cell
 exact ⟨w,hw,cell 0 _ rfl,cell 1 _ rfl,cell 2 _ rfl,cell 3 _ rfl⟩
theorem QB.rowV(q:QB g o b n f){h:Heap}(s:Sep h g o):RowV RQr h (some ⟨b,0,none⟩) n f:=by
 obtain ⟨xs,r,h1,h2⟩:=q
 exact ⟨xs,r.rowB.slF s.ole,h1,h2.mono K7 s.le⟩
theorem QB.store(q:QB g o b n f){h:Heap}(s:Sep h g o){i:Nat}(hi:i<n){w:QV}{z:Rat}(hw:RQ g w z){K:Unit->Heap->Prop}
 (k:∀ h' o',Sep h' g o'->QB g o' b n (fun a=>if a=i then z else f a)->(∀ y,y≠b->o' y=o y)->K () h'):wpH prog (C66 H0 (.pointer (some (C5k ⟨b,0,none⟩ (i*4)))) w.v) K h:=by
 obtain ⟨xs,r,h1,h2⟩:=q
 have hlt:i<xs.length:=by omega
 refine Em Xx (y:=w) rfl s r (i:=i) hlt ?_
 intro h' o' x' eo s' r'
 exact k h' o' s' ⟨_,r',by rw [C6g];exact h1,Row.upd h2 hlt hw⟩ (fun y hy=>by rw [eo,B9 _ _ hy])
end
structure El (h g o:Heap) (be:Nat) (T:Tb) (M:Nat->Nat->Int) (S:Nat->Rat) (n k:Nat) (w:IV) (z:Int) (L D:Value):Prop where
 t:Tab h g o T M S
 rows:T.rows=n
 cols:T.cols=n
 hd:∃ e,o be=some (.cells (List.toArray [I (n:Int),I (k:Int),.pointer (some ⟨T.bt,0,none⟩),.bool w.s,.slice w.A w.n w.c,L,D]) e)
 off:¬ onT T be
 last:ZIr g w z
section
variable {h g o:Heap} {be:Nat} {T:Tb} {M:Nat->Nat->Int} {S:Nat->Rat} {n k:Nat} {w:IV} {z:Int} {L D:Value} {K:VP} {m:Nat}
theorem El.cell(X:El h g o be T M S n k w z L D){i:Nat}{v:Value}(hv:[I (n:Int),I (k:Int),.pointer (some ⟨T.bt,0,none⟩),.bool w.s,.slice w.A w.n w.c,L,D][i]? = some v):h.cell? ⟨be,i,none⟩=some v:=by
 obtain ⟨e,he⟩:=X.hd
 refine X.t.sep.cell ?_
 unfold Heap.cell?
 simp only [he]
 simpa using hv
theorem El.c0(X:El h g o be T M S n k w z L D):h.cell? (C5k ⟨be,0,none⟩ 0)=some (I (n:Int)):=by rw [D9];exact X.cell rfl
theorem El.c1(X:El h g o be T M S n k w z L D):h.cell? (C5k ⟨be,0,none⟩ 1)=some (I (k:Int)):=by rw [D9];exact X.cell rfl
theorem El.c2(X:El h g o be T M S n k w z L D):h.cell? (C5k ⟨be,0,none⟩ 2)=some (.pointer (some ⟨T.bt,0,none⟩)):=by rw [D9];exact X.cell rfl
theorem El.c3(X:El h g o be T M S n k w z L D):h.cell? (C5k (C5k ⟨be,0,none⟩ 3) 0)=some (.bool w.s):=by rw [D9,D9];exact X.cell rfl
theorem El.c4(X:El h g o be T M S n k w z L D):h.cell? (C5k (C5k ⟨be,0,none⟩ 3) 1)=some (.slice w.A w.n w.c):=by rw [D9,D9];exact X.cell rfl
theorem El.c5(X:El h g o be T M S n k w z L D):h.cell? (C5k ⟨be,0,none⟩ 5)=some L:=by rw [D9];exact X.cell rfl
theorem El.c6(X:El h g o be T M S n k w z L D):h.cell? (C5k ⟨be,0,none⟩ 6)=some D:=by rw [D9];exact X.cell rfl
theorem El.next(X:El h g o be T M S n k w z L D){h' g':Heap}(s:Sep h' g' o)(l:g.le g'):El h' g' o be T M S n k w z L D:=⟨X.t.next s l,X.rows,X.cols,X.hd,X.off,Jg _ _ _ _ l X.last⟩
theorem Tab.away(t:Tab h g o T M S){h' o':Heap}(s:Sep h' g o'){b:Nat}(hb:¬ onT T b)(ko:∀ y,y≠b->o' y=o y):Tab h' g o' T M S:=t.keep s (B4 _) (fun k x e hk=>by rw [ko k (fun e2=>hb (e2▸hk))];exact e)
theorem El.away(X:El h g o be T M S n k w z L D){h' o':Heap}(s:Sep h' g o'){b:Nat}(hb:¬ onT T b)(hbe:be≠b)(ko:∀ y,y≠b->o' y=o y):El h' g o' be T M S n k w z L D:=by
 obtain ⟨e,he⟩:=X.hd
 exact ⟨X.t.away s hb ko,X.rows,X.cols,⟨e,by rw [ko _ hbe];exact he⟩,X.off,X.last⟩
theorem El.set(X:El h g o be T M S n k w z L D){t:TypeId}{q off:Nat}{v:Value}{vs:List Value}(one:prog.cellsOf t=q/\(prog.info? t).isSome=true)(hv:v.cells=vs.toArray)(hl:vs.length=q)(h1:∀ x∈vs,A3f x=true)(hoff:off+q<=7){n' k':Nat}{w':IV}{z':Int}{L' D':Value}(hn:n'=n)(hw:ZIr g w' z')
 (hs:K5 [I (n:Int),I (k:Int),.pointer (some ⟨T.bt,0,none⟩),.bool w.s,.slice w.A w.n w.c,L,D] off vs=[I (n':Int),I (k':Int),.pointer (some ⟨T.bt,0,none⟩),.bool w'.s,.slice w'.A w'.n w'.c,L',D'])
 {K:Unit->Heap->Prop} (x:∀ h' o',El h' g o' be T M S n' k' w' z' L' D'->(∀ y,y≠be->o' y=o y)->K () h'):wpH prog (C66 t (.pointer (some (C5k ⟨be,0,none⟩ off))) v) K h:=by
 obtain ⟨e,he⟩:=X.hd
 rw [D9,C60]
 refine X.t.sep.storeRaw one hv hl h1 he hoff ?_
 intro h' o' eo s'
 have ko:∀ y,y≠be->o' y=o y:=fun y hy=>by rw [eo,B9 _ _ hy]
 subst hn
 exact x h' o' ⟨X.t.away s' X.off ko,X.rows,X.cols,⟨e,by rw [eo,C3,hs]⟩,X.off,hw⟩ ko
theorem B20(X:El h g o be T M S n k w z L D)(gl:Gl g){i j:Nat}(hi:i<n)(hj:j<n)(bm:ZB m (M i j))(bz:ZB m z)(bs:Sz m (S i))(hd:Sz m (C6q (M i j) z))(hm1:1<=m)(hm:m<=6400000000)
 (hK:∀ w' h' g',g.le g'->Sep h' g' o->h.le h'->RQ g' w' (C6q (M i j) z/S i)->K w'.v h'):FCall prog A7x #[.pointer (some ⟨be,0,none⟩),I (i:Int),I (j:Int)] h K:=by
 have hi':i<T.rows:=by rw [X.rows];exact hi
 have hj':j<T.cols:=by rw [X.cols];exact hj
 refine C2i _ _ _ ?_
 unfold EAt
 obtain ⟨ws,is,d0,d1,d2,d3⟩:=X.t.sat hi'
 obtain ⟨wm,im,e0,e1⟩:=X.t.at hi' hj'
 refine ⟨_,rfl,_,X.c2,_,rfl,_,_,_,_,X.c3,X.c4,_,rfl,_,X.c2,_,rfl,_,_,_,X.t.c2,_,rfl,by omega,by omega,_,_,_,_,_,_,_,_,d0,d1,d2,d3,?_⟩
 refine O2 X.t hi' ⟨_,_,_,rfl,B4 _,_,rfl,by omega,by omega,_,_,_,_,e0,e1,?_⟩
 refine X.t.sep.call (T7 gl.tz im X.last bm bz hm ?_)
 intro w1 g1 l1 i1 h1 s1
 refine ⟨_,_,_,_,_,_,_,_,rfl,X.t.sep.le_le s1 l1,?_⟩
 refine s1.call (Ds (gl.mono l1).tz i1 (K7 _ _ _ _ l1 is) hd bs hm1 hm ?_)
 intro w2 g2 l2 i2 h2 s2
 exact ⟨_,_,_,_,_,_,_,_,rfl,s1.le_le s2 l2,hK w2 h2 g2 (B0 l1 l2) s2 (B0 (X.t.sep.le_le s1 l1) (s1.le_le s2 l2)) i2⟩
theorem A1l(X:El h g o be T M S n k w z L D)(hk:k<n)(hn:n<=10000)
 (hK1:∀ i:Nat,k<i->i<n->M i k≠0->K (.tuple #[I (i:Int),.bool true]) h) (hK0:(∀ j,k<j->j<n->M j k=0)->K (.tuple #[I 0,.bool false]) h):FCall prog Iy #[.pointer (some ⟨be,0,none⟩)] h K:=by
 refine A58 _ ?_
 unfold A6y
 refine ⟨_,rfl,_,X.c1,?_⟩
 rw [wiS k (by omega)]
 refine ⟨fun L' hp=>∃ i:Nat,k<i/\i<=n/\L'=[I (i:Int)]/\hp=h/\∀ j,k<j->j<i->M j k=0,fun L' _=>n-(iAt L' 0).toNat,⟨k+1,by omega,by omega,rfl,rfl,fun j _ _=>by omega⟩,?_⟩
 rintro y hp ⟨i,hi1,hi2,eL,rfl,hz⟩
 obtain rfl:=sI1 eL
 refine ⟨_,rfl,_,X.c0,B6 (fun hlt=>?_) (fun hge=>hK0 fun j a b=>hz j a (by omega))⟩
 have hin:i<n:=by omega
 have hi':i<T.rows:=by rw [X.rows];exact hin
 have hk':k<T.cols:=by rw [X.cols];exact hk
 refine ⟨_,rfl,_,X.c2,_,rfl,_,X.c1,?_⟩
 obtain ⟨wm,im,e0,e1⟩:=X.t.at hi' hk'
 refine O2 X.t hi' ⟨_,_,_,rfl,B4 _,_,rfl,by omega,by omega,_,_,_,_,e0,e1,?_⟩
 refine F4 (im.mono X.t.sep.le) ⟨_,rfl,B4 _,Br.not (B6 (fun e=>?_) (fun e=>hK1 i hi1 hin e))⟩
 rw [wiS i (by omega)]
 refine ⟨⟨i+1,by omega,by omega,rfl,rfl,fun j a b=>?_⟩,by simp only [Ea];omega⟩
 by_cases c:j=i
 ·rw [c];exact e
 ·exact hz j a (by omega)
theorem Qi(X:El h g o be T M S n k w z L D)(hk:k<n)(hn:n<=10000)(hz:z≠0)(hM:∀ a b,k<=a->a<n->b<n->ZB m (M a b))(bz:ZB m z)(hm1:1<=m)(hm:2*m+1<=100000000)
 (hK:∀ h' g' o' w',g.le g'->El h' g' o' be T (fun a b=>if k<a then (M k k*M a b-M a k*M k b).tdiv z else M a b) S n (k+1) w' (M k k) L D->(∀ b,¬ onT T b->b≠be->o' b=o b)->K (.tuple #[]) h'):FCall prog Bu #[.pointer (some ⟨be,0,none⟩)] h K:=by
 refine A59 _ ?_
 unfold A6z
 refine ⟨_,rfl,_,X.c1,?_⟩
 rw [wiS k (by omega)]
 refine ⟨fun L' hp=>∃ (i:Nat) (g1 o1:Heap),k<i/\i<=n/\L'=[I (i:Int)]/\g.le g1/\El hp g1 o1 be T (fun a b=>if k<a/\a<i then (M k k*M a b-M a k*M k b).tdiv z else M a b) S n k w z L D/\(∀ b,¬ onT T b->b≠be->o1 b=o b),fun L' _=>n-(iAt L' 0).toNat,⟨k+1,g,o,by omega,by omega,rfl,B4 _,⟨X.t.congr (fun a b _ _=>by rw [if_neg (by omega)]) (fun _ _=>rfl),X.rows,X.cols,X.hd,X.off,X.last⟩,fun _ _ _=>rfl⟩,?_⟩
 rintro y hp ⟨i,g1,o1,hi1,hi2,eL,lg,X1,ko⟩
 obtain rfl:=sI1 eL
 refine ⟨_,rfl,_,X1.c0,B6 (fun hlt=>?_) (fun hge=>?_)⟩
 ·have hin:i<n:=by omega
  refine ⟨_,rfl,_,X1.c2,_,rfl,_,_,_,_,X1.c3,X1.c4,?_⟩
  have er:=X.rows
  have ec:=X.cols
  refine Wq (m:=m) X1.t (i:=i) (p:=k) (c:=k) (by omega) (by omega) (by omega) (by omega) X1.last hz hm1 hm (fun b hb=>by rw [if_neg (by omega)];exact hM i b (by omega) hin (by omega)) (fun b hb=>by rw [if_neg (by omega)];exact hM k b (C5h _) hk (by omega)) bz ?_
  intro h2 g2 o2 l2 t2 ko2
  rw [wiS i (by omega)]
  have hbe:be≠T.bE:=fun e=>X.off (.inr (.inl e))
  obtain ⟨e,he⟩:=X1.hd
  refine ⟨rfl,⟨i+1,g2,o2,by omega,by omega,rfl,B0 lg l2,⟨t2.congr (fun a b _ _=>?_) (fun _ _=>rfl),er,ec,⟨e,by rw [ko2 _ hbe];exact he⟩,X.off,Jg _ _ _ _ l2 X1.last⟩,fun b hb hb2=>by rw [ko2 b (fun e=>hb (.inr (.inl e)))];exact ko b hb hb2⟩,by simp only [Ea];omega⟩
  by_cases c:a=i
  ·have q1:¬ (k<k/\k<i):=by omega
   have q2:¬ (k<i/\i<i):=by omega
   simp only [if_neg q1,if_neg q2]
   rw [if_pos c,if_pos (show k<a/\a<i+1 by omega),c]
  ·rw [if_neg c]
   by_cases c2:k<a/\a<i
   ·rw [if_pos c2,if_pos (by omega)]
   ·rw [if_neg c2,if_neg (show ¬ (k<a/\a<i+1) by omega)]
 ·have hie:i=n:=by omega
  subst hie
  have hk':k<T.rows:=by rw [X.rows];exact hk
  have hk2:k<T.cols:=by rw [X.cols];exact hk
  refine ⟨_,rfl,_,X1.c2,?_⟩
  obtain ⟨wm,im,e0,e1⟩:=X1.t.at hk' hk2
  rw [if_neg (by omega)] at im
  refine O2 X1.t hk' ⟨_,_,_,rfl,_,rfl,by omega,by omega,_,_,_,_,e0,e1,?_⟩
  refine ⟨_,rfl,?_⟩
  refine X1.set (n':=i) (k':=k) (w':=wm) (z':=M k k) (L':=L) (D':=D) (vs:=[.bool wm.s,.slice wm.A wm.n wm.c]) Rx rfl rfl (by intro x hx;simp only [C68,C62,or_false] at hx;rcases hx with rfl|rfl<;>rfl) (by omega) rfl im rfl ?_
  intro h3 o3 X3 ko3
  refine ⟨_,rfl,_,X3.c1,_,rfl,?_⟩
  rw [wiS k (by omega)]
  refine X3.set (n':=i) (k':=k+1) (w':=wm) (z':=M k k) (L':=L) (D':=D) (vs:=[I ((k+1:Nat):Int)]) B0d rfl rfl (by intro x hx;simp only [C68,C62,or_false] at hx;subst hx;rfl) (by omega) rfl im rfl ?_
  intro h4 o4 X4 ko4
  refine hK h4 g1 o4 wm lg ⟨X4.t.congr (fun a b ha hb=>?_) (fun _ _=>rfl),X4.rows,X4.cols,X4.hd,X4.off,X4.last⟩ (fun b hb hb2=>by rw [ko4 b hb2,ko3 b hb2];exact ko b hb hb2)
  have:a<i:=by rw [<- X.rows];exact ha
  by_cases c:k<a
  ·rw [if_pos ⟨c,this⟩,if_pos c]
  ·rw [if_neg (fun x=>c x.1),if_neg c]
end
theorem C3m{l s r:Rat}(hl:l≠0)(hs:s≠0):l*(s*r)/l/s=r:=by
 have h1:=C65 _ hl
 have h2:=C65 _ hs
 rw [C6j,C6j]
 grind
section
variable {E:Nat->Rat} {n k:Nat}
theorem B1d(sy:A3h n (mtx E n))(hk:k<=n)(ok:∀ m,m<k->A0f (mtx E n) n m):LdR n k (mtx E n) (elE E n n k):=LdR.run sy k hk ok
theorem B70(hk:k<n):Qr n k (elP E n n k)=Oa n k (elE E n n k):=(Tk E (Nat.le_of_lt hk)).row hk
theorem A6d(sy:A3h n (mtx E n))(hk:k<n)(ok:∀ m,m<=k->A0f (mtx E n) n m)(e:ldA (mtx E n) k k k=0):elP E n n (k+1)=elP E n n k:=by
 have r:=B70 (E:=E) hk
 rw [(B1d sy (by omega) fun m hm=>ok m (by omega)).none hk e (ok k (C5h _))] at r
 show Dd n k (elP E n n k)=_
 unfold Dd
 rw [r,if_neg (C6e n)]
theorem A6c(sy:A3h n (mtx E n))(hk:k<n)(ok:∀ m,m<k->A0f (mtx E n) n m)(e:ldA (mtx E n) k k k≠0):
 (∀ i j,k<i->i<n->(elP E n n (k+1)).M i j=((elP E n n k).M k k*(elP E n n k).M i j-(elP E n n k).M i k*(elP E n n k).M k j).tdiv (elP E n n k).last)/\(elP E n n (k+1)).last=(elP E n n k).M k k/\∀ i,k<i->(elP E n n (k+1)).S i=(elP E n n k).S i:=by
 have R:=B1d sy (by omega) ok
 have r:=B70 (E:=E) hk
 rw [R.row hk e] at r
 have hl:=R.len
 rw [<- C1l E (Nat.le_of_lt hk)] at hl
 have se:elP E n n (k+1)=Dd n k (elP E n n k):=rfl
 unfold Dd at se
 rw [r,if_pos hk] at se
 generalize elP E n n k=s at *
 have x1:=Cq s.cs.length k
 have x2:∀ i,k<i->xch s.cs.length k i=i:=fun i hi=>by unfold xch;rw [if_neg (by omega),if_neg (by omega)]
 rw [se]
 refine ⟨fun i j hi _=>?_,rfl,fun i hi=>?_⟩
 ·show clr (fun i=>s.M (xch s.cs.length k i)) s.cs.length k s.last i j=_
  unfold clr
  rw [if_neg (by omega)]
  show (s.M (xch s.cs.length k s.cs.length) k*s.M (xch s.cs.length k i) j-s.M (xch s.cs.length k i) k*s.M (xch s.cs.length k s.cs.length) j).tdiv s.last=_
  rw [x1,x2 i hi]
 ·show s.S (xch s.cs.length k i)=_
  rw [x2 i hi]
theorem C5d(sy:A3h n (mtx E n)):∀ k,k<=n->(∀ m,m<k->A0f (mtx E n) n m)->∀ i,k<=i->i<n->(elP E n n k).S i=Re E n i:=by
 intro k
 induction k with
 | zero=>intro _ _ i _ _;rfl
 | succ k ih=>
  intro hk ok i hi hin
  have ih':=ih (by omega) (fun m hm=>ok m (by omega)) i (by omega) hin
  by_cases e:ldA (mtx E n) k k k=0
  ·rw [A6d sy hk (fun m hm=>ok m (by omega)) e];exact ih'
  ·rw [(A6c sy hk (fun m hm=>ok m (by omega)) e).2.2 i (by omega)];exact ih'
structure LdF (E:Nat->Rat) (n k Q:Nat):Prop where
 val:∀ i j,k<=i->i<n->j<n->((elP E n n k).M i j:Rat)=(elP E n n k).last*(Re E n i*ldA (mtx E n) k i j)
 last:(elP E n n k).last≠0
 zM:∀ a b,a<n->b<n->ZB Q ((elP E n n k).M a b)
 zl:ZB Q (elP E n n k).last
 zS:∀ a,a<n->Sz Q (Re E n a)
 zA:∀ i j,k<=i->i<n->j<n->Sz Q (ldA (mtx E n) k i j)
theorem ldF{m Q:Nat}(hs:∀ i,i<n*n->Sz m (E i))(hQ1:3^n*bnd n m+bnd n m<=Q)(sy:A3h n (mtx E n))(hk:k<=n)(ok:∀ m,m<k->A0f (mtx E n) n m):LdF E n k Q:=by
 have rel:=Tk E (rows:=n) (cols:=n) hk
 have R:=B1d sy hk ok
 have hlen:=R.len
 have z:=B6z (E:=E) (rows:=n) (cols:=n) (c:=k) hs hk
 have hbn1:1<=bnd n m:=by unfold bnd;omega
 have hb3:3^(elP E n n k).cs.length*bnd n m<=3^n*bnd n m:=C5j _ (Nat.pow_le_pow_right (by decide) z.len)
 have hS:=C5d sy k hk ok
 have val:∀ i j,k<=i->i<n->j<n->((elP E n n k).M i j:Rat)=(elP E n n k).last*(Re E n i*ldA (mtx E n) k i j):=fun i j hi hin hj=>by
  rw [rel.val i j hin hj,if_neg (by omega),R.low i j hi hin hj,hS i hi hin]
 have zS:∀ a,a<n->Sz (bnd n m) (Re E n a):=fun a ha=>Xw fun j hj=>hs _ (O6 ha hj)
 refine ⟨val,rel.last,fun a b ha hb=>(z.M a b ha hb).mono (by omega),z.last.mono (by omega),fun a ha=>(zS a ha).mono (by omega),fun i j hi hin hj=>?_⟩
 have e:ldA (mtx E n) k i j=C6q ((elP E n n k).M i j) (elP E n n k).last/Re E n i:=by
  have hp:=Lc E n i
  rw [C6n,val i j hi hin hj,C3m (I9 rel.last) (by grind)]
 rw [e]
 exact ((Ai rel.last (z.M i j hin hj) z.last).div (zS i hin) hbn1).mono (by omega)
end
def A5v(A:Nat->Nat->Rat)(n k:Nat):Nat->Rat:=fun t=>if t%n<k then ldL A (t/n) (t%n) else 0
def A6f(A:Nat->Nat->Rat)(k:Nat):Nat->Rat:=fun j=>if j<k then ldD A j else 0
structure Ld (h g o:Heap) (be bl bd:Nat) (T:Tb) (E:Nat->Rat) (n k:Nat) (M:Nat->Nat->Int) (w:IV) (Lf Df:Nat->Rat):Prop where
 e:El h g o be T M (Re E n) n k w (elP E n n k).last (.slice (some ⟨bl,0,none⟩) (n*n) (n*n)) (.slice (some ⟨bd,0,none⟩) n n)
 m:∀ i j,k<=i->i<n->j<n->M i j=(elP E n n k).M i j
 l:QB g o bl (n*n) Lf
 d:QB g o bd n Df
 tl:¬ onT T bl
 td:¬ onT T bd
 el:be≠bl
 ed:be≠bd
 ld:bl≠bd
section
variable {h g o:Heap} {be bl bd:Nat} {T:Tb} {E:Nat->Rat} {n k:Nat} {M:Nat->Nat->Int} {w:IV} {Lf Df:Nat->Rat} {K:VP} {Q:Nat}
theorem Ld.next(X:Ld h g o be bl bd T E n k M w Lf Df){h' g':Heap}(s:Sep h' g' o)(l:g.le g'):Ld h' g' o be bl bd T E n k M w Lf Df:=⟨X.e.next s l,X.m,X.l.ko l rfl,X.d.ko l rfl,X.tl,X.td,X.el,X.ed,X.ld⟩
theorem Ld.congr(X:Ld h g o be bl bd T E n k M w Lf Df){Lf' Df':Nat->Rat}(e1:∀ i,i<n*n->Lf i=Lf' i)(e2:∀ i,i<n->Df i=Df' i):Ld h g o be bl bd T E n k M w Lf' Df':=⟨X.e,X.m,X.l.congr e1,X.d.congr e2,X.tl,X.td,X.el,X.ed,X.ld⟩
theorem Ld.storeL(X:Ld h g o be bl bd T E n k M w Lf Df){i:Nat}(hi:i<n*n){v:QV}{z:Rat}(hv:RQ g v z){K:Unit->Heap->Prop}
 (x:∀ h' o',Ld h' g o' be bl bd T E n k M w (fun a=>if a=i then z else Lf a) Df->K () h'):wpH prog (C66 H0 (.pointer (some (C5k ⟨bl,0,none⟩ (i*4)))) v.v) K h:=by
 refine X.l.store X.e.t.sep hi hv ?_
 intro h' o' s' q ko
 exact x h' o' ⟨X.e.away s' X.tl X.el ko,X.m,q,X.d.ko (B4 _) (ko _ X.ld.symm),X.tl,X.td,X.el,X.ed,X.ld⟩
theorem Ld.storeD(X:Ld h g o be bl bd T E n k M w Lf Df){i:Nat}(hi:i<n){v:QV}{z:Rat}(hv:RQ g v z){K:Unit->Heap->Prop}
 (x:∀ h' o',Ld h' g o' be bl bd T E n k M w Lf (fun a=>if a=i then z else Df a)->K () h'):wpH prog (C66 H0 (.pointer (some (C5k ⟨bd,0,none⟩ (i*4)))) v.v) K h:=by
 refine X.d.store X.e.t.sep hi hv ?_
 intro h' o' s' q ko
 exact x h' o' ⟨X.e.away s' X.td X.ed ko,X.m,X.l.ko (B4 _) (ko _ X.ld),q,X.tl,X.td,X.el,X.ed,X.ld⟩
theorem Ld.at(X:Ld h g o be bl bd T E n k M w Lf Df)(gl:Gl g)(F:LdF E n k Q){i j:Nat}(hk:k<=i)(hi:i<n)(hj:j<n)(hQ1:1<=Q)(hQ:Q<=6400000000)
 (hK:∀ w' h' g',g.le g'->Sep h' g' o->h.le h'->RQ g' w' (ldA (mtx E n) k i j)->K w'.v h'):FCall prog A7x #[.pointer (some ⟨be,0,none⟩),I (i:Int),I (j:Int)] h K:=by
 have em:=X.m i j hk hi hj
 have hS:=Lc E n i
 refine B20 (m:=Q) X.e gl hi hj (by rw [em];exact F.zM i j hi hj) F.zl (F.zS i hi) (by rw [em];exact Ai F.last (F.zM i j hi hj) F.zl) hQ1 hQ ?_
 intro w' h' g' lg s lh iq
 refine hK w' h' g' lg s lh ?_
 rw [em,C6n,F.val i j hk hi hj,C3m (I9 F.last) (by grind)] at iq
 exact iq
theorem Ld.partner(X:Ld h g o be bl bd T E n k M w Lf Df)(F:LdF E n k Q)(hk:k<n)(hn:n<=10000):FCall prog Iy #[.pointer (some ⟨be,0,none⟩)] h (fun r h'=>h'=h/\∃ (a:Nat) (b:Bool),r= .tuple #[I (a:Int),.bool b]/\(b=true->k<a/\a<n/\ldA (mtx E n) k a k≠0)/\(b=false->∀ j,k<j->j<n->ldA (mtx E n) k j k=0)):=by
 have key:∀ i,k<=i->i<n->(M i k=0↔ldA (mtx E n) k i k=0):=fun i hki hi=>by
  have hv:=F.val i k hki hi hk
  have h3:=I9 F.last
  have h4:Re E n i≠0:=by have:=Lc E n i;grind
  rw [X.m i k hki hi hk]
  constructor
  ·intro e
   rw [e] at hv
   have h0:((0:Int):Rat)=0:=rfl
   rw [h0] at hv
   rcases Rat.mul_eq_zero.1 hv.symm with e1|e1
   ·exact absurd e1 h3
   ·rcases Rat.mul_eq_zero.1 e1 with e2|e2
    ·exact absurd e2 h4
    ·exact e2
  ·intro e
   rw [e,C63,C63] at hv
   exact_mod_cast hv
 refine A1l X.e hk hn (fun i h1 h2 h3=>⟨rfl,i,true,rfl,fun _=>⟨h1,h2,fun e=>h3 ((key i (by omega) h2).2 e)⟩,fun e=>by cases e⟩) (fun hz=>⟨rfl,0,false,rfl,(fun e=>by cases e),fun _ j h1 h2=>(key j (by omega) h2).1 (hz j h1 h2)⟩)
end
theorem A9q{q:Rat}:q.num.sign<0↔q<0:=by
 have h1:q.num.sign<0↔q.num<0:=by
  rcases Int.lt_trichotomy q.num 0 with c|c|c
  ·rw [Int.sign_eq_neg_one_of_neg c];exact ⟨fun _=>c,fun _=>by decide⟩
  ·rw [c];exact ⟨fun h=>by simp at h,fun h=>by omega⟩
  ·rw [Int.sign_eq_one_of_pos c];exact ⟨fun h=>by omega,fun h=>by omega⟩
 have h2:=Rat.num_nonneg (q:=q)
 rw [h1]
 constructor
 ·intro h
  refine C5m fun hn=>?_
  have:0<=q:=by grind
  have:=h2.2 this
  omega
 ·intro h
  refine C5m fun hn=>?_
  have:=h2.1 (by omega)
  grind
theorem Nf{n i j:Nat}(hj:j<n):(i*n+j)/n=i/\(i*n+j)%n=j:=by
 refine ⟨?_,?_⟩
 ·rw [C5r,Nat.mul_add_div (by omega),C5x hj,Nat.add_zero]
 ·rw [C5r,Nat.mul_add_mod,C5w hj]
def B8p(A:Nat->Nat->Rat)(n k i:Nat):Nat->Rat:=fun t=>if t%n=k/\t/n<i then ldL A (t/n) k else A5v A n k t
theorem A5u(A:Nat->Nat->Rat){n k i:Nat}(h:i=n\/ldA A k k k=0/\k<i):∀ t,t<n*n->B8p A n k i t=A5v A n (k+1) t:=by
 intro t ht
 unfold B8p A5v
 have hd:t/n<n:=C5p ht
 by_cases c:t%n=k
 ·rw [if_pos (show t%n<k+1 by omega),c]
  by_cases c2:t/n<i
  ·rw [if_pos ⟨rfl,c2⟩]
  ·rw [if_neg (fun x=>c2 x.2),if_neg (C6e k)]
   rcases h with h|⟨h1,h2⟩
   ·omega
   ·unfold ldL
    rw [if_neg (by omega),if_neg (by omega),if_pos h1]
 ·rw [if_neg (fun x=>c x.1)]
  by_cases c2:t%n<k
  ·rw [if_pos c2,if_pos (by omega)]
  ·rw [if_neg c2,if_neg (by omega)]
theorem B1m(A:Nat->Nat->Rat)(k:Nat):(fun a=>if a=k then ldA A k k k else A6f A k a)=A6f A (k+1):=by
 funext a
 unfold A6f ldD
 by_cases c:a=k
 ·rw [if_pos c,if_pos (by omega),c]
 ·rw [if_neg c]
  by_cases c2:a<k
  ·rw [if_pos c2,if_pos (by omega)]
  ·rw [if_neg c2,if_neg (by omega)]
section
variable {h:Heap} {A:Option Addr} {E:Nat->Rat} {n cap m Q:Nat} {K:VP}
theorem Vf(gl:Gl h)(rq:RowV RQr h A (n*n) E)(hcap:n*n<=cap)(hn1:1<=n)(hn:n<=64)(sy:A3h n (mtx E n))(hs:∀ i,i<n*n->Sz m (E i))(hQ1:3^n*bnd n m+bnd n m<=Q)(hQ:2*Q+1<=100000000)
 (hK1:(∀ k,k<n->A0f (mtx E n) n k)->∀ h' g' o' be bl bd T M w,h.le h'->h.le g'->Ld h' g' o' be bl bd T E n n M w (A5v (mtx E n) n n) (A6f (mtx E n) n)->K (.tuple #[.pointer (some ⟨be,0,none⟩),.bool true]) h')
 (hK0:∀ k,k<n->(∀ k',k'<k->A0f (mtx E n) n k')->¬ A0f (mtx E n) n k->∀ h' g' o' be bl bd T M w,h.le h'->h.le g'->Ld h' g' o' be bl bd T E n k M w (A5v (mtx E n) n k) (A6f (mtx E n) k)->K (.tuple #[.pointer (some ⟨be,0,none⟩),.bool false]) h'):FCall prog Hp #[.slice A (n*n) cap,I (n:Int)] h K:=by
 have hnn:n*n<=64*64:=C5y hn hn
 have hnp:1<=n*n:=Nat.mul_pos hn1 hn1
 have hb:bnd n m<=Q:=by omega
 have hbe:bnd n m=1+n*m+m:=rfl
 refine A0i _ _ _ _ ?_
 unfold Xm
 refine Db _ _ _ _ ?_
 unfold Co
 refine Ff (m:=m) gl rq hcap hn1 (by omega) hn1 (by omega) hs (by omega) ?_
 intro h1 g1 o1 T lg1 t1 er ec
 refine ⟨_,rfl,?_⟩
 refine t1.sep.call (Ca (by decide) (by decide) ?_)
 intro s2 A2 n2 c2 g2 l2 i2 h2 sp2
 have t2:=t1.next sp2 l2
 refine ⟨_,_,_,_,rfl,Tv ?_⟩
 intro be hbe2
 have fr:∀ {hh gg oo:Heap} {k x b},Sep hh gg oo->oo k=some x->hh b=none->k≠b:=by
  rintro hh gg oo k x b s e hb rfl
  rw [s.own k x e] at hb;cases hb
 obtain ⟨⟨y1,z1⟩,⟨y2,z2⟩,⟨y3,z3⟩⟩:=t2.own
 have off1:∀ {hh gg oo:Heap} {b},Tab hh gg oo T (Vz E n) (Re E n)->hh b=none->¬ onT T b:=by
  intro hh gg oo b t hb hx
  obtain ⟨⟨y1,z1⟩,⟨y2,z2⟩,⟨y3,z3⟩⟩:=t.own
  rcases hx with rfl|rfl|rfl
  ·exact fr t.sep z1 hb rfl
  ·exact fr t.sep z2 hb rfl
  ·exact fr t.sep z3 hb rfl
 have s3:=t2.sep.new hbe2 (.cells (Value.agg #[I (n:Int),I (0:Int),.pointer (some ⟨T.bt,0,none⟩),.bool s2,.slice A2 n2 c2,.slice none 0 0,.slice none 0 0]).cells Ew)
 have X3:El _ g2 _ be T (Vz E n) (Re E n) n 0 ⟨s2,A2,n2,c2⟩ 1 (.slice none 0 0) (.slice none 0 0):=⟨t2.keep s3 (B4 _) (fun k x e _=>by rw [B9 _ _ (fr t2.sep e hbe2)];exact e),er,ec,⟨Ew,C3 _ _ _⟩,off1 t2 hbe2,i2⟩
 refine ⟨_,rfl,_,rfl,?_⟩
 clear t1
 have lh3:h.le (h2.put be (.cells (Value.agg #[I (n:Int),I (0:Int),.pointer (some ⟨T.bt,0,none⟩),.bool s2,.slice A2 n2 c2,.slice none 0 0,.slice none 0 0]).cells Ew)):=B0 lg1 (B0 l2 X3.t.sep.le)
 generalize (h2.put be (.cells (Value.agg #[I (n:Int),I (0:Int),.pointer (some ⟨T.bt,0,none⟩),.bool s2,.slice A2 n2 c2,.slice none 0 0,.slice none 0 0]).cells Ew))=h3 at *
 generalize (o1.put be (.cells (Value.agg #[I (n:Int),I (0:Int),.pointer (some ⟨T.bt,0,none⟩),.bool s2,.slice A2 n2 c2,.slice none 0 0,.slice none 0 0]).cells Ew))=o3 at *
 have lg2:h.le g2:=B0 lg1 l2
 have ewn:B5 ((n:Int)*(n:Int))=((n*n:Nat):Int):=by rw [<- C5t];exact O9 (by omega)
 rw [ewn]
 have ownbe:∀ {hh gg oo M k w z L D},El hh gg oo be T M (Re E n) n k w z L D->∃ x,oo be=some x:=fun X=>by obtain ⟨e,he⟩:=X.hd;exact ⟨_,he⟩
 refine S4 B6a (zx:=Jd) rfl (by omega) (by omega) (by omega) (by omega) ?_
 intro bl hbl
 simp only [C5l]
 refine ⟨_,_,_,rfl,_,rfl,?_⟩
 have nbl:be≠bl:=by obtain ⟨x,hx⟩:=ownbe X3;exact fr X3.t.sep hx hbl
 have X4:=X3.away (X3.t.sep.new hbl (.cells ((C5o (n*n) Jd).flatMap enc).toArray H0)) (off1 X3.t hbl) nbl (fun y hy=>B9 _ _ hy)
 have q4:QB g2 (o3.put bl (.cells ((C5o (n*n) Jd).flatMap enc).toArray H0)) bl (n*n) (fun _=>0):=⟨_,RowX.mk,C5s,fun i hi=>⟨Jd,by rw [C6f,if_pos hi],RQ.zero⟩⟩
 have tl:=off1 X3.t hbl
 refine X4.set (n':=n) (k':=0) (w':=⟨s2,A2,n2,c2⟩) (z':=1) (L':=.slice (some ⟨bl,0,none⟩) (n*n) (n*n)) (D':=.slice none 0 0) (vs:=[.slice (some ⟨bl,0,none⟩) (n*n) (n*n)]) B0c rfl rfl (by intro x hx;simp only [C68,C62,or_false] at hx;subst hx;rfl) (by omega) rfl X4.last rfl ?_
 intro h5 o5 X5 ko5
 have q5:=q4.ko (B4 _) (ko5 _ nbl.symm)
 refine S4 B6a (zx:=Jd) rfl (by omega) (by omega) (by omega) (by omega) ?_
 intro bd hbd
 simp only [C5l]
 refine ⟨_,_,_,rfl,_,rfl,?_⟩
 have nbd:be≠bd:=by obtain ⟨x,hx⟩:=ownbe X5;exact fr X5.t.sep hx hbd
 have nld:bl≠bd:=by obtain ⟨xs,⟨e,hx⟩,_⟩:=q5;exact fr X5.t.sep hx hbd
 have td:=off1 X5.t hbd
 have X6:=X5.away (X5.t.sep.new hbd (.cells ((C5o n Jd).flatMap enc).toArray H0)) td nbd (fun y hy=>B9 _ _ hy)
 have d6:QB g2 (o5.put bd (.cells ((C5o n Jd).flatMap enc).toArray H0)) bd n (fun _=>0):=⟨_,RowX.mk,C5s,fun i hi=>⟨Jd,by rw [C6f,if_pos hi],RQ.zero⟩⟩
 have q6:=q5.ko (o':=o5.put bd (.cells ((C5o n Jd).flatMap enc).toArray H0)) (B4 _) (B9 _ _ nld)
 refine X6.set (n':=n) (k':=0) (w':=⟨s2,A2,n2,c2⟩) (z':=1) (L':=.slice (some ⟨bl,0,none⟩) (n*n) (n*n)) (D':=.slice (some ⟨bd,0,none⟩) n n) (vs:=[.slice (some ⟨bd,0,none⟩) n n]) B0c rfl rfl (by intro x hx;simp only [C68,C62,or_false] at hx;subst hx;rfl) (by omega) rfl X6.last rfl ?_
 intro h7 o7 X7 ko7
 have X0:Ld h7 g2 o7 be bl bd T E n 0 (Vz E n) ⟨s2,A2,n2,c2⟩ (A5v (mtx E n) n 0) (A6f (mtx E n) 0):=⟨X7,fun _ _ _ _ _=>rfl,(q6.ko (B4 _) (ko7 _ nbl.symm)).congr (fun i _=>by unfold A5v;rw [if_neg (by omega)]),(d6.ko (B4 _) (ko7 _ nbd.symm)).congr (fun i _=>by unfold A6f;rw [if_neg (by omega)]),tl,td,nbl,nbd,nld⟩
 clear X7 X6 X5 X4 X3 q6 d6 q5 q4 ko7 ko5
 have hQp:1<=Q:=by omega
 have ix:∀ {i j:Nat},i<n->j<n->B5 (B5 ((i:Int)*(n:Int))+(j:Int))=((i*n+j:Nat):Int):=fun {i j} hi hj=>by
  have:=O6 hi hj
  rw [<- C5t,O9 (by omega)]
  exact O9 (n:=i*n+j) (by omega)
 have ew1:∀ {i:Nat},i<n->B5 ((i:Int)+1)=((i+1:Nat):Int):=fun {i} hi=>by rw [B7]<;>omega
 refine ⟨fun L hq=>∃ (k:Nat) (g' o':Heap) (M:Nat->Nat->Int) (w:IV),k<=n/\L=[.bool true,I (k:Int)]/\h.le g'/\(∀ k',k'<k->A0f (mtx E n) n k')/\Ld hq g' o' be bl bd T E n k M w (A5v (mtx E n) n k) (A6f (mtx E n) k),fun L _=>n-(iAt L 1).toNat,⟨0,g2,o7,_,_,by omega,rfl,lg2,fun k' hk'=>by omega,X0⟩,?_⟩
 clear X0
 rintro poss z5 hq ⟨k,g',o',M,w,hk,eL,lg,ok,X⟩
 simp only [List.cons.injEq,Value.bool.injEq,Value.int.injEq,true_and,and_true] at eL
 obtain ⟨rfl,rfl⟩:=eL
 refine B6 (fun hlt=>?_) (fun hge=>by
  have:k=n:=by omega
  subst this
  exact hK1 ok hq g' o' be bl bd T M w (B0 lg X.e.t.sep.le) lg X)
 have hkn:k<n:=by omega
 have F:=ldF hs hQ1 sy hk ok
 refine X.at (gl.mono lg) F (C5h _) hkn hkn hQp (by omega) ?_
 intro w1 h1 g1 l1 s1 lh1 i1
 refine ⟨_,_,_,_,_,_,_,_,rfl,?_⟩
 have X1:=X.next s1 l1
 have lg1':h.le g1:=B0 lg l1
 refine FCall.mono (X1.partner F hkn (by omega)) ?_
 rintro r h1' ⟨rfl,a,b,rfl,hb1,hb0⟩
 have i1':RQ h1' w1 (ldA (mtx E n) k k k):=K7 _ _ _ _ s1.le i1
 refine ⟨_,_,rfl,fun L hx=>L=[.bool true]/\hx=h1'/\A0f (mtx E n) n k,?_,?_⟩
 ·refine Sb i1' ⟨_,rfl,B6 (fun hneg=>?_) (fun hpos=>?_)⟩
  ·have hneg':=A9q.1 hneg
   exact hK0 k hkn ok (fun x=>absurd x.1 (by grind)) h1' g1 o' be bl bd T M w (B0 lg1' s1.le) lg1' X1
  ·have hnn:0<=ldA (mtx E n) k k k:=by
    have:¬ ldA (mtx E n) k k k<0:=fun c=>hpos (A9q.2 c)
    grind
   refine Pv i1' ⟨_,rfl,B6 (fun e0=>?_) (fun ne0=>⟨rfl,rfl,hnn,fun e=>absurd e ne0⟩)⟩
   cases b with
   | true=>
    obtain ⟨b1,b2,b3⟩:=hb1 rfl
    exact hK0 k hkn ok (fun x=>b3 (x.2 e0 a b1 b2)) h1' g1 o' be bl bd T M w (B0 lg1' s1.le) lg1' X1
   | false=>exact ⟨rfl,rfl,hnn,fun _ j c1 c2=>hb0 rfl j c1 c2⟩
 rintro p1 hx ⟨eL,rfl,okk⟩
 simp only [List.cons.injEq,Value.bool.injEq,and_true] at eL
 subst eL
 have ok': ∀ k',k'<=k->A0f (mtx E n) n k':=fun k' hk'=>by
  by_cases c:k'=k
  ·rw [c];exact okk
  ·exact ok k' (by omega)
 refine ⟨_,rfl,_,_,_,X1.e.c5,?_⟩
 refine s1.call (A3q (by omega) ?_)
 intro w2 g3 l3 i3 h4 s4
 refine ⟨_,_,_,_,_,_,_,_,rfl,s1.le_le s4 l3,_,rfl,?_⟩
 rw [ix hkn hkn]
 have X2:=X1.next s4 l3
 have hkk:=O6 hkn hkn
 refine ⟨by omega,by omega,?_⟩
 refine X2.storeL hkk (z:=1) i3 ?_
 intro h5 o5 X5
 refine ⟨_,rfl,_,_,_,X5.e.c6,_,rfl,by omega,by omega,?_⟩
 have i13:RQ g3 w1 (ldA (mtx E n) k k k):=K7 _ _ _ _ l3 i1
 refine X5.storeD hkn i13 ?_
 intro h6 o6 X6
 have X7:Ld h6 g3 o6 be bl bd T E n k M w (B8p (mtx E n) n k (k+1)) (A6f (mtx E n) (k+1)):=X6.congr (fun t ht=>by
  show (if t=k*n+k then 1 else A5v (mtx E n) n k t)=_
  unfold B8p
  have dm:=Nat.div_add_mod t n
  by_cases c:t=k*n+k
  ·obtain ⟨d1,d2⟩:=Nf (i:=k) hkn
   rw [if_pos c,c,d1,d2,if_pos ⟨rfl,by omega⟩,B8r]
  ·rw [if_neg c]
   by_cases c2:t%n=k/\t/n<k+1
   ·rw [if_pos c2]
    have hlt:t/n<k:=by
     refine C5m fun hno=>c ?_
     have:t/n=k:=by omega
     rw [c2.1,this,C5r] at dm
     exact dm.symm
    rw [B8s hlt]
    unfold A5v
    rw [if_neg (by omega)]
   ·rw [if_neg c2]) (fun t _=>by rw [<- B1m])
 clear X6 X5 X2 X1
 have lg3:h.le g3:=B0 lg1' l3
 refine Pv (K7 _ _ _ _ X7.e.t.sep.le i13) ⟨_,rfl,B6 (fun e0=>?_) (fun ne0=>?_)⟩
 ·refine ⟨_,rfl,_,X7.e.c1,_,rfl,?_⟩
  rw [ew1 hkn]
  refine X7.e.set (n':=n) (k':=k+1) (w':=w) (z':=(elP E n n k).last) (L':=.slice (some ⟨bl,0,none⟩) (n*n) (n*n)) (D':=.slice (some ⟨bd,0,none⟩) n n) (vs:=[I ((k+1:Nat):Int)]) B0d rfl rfl (by intro x hx;simp only [C68,C62,or_false] at hx;subst hx;rfl) (by omega) rfl X7.e.last rfl ?_
  intro h8 o8 Y ko
  have es:=A6d sy hkn ok' e0
  refine ⟨⟨k+1,g3,o8,M,w,by omega,rfl,lg3,fun k' hk'=>ok' k' (by omega),⟨by rw [es];exact Y,fun i j a b c=>by rw [es];exact X7.m i j (by omega) b c,(X7.l.ko (B4 _) (ko _ X7.el.symm)).congr (A5u _ (.inr ⟨e0,by omega⟩)),X7.d.ko (B4 _) (ko _ X7.ed.symm),X7.tl,X7.td,X7.el,X7.ed,X7.ld⟩⟩,?_⟩
  show n-((k+1:Nat):Int).toNat<n-((k:Nat):Int).toNat
  omega
 rw [ew1 hkn]
 refine ⟨fun L hx=>∃ (i:Nat) (g4 o4:Heap),k<i/\i<=n/\L=[I (i:Int)]/\g3.le g4/\Ld hx g4 o4 be bl bd T E n k M w (B8p (mtx E n) n k i) (A6f (mtx E n) (k+1)),fun L _=>n-(iAt L 0).toNat,⟨k+1,g3,o6,by omega,by omega,rfl,B4 _,X7⟩,?_⟩
 clear X7
 rintro z6 hx ⟨i,g4,o4,hi1,hi2,eL,l4,X8⟩
 obtain rfl:=sI1 eL
 have lg4:h.le g4:=B0 lg3 l4
 refine B6 (fun hlt2=>?_) (fun hge2=>?_)
 ·have hin:i<n:=by omega
  refine ⟨_,rfl,_,_,_,X8.e.c5,?_⟩
  refine X8.at (gl.mono lg4) F (by omega) hin hkn hQp (by omega) ?_
  intro w9 h9 g9 l9 s9 lh9 i9
  refine ⟨_,_,_,_,_,_,_,_,rfl,lh9,?_⟩
  refine s9.call (Ds (m:=Q) (gl.mono (B0 lg4 l9)).tz i9 (K7 _ _ _ _ (B0 l4 l9) i13) (F.zA i k (by omega) hin hkn) (F.zA k k (C5h _) hkn hkn) hQp (by omega) ?_)
  intro w10 g10 l10 i10 h10 s10
  refine ⟨_,_,_,_,_,_,_,_,rfl,s9.le_le s10 l10,_,rfl,?_⟩
  rw [ix hin hkn]
  have hik:=O6 hin hkn
  refine ⟨by omega,by omega,?_⟩
  refine ((X8.next s9 l9).next s10 l10).storeL hik i10 ?_
  intro h11 o11 X11
  rw [ew1 hin]
  refine ⟨⟨i+1,g10,o11,by omega,by omega,rfl,B0 l4 (B0 l9 l10),X11.congr (fun t ht=>?_) (fun _ _=>rfl)⟩,by simp only [Ea];omega⟩
  show (if t=i*n+k then ldA (mtx E n) k i k/ldA (mtx E n) k k k else B8p (mtx E n) n k i t)=_
  unfold B8p
  have dm:=Nat.div_add_mod t n
  by_cases c:t=i*n+k
  ·obtain ⟨d1,d2⟩:=Nf (i:=i) hkn
   rw [if_pos c,c,d1,d2,if_pos ⟨rfl,by omega⟩]
   unfold ldL
   rw [if_neg (by omega),if_neg (by omega),if_neg ne0]
  ·rw [if_neg c]
   by_cases c2:t%n=k/\t/n<i
   ·rw [if_pos c2,if_pos ⟨c2.1,by omega⟩]
   ·rw [if_neg c2,if_neg]
    rintro ⟨c3,c4⟩
    have:t/n=i:=by
     have:¬ t/n<i:=fun x=>c2 ⟨c3,x⟩
     omega
    rw [c3,this,C5r] at dm
    exact c dm.symm
 ·have ein:i=n:=by omega
  subst ein
  refine Qi (m:=Q) X8.e hkn (by omega) F.last (fun a b ka ha hb=>by rw [X8.m a b ka ha hb];exact F.zM a b ha hb) F.zl hQp hQ ?_
  intro h9 g9 o9 w9 l9 Y ko
  obtain ⟨es1,es2,_⟩:=A6c sy hkn ok ne0
  refine ⟨rfl,⟨k+1,g9,o9,_,w9,by omega,rfl,B0 lg4 l9,fun k' hk'=>ok' k' (by omega),⟨by rw [es2,<- X8.m k k (C5h _) hkn hkn];exact Y,fun i j a b c=>?_,(X8.l.ko l9 (ko _ X8.tl X8.el.symm)).congr (A5u _ (.inl rfl)),X8.d.ko l9 (ko _ X8.td X8.ed.symm),X8.tl,X8.td,X8.el,X8.ed,X8.ld⟩⟩,?_⟩
  ·rw [if_pos (show k<i by omega),es1 i j (by omega) b,X8.m k k (C5h _) hkn hkn,X8.m i j (by omega) b c,X8.m i k (by omega) b hkn,X8.m k j (C5h _) hkn c]
  ·show i-((k+1:Nat):Int).toNat<i-((k:Nat):Int).toNat
   omega
end
def ns(f:Nat->Nat):Nat->Nat
 | 0=>0
 | n+1=>ns f n+f n
def C5e(A:Nat->Nat->Rat)(n k:Nat)(v:Nat->Rat):Prop:=
 (v k=1/\(∀ i,k<i->i<n->v i=0)/\ldA A k k k<0)\/
 (∃ p,k<p/\p<n/\v p=1/\(∀ i,k<i->i<n->i≠p->v i=0)/\ldA A k k k=0/\ldA A k p k≠0/\v k=(ldA A k p p+1)/(ldA A k p k * -2))
def C57(n k Q:Nat):Nat:=(n-k)*(2*Q+2)+4*Q+10
structure Wv (E:Nat->Rat) (n k Q t:Nat) (v:Nat->Rat) (s:Nat->Nat):Prop where
 seed:C5e (mtx E n) n k v
 low:∀ i,i<t->v i=0
 zero:∀ m,t<=m->m<k->sm n (fun i=>ldL (mtx E n) i m*v i)=0
 sz:∀ i,i<n->Sz (s i) (v i)
 tot:ns (fun i=>if i<t then 0 else 2*Q+1+s i) n+(2*Q+2)<=2^(k-t)*C57 n k Q
theorem B9r:Sz 1 (1:Rat):=(⟨ZB.one (C5h 1),ZB.one (C5h 1)⟩:Sz 1 1)
theorem C14{E:Nat->Rat}{n Q m:Nat}(F:LdF E n m Q)(hm:m<n)(hQ:1<=Q){i:Nat}(hi:i<n):Sz (2*Q) (ldL (mtx E n) i m):=by
 unfold ldL
 by_cases c:i=m
 ·rw [if_pos c];exact B9r.mono (by omega)
 ·rw [if_neg c]
  by_cases c2:i<m
  ·rw [if_pos c2];exact (Sz.zero (C5h 1)).mono (by omega)
  ·rw [if_neg c2]
   split
   ·exact (Sz.zero (C5h 1)).mono (by omega)
   ·exact ((F.zA i m (by omega) hi hm).div (F.zA m m (C5h _) hm hm) hQ).mono (by omega)
section
variable {h g o:Heap} {be bl bd bv:Nat} {T:Tb} {E:Nat->Rat} {n k Q W m:Nat} {M:Nat->Nat->Int} {w:IV} {K:VP}
structure Lv (h g o:Heap) (be bl bd bv:Nat) (T:Tb) (E:Nat->Rat) (n k:Nat) (M:Nat->Nat->Int) (w:IV) (v:Nat->Rat):Prop where
 x:Ld h g o be bl bd T E n k M w (A5v (mtx E n) n k) (A6f (mtx E n) k)
 q:QB g o bv n v
 t:¬ onT T bv
 e:be≠bv
 l:bl≠bv
 d:bd≠bv
end
def SymT(q:Nat)(ls:Nat->List UInt8):Prop:=∀ i j,i<q->j<i->ls (i*q+j)=ls (j*q+i)
def B5p(r c:Int)(n:Nat)(ls:Nat->List UInt8)(q:Nat):Prop:=MOk r c n ls q q/\SymT q ls
def SqE(r c:Int)(n:Nat)(ls:Nat->List UInt8)(e:Int):Prop:=(¬ Mx r c n ls/\e=1)\/(Mx r c n ls/\(¬ ∃ q,B5p r c n ls q)/\e=4)
theorem SymT.symm{q:Nat}{ls:Nat->List UInt8}(h:SymT q ls):A3h q (mtx (rvs ls) q):=fun i j hi hj=>by
 show rv (ls (i*q+j))=rv (ls (j*q+i))
 rcases Nat.lt_trichotomy i j with c|c|c
 ·rw [h j i hj c]
 ·rw [c]
 ·rw [h i j hi c]
section
variable {h:Heap} {K:VP} {A:Option Addr} {n cap m:Nat} {r c:Int} {ls:Nat->List UInt8}
theorem MOk.sq{q q':Nat}(mk:MOk r c n ls q q')(e:r=c):q=q':=by have:=mk.er;have:=mk.ec;omega
theorem Wo(gl:Gl h)(rv':RowV SSr h A n ls)(hn:n<=1000000)(hl:∀ i,i<n->(ls i).length<=100000000)
 (hK1:∀ q,B5p r c n ls q->∀ b h',Own RQr h h' b (q*q) (rvs ls)->K (.tuple #[.slice (some ⟨b,0,none⟩) (q*q) (q*q),I 0]) h')
 (hK0:∀ e,SqE r c n ls e->∀ h',h.le h'->K (.tuple #[.slice none 0 0,I e]) h'):FCall prog Zn #[A1s r c A n cap] h K:=by
 refine B66 _ _ _ _ _ ?_
 unfold C2j
 refine Dx gl rv' hn hl ?_ (fun hno h1 l1=>⟨_,_,_,_,rfl,hK0 1 (.inl ⟨hno,rfl⟩) h1 l1⟩)
 intro q q' mk b h1 own
 refine ⟨_,_,_,_,rfl,?_⟩
 show Br _ _ _
 refine N7 (fun hne=>hK0 4 (.inr ⟨⟨_,_,mk⟩,(fun ⟨a,x,_⟩=>hne (by have:=x.er;have:=x.ec;omega)),rfl⟩) h1 own.le) (fun heq=>?_)
 obtain rfl:=mk.sq heq
 have:=mk.r2
 obtain ⟨rfl,rfl,_,_,_,_,rfl,hnum⟩:=id mk
 have sv:RowV SSr h1 A (q*q) ls:=rv'.mono Z9 own.le
 have hqq:q*q<=64*64:=C5y (by omega) (by omega)
 have ix:∀ {i j:Nat},i<q->j<q->B5 (B5 ((i:Int)*(q:Int))+(j:Int))=((i*q+j:Nat):Int):=fun {i j} hi hj=>by
  have:=O6 hi hj
  rw [<- C5t,O9 (by omega)]
  exact O9 (n:=i*q+j) (by omega)
 have bad:∀ {i j:Nat},i<q->j<i->ls (i*q+j)≠ls (j*q+i)->¬ ∃ a,B5p (q:Int) (q:Int) (q*q) ls a:=by
  rintro i j hi hj hne ⟨a,x,y⟩
  obtain rfl:a=q:=by have:=x.er;omega
  exact hne (y i j hi hj)
 refine ⟨fun L hp=>∃ i:Nat,i<=q/\L=[I (i:Int)]/\hp=h1/\∀ a b,a<i->b<a->ls (a*q+b)=ls (b*q+a),fun L _=>q-(iAt L 0).toNat,⟨0,by omega,rfl,rfl,fun a b ha=>by omega⟩,?_⟩
 rintro z hp ⟨i,hi,eL,rfl,hh⟩
 obtain rfl:=sI1 eL
 refine B6 (fun hlt=>?_) (fun hge=>hK1 q ⟨mk,fun a b ha hb=>hh a b (by omega) hb⟩ b hp own)
 have hiq:i<q:=by omega
 refine ⟨fun L hx=>∃ j:Nat,j<=i/\L=[I (j:Int)]/\hx=hp/\∀ b,b<j->ls (i*q+b)=ls (b*q+i),fun L _=>i-(iAt L 0).toNat,⟨0,by omega,rfl,rfl,fun b hb=>by omega⟩,?_⟩
 rintro z2 hx ⟨j,hj,eL,rfl,hg⟩
 obtain rfl:=sI1 eL
 refine B6 (fun hlt2=>?_) (fun hge2=>?_)
 ·have hji:j<i:=by omega
  have i1:=O6 hiq (show j<q by omega)
  have i2:=O6 (show j<q by omega) hiq
  obtain ⟨u,rfl,hc⟩:=sv.sat i1
  obtain ⟨u',eu,hd⟩:=sv.sat i2
  simp only [Option.some.injEq] at eu
  subst eu
  rw [ix hiq (show j<q by omega),ix (show j<q by omega) hiq]
  refine ⟨_,rfl,by omega,by omega,_,hc,_,rfl,by omega,by omega,_,hd,?_⟩
  rw [Nk]
  refine Br.not (B6 (fun e=>?_) (fun e=>hK0 4 (.inr ⟨⟨_,_,mk⟩,bad hiq hji e,rfl⟩) hx own.le))
  rw [wiS j (by omega)]
  refine ⟨⟨j+1,by omega,rfl,rfl,fun b hb=>?_⟩,by simp only [Ea];omega⟩
  by_cases c:b=j
  ·rw [c];exact e
  ·exact hg b (by omega)
 ·rw [wiS i (by omega)]
  refine ⟨⟨i+1,by omega,rfl,rfl,fun a b ha hb=>?_⟩,by simp only [Ea];omega⟩
  by_cases c:a=i
  ·rw [c];exact hg b (by omega)
  ·exact hh a b (by omega) hb
structure FacV (h:Heap) (q:Nat) (A1:Option Addr) (A2:Option Addr) (E:Nat->Rat):Prop where
 l:RowV SSr h A1 (q*q) (fun t=>K8 (A5v (mtx E q) q q t))
 d:RowV SSr h A2 q (fun t=>K8 (A6f (mtx E q) q t))
theorem Qh{Q:Nat}(gl:Gl h)(rv':RowV SSr h A n ls)(hn:n<=1000000)(hl:∀ i,i<n->(ls i).length<=100000000)(hs:∀ i,i<n->Sz m (rv (ls i)))(hb:∀ q,MOk r c n ls q q->3^q*bnd q m+bnd q m<=Q)(hQ:Q<=20000000)
 (hK1:∀ q,B5p r c n ls q->(∀ k,k<q->A0f (mtx (rvs ls) q) q k)->∀ b1 b2 h',h.le h'->FacV h' q (some ⟨b1,0,none⟩) (some ⟨b2,0,none⟩) (rvs ls)->K (.tuple #[.agg #[I r,I c,.slice (some ⟨b1,0,none⟩) (q*q) (q*q),.slice (some ⟨b2,0,none⟩) q q],.bool true,I 0]) h')
 (hK2:∀ q,B5p r c n ls q->(¬ ∀ k,k<q->A0f (mtx (rvs ls) q) q k)->∀ h',h.le h'->K (.tuple #[.agg #[I 0,I 0,.slice none 0 0,.slice none 0 0],.bool false,I 0]) h')
 (hK0:∀ e,SqE r c n ls e->∀ h',h.le h'->K (.tuple #[.agg #[I 0,I 0,.slice none 0 0,.slice none 0 0],.bool false,I e]) h'):FCall prog Nb #[A1s r c A n cap] h K:=by
 refine A8p _ _ _ _ _ ?_
 unfold B3g
 refine Wo gl rv' hn hl ?_ (fun e he h1 l1=>⟨_,_,_,_,rfl,N7 (fun _=>hK0 e he h1 l1) (fun e0=>by rcases he with ⟨_,x⟩|⟨_,_,x⟩<;>omega)⟩)
 intro q sq b h1 own
 obtain ⟨mk,st⟩:=id sq
 have hbq:=hb q mk
 have:=mk.r1;have:=mk.r2
 obtain ⟨rfl,rfl,_,_,_,_,rfl,hnum⟩:=id mk
 refine ⟨_,_,_,_,rfl,N7 (fun hne=>absurd rfl hne) (fun _=>?_)⟩
 refine Vf (Q:=Q) (gl.mono own.le) (own.vis K7) (C5h _) (by omega) (by omega) st.symm hs hbq (by omega) ?_ ?_
 ·intro ok h2 g2 o2 be bl bd T M w lh lg X
  have hqq:q*q<=64*64:=C5y (by omega) (by omega)
  have hQp:1<=Q:=by unfold bnd at hbq;omega
  have F:=fun k (hk:k<=q)=>ldF hs hbq st.symm hk fun m hm=>ok m (by omega)
  have g02:Gl g2:=gl.mono (B0 own.le lg)
  refine ⟨_,_,rfl,?_⟩
  show Br false _ _
  refine ⟨_,rfl,_,_,_,X.e.c5,?_⟩
  have gh2:Gl h2:=gl.mono (B0 own.le lh)
  refine Gx (m:=2*Q) gh2 (X.l.rowV X.e.t.sep) (by omega) (fun i hi=>?_) (by omega) ?_
  ·unfold A5v
   have hm:i%q<q:=C6d _ (by omega)
   rw [if_pos hm]
   exact C14 (F _ (by omega)) hm hQp (C5p hi)
  intro b3 h3 own3
  refine ⟨_,_,_,rfl,own3.le,_,rfl,_,_,_,B8 own3.le X.e.c6,?_⟩
  refine Gx (m:=Q) (gh2.mono own3.le) ((X.d.rowV X.e.t.sep).mono K7 own3.le) (by omega) (fun i hi=>?_) (by omega) ?_
  ·unfold A6f ldD
   rw [if_pos hi]
   exact (F i (by omega)).zA i i (C5h _) hi hi
  intro b4 h4 own4
  exact ⟨_,_,_,rfl,own4.le,hK1 q sq ok b3 b4 h4 (B0 (B0 own.le lh) (B0 own3.le own4.le)) ⟨(own3.vis Z9).mono Z9 own4.le,own4.vis Z9⟩⟩
 ·intro k hk ok hno h2 g2 o2 be bl bd T M w lh lg X
  refine ⟨_,_,rfl,?_⟩
  show Br true _ _
  exact hK2 q sq (fun x=>hno (x k hk)) h2 (B0 own.le lh)
end
theorem Ny{X Y:Prop}(x:X):Br true X Y:=x
theorem Br.no{X Y:Prop}(y:Y):Br false X Y:=y
theorem C2m:K8 0=[48]:=Kx
theorem C58:K8 (1/2)=[49,47,50]:=by
 have e1:N6 1=[49]:=by decide +kernel
 have e2:N6 2=[50]:=by decide +kernel
 have h1:(1/2:Rat).den=2:=by decide +kernel
 have h2:(1/2:Rat).num=1:=by decide +kernel
 simp [K8,Ky,e1,e2,h1,h2]
abbrev E4:Nat->Rat:=fun i=>([4,2,2,1]:List Rat).getD i 0
abbrev E0:Nat->Rat:=fun i=>([0,1,1,0]:List Rat).getD i 0
theorem aw4:ldA (mtx E4 2) 0 0 0=4/\ldA (mtx E4 2) 1 1 1=0:=by decide +kernel
theorem aw5:∀ t,t<4->A5v (mtx E4 2) 2 2 t=([1,0,1/2,1]:List Rat).getD t 0:=by decide +kernel
theorem aw6:∀ t,t<2->A6f (mtx E4 2) 2 t=([4,0]:List Rat).getD t 0:=by decide +kernel
theorem aw7:ldA (mtx E0 2) 0 0 0=0/\ldA (mtx E0 2) 0 1 0≠0:=by decide +kernel
theorem C3z:∀ k,k<2->A0f (mtx E4 2) 2 k:=by
 intro k hk
 have h:=aw4
 by_cases c:k=0
 ·subst c
  exact ⟨by rw [h.1];decide +kernel,fun e=>by rw [h.1] at e;exact absurd e (by decide +kernel)⟩
 ·have:k=1:=by omega
  subst this
  exact ⟨by rw [h.2];exact Rat.le_refl,fun _ i h1 h2=>by omega⟩
theorem C40:¬ ∀ k,k<2->A0f (mtx E0 2) 2 k:=fun x=>aw7.2 ((x 0 (by omega)).2 aw7.1 1 (by omega) (by omega))
theorem B0r(l:List Rat)(hl:∀ q∈l,(K8 q).length<=1){i:Nat}(hi:i<(l.map K8).length):((l.map K8).getD i []).length<=1:=by
 rw [C61,C64 hi]
 have hi':i<l.length:=by simpa using hi
 simp only [List.getElem_map,Option.getD_some]
 exact hl _ (List.getElem_mem hi')
theorem Sq(l:List Rat){i:Nat}(hi:i<l.length):(l.map K8).getD i []=K8 (l.getD i 0):=by
 rw [C61,C61,List.getElem?_map,C64 hi]
 rfl
theorem C4a(l:List Rat)(hl:l.length=4):MOk 2 2 4 (fun i=>(l.map K8).getD i []) 2 2:=by
 refine MOk.of (r:=2) (c:=2) ⟨by omega,by omega,by omega,by omega,by omega⟩ fun i hi=>⟨l.getD i 0,Sq l (by omega)⟩
theorem C0s(l:List Rat)(hl:l.length=4)(e:l.getD 2 0=l.getD 1 0):SymT 2 (fun i=>(l.map K8).getD i []):=fun i j hi hj=>by
 have h1:i=1:=by omega
 have h2:j=0:=by omega
 subst h1
 subst h2
 show (l.map K8).getD 2 []=(l.map K8).getD 1 []
 rw [Sq l (by omega),Sq l (by omega),e]
theorem A4u{h:Heap}{K:VP}(gl:Gl h)(hK:∀ h',h.le h'->K (.bool true) h'):FCall prog Cu #[] h K:=by
 refine B2t ?_
 unfold B7k
 have b4:∀ q,MOk 2 2 4 (fun i=>(([4,2,2,1]:List Rat).map K8).getD i []) q q->3^q*bnd q 4+bnd q 4<=1000:=fun q mk=>by
  have:=mk.er
  have:q=2:=by omega
  subst this
  decide
 have b0:∀ q,MOk 2 2 4 (fun i=>(([0,1,1,0]:List Rat).map K8).getD i []) q q->3^q*bnd q 4+bnd q 4<=1000:=fun q mk=>by
  have:=mk.er
  have:q=2:=by omega
  subst this
  decide
 have mk4:=C4a [4,2,2,1] rfl
 have mk0:=C4a [0,1,1,0] rfl
 have st4:=C0s [4,2,2,1] rfl rfl
 have st0:=C0s [0,1,1,0] rfl rfl
 have ne4:∀ e,¬ SqE 2 2 4 (fun i=>(([4,2,2,1]:List Rat).map K8).getD i []) e:=fun e x=>by
  rcases x with ⟨x,_⟩|⟨_,x,_⟩
  ·exact x ⟨_,_,mk4⟩
  ·exact x ⟨2,mk4,st4⟩
 have ne0:∀ e,¬ SqE 2 2 4 (fun i=>(([0,1,1,0]:List Rat).map K8).getD i []) e:=fun e x=>by
  rcases x with ⟨x,_⟩|⟨_,x,_⟩
  ·exact x ⟨_,_,mk0⟩
  ·exact x ⟨2,mk0,st0⟩
 have z4:∀ {i:Nat},i<4->((([4,2,2,1]:List Rat).map K8).getD i []).length<=1:=fun {i} hi=>B0r _ (by simp [C0p,C47,C35]) (by simpa using hi)
 have z0:∀ {i:Nat},i<4->((([0,1,1,0]:List Rat).map K8).getD i []).length<=1:=fun {i} hi=>B0r _ (by simp [C0p,C2m]) (by simpa using hi)
 refine Yp Y5 (ls:=[4,2,2,1].map K8) rfl (by simp) (by rw [show ([4,2,2,1]:List Rat).map K8=[[52],[50],[50],[49]] by simp [C0p,C47,C35]];rfl) ?_
 intro b1 h1 l1 s1
 have r1:=Ha s1
 refine ⟨_,_,_,rfl,?_⟩
 refine Qh (m:=4) (Q:=1000) (gl.mono l1) r1 (by simp) (fun i hi=>Nat.le_trans (z4 (by simpa using hi)) (by omega)) (fun i hi=>A7b (k:=1) (z4 (by simpa using hi)) (by omega)) b4 (by omega) ?_ (fun q sq hno _ _=>?_) (fun e he _ _=>absurd he (ne4 e))
 rotate_left
 ·obtain rfl:q=2:=by have:=sq.1.er;omega
  rw [Yc] at hno
  exact absurd C3z hno
 intro q sq ok1 c1 c2 h2 l2 fv
 obtain rfl:q=2:=by have:=sq.1.er;omega
 have fl:=fv.l
 have fd:=fv.d
 rw [Yc] at fl fd
 refine ⟨_,_,_,_,_,_,_,_,_,_,rfl,?_⟩
 refine Yp Y5 (ls:=[0,1,1,0].map K8) rfl (by simp) (by rw [show ([0,1,1,0]:List Rat).map K8=[[48],[49],[49],[48]] by simp [C0p,C2m]];rfl) ?_
 intro b3 h3 l3 s3
 have r3:=Ha s3
 have l13:=B0 l1 (B0 l2 l3)
 refine ⟨_,_,_,rfl,?_⟩
 refine Qh (m:=4) (Q:=1000) (gl.mono l13) r3 (by simp) (fun i hi=>Nat.le_trans (z0 (by simpa using hi)) (by omega)) (fun i hi=>A7b (k:=1) (z0 (by simpa using hi)) (by omega)) b0 (by omega) (fun q sq ok _ _ _ _ _=>?_) ?_ (fun e he _ _=>absurd he (ne0 e))
 ·obtain rfl:q=2:=by have:=sq.1.er;omega
  rw [Yc] at ok
  exact absurd ok C40
 intro q sq0 _ h4 l4
 refine ⟨_,_,_,_,_,_,_,_,_,_,rfl,Ny (Ny ?_)⟩
 refine Yp Y5 (ls:=[4,0].map K8) rfl (by simp) (by rw [show ([4,0]:List Rat).map K8=[[52],[48]] by simp [C35,C2m]];rfl) ?_
 intro b5 h5 l5 s5
 have r5:=Ha s5
 refine ⟨_,_,_,rfl,?_⟩
 have l25:=B0 l3 (B0 l4 l5)
 refine Lu (fd.mono Z9 l25) r5 (by omega) (fun _ _=>⟨_,rfl,Ny ?_⟩) (fun hno=>absurd ⟨by simp,fun i hi=>?_⟩ hno)
 rotate_left
 ·rw [Sq _ (by simpa using hi),aw6 i hi]
 refine Yp Y5 (ls:=[1,0,1/2,1].map K8) rfl (by simp) (by rw [show ([1,0,1/2,1]:List Rat).map K8=[[49],[48],[49,47,50],[49]] by simp only [List.map_cons,List.map_nil,C0p,C2m,C58]];rfl) ?_
 intro b6 h6 l6 s6
 have r6:=Ha s6
 refine ⟨_,_,_,rfl,?_⟩
 refine Lu (fl.mono Z9 (B0 l25 l6)) r6 (by omega) (fun _ _=>⟨_,rfl,Ny (Ny ?_)⟩) (fun hno=>absurd ⟨by simp,fun i hi=>?_⟩ hno)
 rotate_left
 ·rw [Sq _ (by simpa using hi),aw5 i hi]
 exact hK h6 (B0 l13 (B0 l4 (B0 l5 l6)))
section
variable {h:Heap} {A:Option Addr} {n cap:Nat} {r c:Int} {ls:Nat->List UInt8}
end
section
variable {h:Heap} {K:VP} {A:Option Addr} {n cap m w:Nat} {r c:Int} {ls:Nat->List UInt8} {R:Nat->Nat->Rat}
theorem Sy(hn:n<=10000)(hw:w<=10000)
 (hK:∀ h' g' o' bo rb,h.le g'->Mt h' g' o' bo rb n w (fun _ _=>0)->K (.slice (some ⟨bo,0,none⟩) n n) h'):FCall prog Rk #[I (n:Int),I (w:Int)] h K:=by
 refine B3f _ _ ?_
 unfold B7w
 refine S4 C48 (zx:=(⟨none,0,0⟩:HV)) rfl (by omega) (by omega) (by omega) (by omega) ?_
 intro bo hbo
 simp only [C5l]
 refine ⟨_,_,_,rfl,fun L hp=>∃ (k:Nat) (g o:Heap) (hd:List HV) (rb:Nat->Nat),k<=n/\L=[I (k:Int)]/\h.le g/\Sep hp g o/\RowX o bo hd/\hd.length=n/\(∀ i,i<k->hd[i]? = some ⟨some ⟨rb i,0,none⟩,w,w⟩)/\(∀ i,i<k->rb i≠bo)/\(∀ i j,i<k->j<k->rb i=rb j->i=j)/\(∀ i,i<k->RowX o (rb i) (C5o w Jd)),fun L _=>n-(iAt L 0).toNat,
  ⟨0,h,Dw.put bo _,C5o n ⟨none,0,0⟩,fun _=>0,by omega,rfl,B4 _,En hbo,RowX.mk,C5s,fun i hi=>by omega,fun i hi=>by omega,fun i j hi=>by omega,fun i hi=>by omega⟩,?_⟩
 rintro z hp ⟨k,g,o,hd,rb,hk,eL,lg,s,rx,hl,h1,h2,h3,h4⟩
 obtain rfl:=sI1 eL
 refine B6 (fun hlt=>?_) (fun hge=>?_)
 ·have hkn:k<n:=by omega
  refine S4 C0r (zx:=Jd) rfl (by omega) (by omega) (by omega) (by omega) ?_
  intro b2 hb2
  simp only [C5l]
  have ob2:∀ q x,o q=some x->q≠b2:=by
   rintro q x e rfl
   rw [s.own q x e] at hb2;cases hb2
  have nbo:bo≠b2:=by obtain ⟨e,he⟩:=rx;exact ob2 _ _ he
  have nrb:∀ i,i<k->rb i≠b2:=fun i hi=>by obtain ⟨e,he⟩:=h4 i hi;exact ob2 _ _ he
  refine ⟨_,_,_,rfl,_,rfl,by omega,by omega,?_⟩
  refine Em B46 (y:=(⟨some ⟨b2,0,none⟩,w,w⟩:HV)) rfl (s.new hb2 _) (rx.other nbo _) (i:=k) (by omega) ?_
  intro h5 o5 x5 eo5 s5 rx5
  rw [wiS k (by omega)]
  refine ⟨⟨k+1,g,o5,_,fun i=>if i=k then b2 else rb i,by omega,rfl,lg,s5,rx5,by rw [C6g];exact hl,fun i hi=>?_,fun i hi=>?_,fun i j hi hj e=>?_,fun i hi=>?_⟩,by simp only [Ea];omega⟩
  ·show (hd.set k _)[i]? = some (⟨some ⟨if i=k then b2 else rb i,0,none⟩,w,w⟩:HV)
   by_cases e:i=k
   ·subst e
    rw [if_pos rfl,List.getElem?_set_self (by omega)]
   ·rw [if_neg e,List.getElem?_set_ne (fun x=>e x.symm)]
    exact h1 i (by omega)
  ·show (if i=k then b2 else rb i)≠bo
   by_cases e:i=k
   ·rw [if_pos e];exact nbo.symm
   ·rw [if_neg e];exact h2 i (by omega)
  ·change (if i=k then b2 else rb i)=(if j=k then b2 else rb j) at e
   by_cases e1:i=k
   ·by_cases e2:j=k
    ·omega
    ·rw [if_pos e1,if_neg e2] at e
     exact absurd e.symm (nrb j (by omega))
   ·by_cases e2:j=k
    ·rw [if_neg e1,if_pos e2] at e
     exact absurd e (nrb i (by omega))
    ·rw [if_neg e1,if_neg e2] at e
     exact h3 i j (by omega) (by omega) e
  ·show RowX o5 (if i=k then b2 else rb i) _
   by_cases e:i=k
   ·rw [if_pos e,eo5]
    exact RowX.mk.other nbo.symm _
   ·rw [if_neg e,eo5]
    exact ((h4 i (by omega)).other (nrb i (by omega)) _).other (h2 i (by omega)) _
 ·have:k=n:=by omega
  subst this
  refine hK hp g o bo rb lg ⟨s,⟨hd,rx.rowB,hl,fun i hi=>⟨w,h1 i hi,C5h _⟩⟩,h2,h3,fun i hi=>⟨_,(h4 i hi).rowB,C5s,fun j hj=>⟨Jd,by rw [C6f,if_pos hj],NQ.zero⟩⟩⟩
def A72(R:Nat->Nat->Rat)(i k:Nat):Nat->Nat->Rat:=fun a b=>if b<i\/(b=i/\a<k) then R b a else 0
theorem A7u(rs:RowsV h A n w R)(hn1:1<=n)(hn:n<=10000)(hw:w<=10000)
 (hK:∀ bo h',h.le h'->RowsV h' (some ⟨bo,0,none⟩) w n (fun a b=>R b a)->K (.slice (some ⟨bo,0,none⟩) w w) h'):FCall prog A4l #[.slice A n cap] h K:=by
 refine B64 _ _ _ ?_
 unfold C2g
 obtain ⟨a,sv,ea,e1,e2,hc,_⟩:=rs.at (i:=0) (by omega)
 refine ⟨a,ea,by omega,by omega,_,_,_,hc,?_⟩
 rw [e1]
 refine Sy hw hn ?_
 intro h1 g1 o1 bo rb l1 t1
 refine ⟨_,_,_,rfl,fun L hp=>∃ (i:Nat) (g o:Heap),i<=n/\L=[I (i:Int)]/\h.le g/\Mt hp g o bo rb w n (A72 R i 0),fun L _=>n-(iAt L 0).toNat,⟨0,g1,o1,by omega,rfl,l1,t1.congr fun a b _ _=>by unfold A72;rw [if_neg (by omega)]⟩,?_⟩
 rintro z hp ⟨i,g,o,hi,eL,lg,t⟩
 obtain rfl:=sI1 eL
 refine B6 (fun hlt=>?_) (fun hge=>?_)
 ·have hin:i<n:=by omega
  obtain ⟨a1,s1,ea1,f1,f2,hc1,row⟩:=rs.at hin
  refine ⟨fun L hp=>∃ (k:Nat) (g o:Heap),k<=w/\L=[I (k:Int)]/\h.le g/\Mt hp g o bo rb w n (A72 R i k),fun L _=>w-(iAt L 0).toNat,⟨0,g,o,by omega,rfl,lg,t⟩,?_⟩
  rintro z hp2 ⟨k,g2,o2,hk,eL2,lg2,t2⟩
  obtain rfl:=sI1 eL2
  have lhp:=B0 lg2 t2.sep.le
  refine ⟨a1,ea1,by omega,by omega,_,_,_,B8 lhp hc1,?_⟩
  rw [f1]
  refine B6 (fun hlt2=>?_) (fun hge2=>?_)
  ·have hkw:k<w:=by omega
   obtain ⟨cc,hcc,hh⟩:=t2.head hkw
   obtain ⟨a5,w5,e5,n5,c0,c1,c2',c3⟩:=(row.mono Sm lg2).qat hkw
   refine ⟨_,rfl,by omega,by omega,_,_,_,t2.sep.cell hh,a1,ea1,by omega,by omega,_,_,_,B8 lhp hc1,a5,e5,by omega,by omega,_,_,_,_,_,_,_,_,B8 t2.sep.le c0,B8 t2.sep.le c1,B8 t2.sep.le c2',B8 t2.sep.le c3,_,rfl,by omega,by omega,?_⟩
   refine t2.store hkw hin n5 ?_
   intro h6 o6 t6 _
   rw [wiS k (by omega)]
   refine ⟨⟨k+1,g2,o6,by omega,rfl,lg2,t6.congr fun a b _ _=>?_⟩,by simp only [Ea];omega⟩
   unfold B84 A72
   by_cases e:a=k/\b=i
   ·rw [if_pos e,if_pos (by omega),e.1,e.2]
   ·rw [if_neg e]
    by_cases e3:b<i\/(b=i/\a<k)
    ·rw [if_pos e3,if_pos (by omega)]
    ·rw [if_neg e3,if_neg (by omega)]
  ·have:k=w:=by omega
   subst this
   rw [wiS i (by omega)]
   refine ⟨⟨i+1,g2,o2,by omega,rfl,lg2,t2.congr fun a b ha _=>?_⟩,by simp only [Ea];omega⟩
   unfold A72
   by_cases e3:b<i\/(b=i/\a<k)
   ·rw [if_pos e3,if_pos (by omega)]
   ·rw [if_neg e3,if_neg (by omega)]
 ·have:i=n:=by omega
  subst this
  exact hK bo hp (B0 lg t.sep.le) ((t.rowsV).congr fun a b _ hb=>by unfold A72;rw [if_pos (.inl hb)])
theorem Pj{α:Type}[E:Enc α]{o:Heap}{b:Nat}{e:TypeId}{c:Nat}{zx:α}:OwnSl (o.put b (.cells ((C5o c zx).flatMap enc).toArray e)) e (some ⟨b,0,none⟩) c ([]:List α):=
 ⟨Nat.zero_le _,.inr ⟨b,_,rfl,C3 _ _ _,by rw [K9,C5s],by simp⟩⟩
theorem A1p{rows cols:Nat}(rv':RowV SSr h A (rows*cols) ls)(hr:rows<=10000)(hc:cols<=10000)
 (hK:∀ A' c' h' g' o' xs,h.le g'->Sep h' g' o'->OwnSl o' J8 A' c' xs->xs.length=rows*cols->Row SSr g' xs (rows*cols) (fun k=>ls (k%rows*cols+k/rows))->K (.slice A' (rows*cols) c') h'):FCall prog Fp #[.slice A (rows*cols) cap,I (rows:Int),I (cols:Int)] h K:=by
 refine Vr _ _ _ _ _ ?_
 unfold Ut
 have hrc:rows*cols<=10000*10000:=C5y hr hc
 refine S4 Y5 (zx:=([]:List UInt8)) rfl (by omega) (by omega) (by omega) (by omega) ?_
 intro b hb
 simp only [C5l]
 refine ⟨_,_,_,rfl,fun L hp=>∃ (j:Nat) (g o:Heap) (xs:List (List UInt8)) (A':Option Addr) (c':Nat),j<=cols/\L=[.slice A' (j*rows) c',I (j:Int)]/\h.le g/\Sep hp g o/\OwnSl o J8 A' c' xs/\xs.length=j*rows/\Row SSr g xs (j*rows) (fun k=>ls (k%rows*cols+k/rows)),fun L _=>cols-(iAt L 1).toNat,
  ⟨0,h,Dw.put b _,[],some ⟨b,0,none⟩,rows*cols,by omega,by rw [C6c];rfl,B4 _,En hb,Pj,by simp,by rw [C6c];exact Row.nil⟩,?_⟩
 rintro rA rn rc z hp ⟨j,g,o,xs,A',c',hj,eL,lg,s,ow,hxl,rr⟩
 obtain ⟨⟨rfl,rfl,rfl⟩,rfl⟩:=sI2 eL
 refine B6 (fun hlt=>?_) (fun hge=>?_)
 ·have hjc:j<cols:=by omega
  have hj1:(j+1)*rows=j*rows+rows:=by rw [C6a,C6k]
  have hjr:(j+1)*rows<=cols*rows:=C5j _ hjc
  rw [C5r cols rows] at hjr
  refine ⟨fun L hp=>∃ (i:Nat) (g o:Heap) (xs:List (List UInt8)) (A':Option Addr) (c':Nat),i<=rows/\L=[.slice A' (j*rows+i) c',I (i:Int)]/\h.le g/\Sep hp g o/\OwnSl o J8 A' c' xs/\xs.length=j*rows+i/\Row SSr g xs (j*rows+i) (fun k=>ls (k%rows*cols+k/rows)),fun L _=>rows-(iAt L 1).toNat,
   ⟨0,g,o,xs,rA,rc,by omega,rfl,lg,s,ow,hxl,rr⟩,?_⟩
  rintro qA qn qc z hp2 ⟨i,g2,o2,ys,A2,c2,hi,eL,lg2,s2,ow2,hyl,rr2⟩
  obtain ⟨⟨rfl,rfl,rfl⟩,rfl⟩:=sI2 eL
  refine B6 (fun hlt2=>?_) (fun hge2=>?_)
  ·have hir:i<rows:=by omega
   have hidx:=O6 hir hjc
   have ew:B5 (B5 ((i:Int)*(cols:Int))+(j:Int))=((i*cols+j:Nat):Int):=by
    rw [<- C5t,O9 (by omega)]
    exact O9 (n:=i*cols+j) (by omega)
   rw [ew]
   obtain ⟨a,ea,hc1⟩:=(rv'.mono Z9 (B0 lg2 s2.le)).sat hidx
   refine ⟨a,ea,by omega,by omega,_,hc1,?_⟩
   refine T0 (ty:=Q0) Y5 s2 ow2 hyl.symm (y:=ls (i*cols+j)) rfl (by decide) (by rw [hyl];omega) (by rw [hyl];omega) ?_
   intro A3 c3 h3 g3 o3 l3 s3 ow3 _
   rw [hyl,wiS i (by omega)]
   refine ⟨⟨i+1,g3,o3,_,A3,c3,by omega,by rw [C6l],B0 lg2 l3,s3,ow3,by rw [C5i,hyl];rfl,?_⟩,?_⟩
   ·have rB:=Row.push (R:=SSr) (g:=g3) (xs:=ys) (f:=fun k=>ls (k%rows*cols+k/rows)) (by rw [hyl];exact rr2.mono Z9 l3) (w:=ls (i*cols+j)) (by
     show ls (i*cols+j)=ls (ys.length%rows*cols+ys.length/rows)
     rw [hyl,C67 (j*rows) i,C5q,C5w hir,C5u _ _ (by omega),C5x hir,C60])
    rw [C5i,hyl] at rB
    exact rB
   ·show rows-((i+1:Nat):Int).toNat<rows-(i:Int).toNat
    omega
  ·have:i=rows:=by omega
   subst this
   rw [wiS j (by omega),<- hj1]
   rw [<- hj1] at hyl rr2
   refine ⟨⟨j+1,g2,o2,ys,qA,qc,by omega,rfl,lg2,s2,ow2,hyl,rr2⟩,?_⟩
   show cols-((j+1:Nat):Int).toNat<cols-(j:Int).toNat
   omega
 ·have:j=cols:=by omega
  subst this
  rw [C5r j rows] at hxl rr ⊢
  exact hK rA rc hp g o xs lg s ow hxl rr
def OwnS(h h':Heap)(A:Option Addr)(c n:Nat)(f:Nat->List UInt8):Prop:=∃ g o xs,h.le g/\Sep h' g o/\OwnSl o J8 A c xs/\xs.length=n/\Row SSr g xs n f
theorem OwnS.le{h h':Heap}{c n:Nat}{f:Nat->List UInt8}(w:OwnS h h' A c n f):h.le h':=by
 obtain ⟨g,o,xs,lg,s,_⟩:=w
 exact B0 lg s.le
theorem OwnS.vis{h h':Heap}{c n:Nat}{f:Nat->List UInt8}(w:OwnS h h' A c n f):RowV SSr h' A n f:=by
 obtain ⟨g,o,xs,lg,s,ow,e,q⟩:=w
 exact ⟨xs,ow.slF s.ole,e,q.mono Z9 s.le⟩
theorem Sl(gl:Gl h)(rv':RowV SSr h A n ls)(hn:n<=1000000)(hl:∀ i,i<n->(ls i).length<=100000000)
 (hK1:∀ rows cols,MOk r c n ls rows cols->∀ h' A' c',OwnS h h' A' c' n (fun k=>ls (k%rows*cols+k/rows))->K (.tuple #[A1s c r A' n c',I 0]) h')
 (hK0:¬ Mx r c n ls->∀ h',h.le h'->K (.tuple #[A1s 0 0 none 0 0,I 1]) h'):FCall prog Hl #[A1s r c A n cap] h K:=by
 refine A0c _ _ _ _ _ ?_
 unfold Xj
 refine A4b gl rv' hn hl (fun hx=>⟨_,rfl,?_⟩) (fun hno=>⟨_,rfl,hK0 hno h (B4 _)⟩)
 obtain ⟨rows,cols,mk⟩:=hx
 have hk:=hK1 rows cols mk
 obtain ⟨rfl,rfl,_,_,_,_,rfl,_⟩:=id mk
 have:=mk.r2;have:=mk.c2
 refine A1p rv' (by omega) (by omega) ?_
 intro A2 c2 h2 g2 o2 xs l2 s2 ow hxl rr
 exact ⟨_,_,_,rfl,B0 l2 s2.le,hk h2 A2 c2 ⟨g2,o2,xs,l2,s2,ow,hxl,rr⟩⟩
end
theorem Br.nt{X Y:Prop}(y:Y):Br (!true) X Y:=y
theorem C06{X Y:Prop}(x:X):Br (!false) X Y:=x
structure MOut where
 r:Int
 c:Int
 n:Nat
 f:Nat->List UInt8
 e:Int
def noM(e:Int):MOut:=⟨0,0,0,fun _=>[],e⟩
section
variable {h:Heap} {K:VP} {A B:Option Addr} {n n2 cap cap2 m w:Nat} {r c r2 c2:Int} {la lb:Nat->List UInt8}
end
structure VV where
 A:Option Addr
 n:Nat
 c:Nat
 s:Bool
 B:Option Addr
 bn:Nat
 bc:Nat
abbrev VV.v(w:VV):Value:=.agg #[.slice w.A w.n w.c,.bool w.s,.slice w.B w.bn w.bc]
instance:Enc VV:=⟨⟨fun w=>[.slice w.A w.n w.c,.bool w.s,.slice w.B w.bn w.bc],3,fun _=>rfl,fun w v hv=>by
 simp only [C68,C62,or_false] at hv
 rcases hv with rfl|rfl|rfl<;>rfl⟩⟩
def VQr(w:Nat):Heap->VV->(Nat->Rat)->Prop:=fun h v f=>v.n=w/\ZI h v.s v.B v.bn v.bc (Bc f w:Int)/\RowV ZIr h v.A w (fun j=>scl (f j) (Bc f w:Int))
theorem A7p(w:Nat):Mon (VQr w):=fun _ _ _ _ l i=>⟨i.1,i.2.1.mono l,i.2.2.mono Jg l⟩
section
variable {h:Heap} {K:VP} {A B:Option Addr} {n cap m w:Nat} {f f2:Nat->Rat}
theorem A49(gl:Gl h)(r:RowV RQr h A n f)(hn:n<=10000)(hs:∀ i,i<n->Sz m (f i))(hm:1+n*m+m<=6400000000)
 (hK:∀ v h',h.le h'->VQr n h' v f->K v.v h'):FCall prog Hm #[.slice A n cap] h K:=by
 refine A0d _ _ _ ?_
 unfold Xk
 have hd:=Jz (f:=f) n hs
 refine ⟨?_,?_⟩
 ·refine S4 tZs (zx:=(⟨false,none,0,0⟩:IV)) rfl (by omega) (by omega) (by omega) (by omega) ?_
  intro b hb
  simp only [C5l]
  have s0:=(Sep.refl h).new hb (.cells ((C5o n (⟨false,none,0,0⟩:IV)).flatMap enc).toArray Eu)
  refine ⟨_,_,_,rfl,s0.le,s0.call (Dh gl r (by omega) hs hm ?_)⟩
  intro sd Bd bn bc g1 l1 id h1 s1
  refine ⟨_,_,_,_,rfl,s0.le_le s1 l1,?_⟩
  refine ⟨fun L hp=>∃ (k:Nat) (g o:Heap) (ys:List IV),k<=n/\L=[I (k:Int)]/\g1.le g/\Sep hp g o/\RowX o b ys/\ys.length=n/\Row ZIr g ys k (fun j=>scl (f j) (Bc f n:Int)),fun L _=>n-(iAt L 0).toNat,⟨0,g1,_,C5o n ⟨false,none,0,0⟩,by omega,rfl,B4 _,s1,RowX.mk,C5s,Row.nil⟩,?_⟩
  rintro z hp ⟨k,g,o,ys,hk,eL,lg,s,rx,hy,rr⟩
  obtain rfl:=sI1 eL
  refine B6 (fun hlt=>?_) (fun hge=>?_)
  ·have hkn:k<n:=by omega
   obtain ⟨a,w,ea,iw,c0,c1,c2,c3⟩:=(r.mono K7 (B0 l1 lg)).qat hkn
   refine ⟨a,ea,by omega,by omega,_,_,_,_,_,_,_,_,B8 s.le c0,B8 s.le c1,B8 s.le c2,B8 s.le c3,?_⟩
   refine s.call (Jt (m:=1+n*m+m) iw (id.mono lg) ((hs k hkn).mono (by omega)) (hd.mono (by omega)) hm ?_)
   intro s2 A2 n2 c2 g2 l2 i2 h2 sp2
   refine ⟨_,_,_,_,rfl,s.le_le sp2 l2,_,rfl,by omega,by omega,?_⟩
   refine Em Rx (y:=(⟨s2,A2,n2,c2⟩:IV)) rfl sp2 rx (i:=k) (by omega) ?_
   intro h7 o7 x7 eo s7 rx7
   rw [wiS k (by omega)]
   exact ⟨⟨k+1,g2,o7,_,by omega,rfl,B0 lg l2,s7,rx7,by rw [C6g];exact hy,(rr.mono Jg l2).set (by omega) i2⟩,by simp only [Ea];omega⟩
  ·have:k=n:=by omega
   subst this
   exact hK ⟨some ⟨b,0,none⟩,k,k,sd,Bd,bn,bc⟩ hp (B0 l1 (B0 lg s.le)) ⟨rfl,id.mono (B0 lg s.le),ys,rx.rowB.slF s.ole,hy,rr.mono Jg s.le⟩
 ·refine Dh gl r (by omega) hs hm ?_
  intro sd Bd bn bc g1 l1 id
  refine ⟨_,_,_,_,rfl,l1,S4 tZs (zx:=(⟨false,none,0,0⟩:IV)) rfl (by omega) (by omega) (by omega) (by omega) ?_⟩
  intro b hb
  simp only [C5l]
  have s1:=(Sep.refl g1).new hb (.cells ((C5o n (⟨false,none,0,0⟩:IV)).flatMap enc).toArray Eu)
  refine ⟨_,_,_,rfl,s1.le,?_⟩
  refine ⟨fun L hp=>∃ (k:Nat) (g o:Heap) (ys:List IV),k<=n/\L=[I (k:Int)]/\g1.le g/\Sep hp g o/\RowX o b ys/\ys.length=n/\Row ZIr g ys k (fun j=>scl (f j) (Bc f n:Int)),fun L _=>n-(iAt L 0).toNat,⟨0,g1,_,C5o n ⟨false,none,0,0⟩,by omega,rfl,B4 _,s1,RowX.mk,C5s,Row.nil⟩,?_⟩
  rintro z hp ⟨k,g,o,ys,hk,eL,lg,s,rx,hy,rr⟩
  obtain rfl:=sI1 eL
  refine B6 (fun hlt=>?_) (fun hge=>?_)
  ·have hkn:k<n:=by omega
   obtain ⟨a,w,ea,iw,c0,c1,c2,c3⟩:=(r.mono K7 (B0 l1 lg)).qat hkn
   refine ⟨a,ea,by omega,by omega,_,_,_,_,_,_,_,_,B8 s.le c0,B8 s.le c1,B8 s.le c2,B8 s.le c3,?_⟩
   refine s.call (Jt (m:=1+n*m+m) iw (id.mono lg) ((hs k hkn).mono (by omega)) (hd.mono (by omega)) hm ?_)
   intro s2 A2 n2 c2 g2 l2 i2 h2 sp2
   refine ⟨_,_,_,_,rfl,s.le_le sp2 l2,_,rfl,by omega,by omega,?_⟩
   refine Em Rx (y:=(⟨s2,A2,n2,c2⟩:IV)) rfl sp2 rx (i:=k) (by omega) ?_
   intro h7 o7 x7 eo s7 rx7
   rw [wiS k (by omega)]
   exact ⟨⟨k+1,g2,o7,_,by omega,rfl,B0 lg l2,s7,rx7,by rw [C6g];exact hy,(rr.mono Jg l2).set (by omega) i2⟩,by simp only [Ea];omega⟩
  ·have:k=n:=by omega
   subst this
   exact hK ⟨some ⟨b,0,none⟩,k,k,sd,Bd,bn,bc⟩ hp (B0 l1 (B0 lg s.le)) ⟨rfl,id.mono (B0 lg s.le),ys,rx.rowB.slF s.ole,hy,rr.mono Jg s.le⟩
def smZ(x y:Nat->Int):Nat->Int
 | 0=>0
 | k+1=>smZ x y k+x k*y k
def smA(x y:Nat->Int):Nat->Int
 | 0=>0
 | k+1=>smA x y k+(x k*y k).natAbs
theorem B6d{x y:Nat->Int}{m w:Nat}(hx:∀ j,j<w->ZB m (x j))(hy:∀ j,j<w->ZB m (y j)):∀ k,k<=w->smA x y k<=k*2^(2*m):=by
 intro k
 induction k with
 | zero=>intro _;simp [smA]
 | succ k ih=>
  intro hk
  have h1:=ih (by omega)
  have h2:=A45 (hx k (by omega)) (hy k (by omega))
  have h3:((k+1:Nat):Int)*2^(2*m)=(k:Int)*2^(2*m)+2^(2*m):=by rw [Int.natCast_add,Int.add_mul];simp
  show smA x y k+((x k*y k).natAbs:Int)<=_
  rw [h3]
  omega
theorem B8c(x y:Nat->Int):∀ k,((smZ x y k).natAbs:Int)<=smA x y k:=by
 intro k
 induction k with
 | zero=>exact Int.le_refl _
 | succ k ih=>
  show ((smZ x y k+x k*y k).natAbs:Int)<=smA x y k+((x k*y k).natAbs:Int)
  omega
theorem C0w{x y:Nat->Int}{m w:Nat}(hx:∀ j,j<w->ZB m (x j))(hy:∀ j,j<w->ZB m (y j))(hw:w<=10000):ZB (2*m+14) (smZ x y w):=by
 have h1:=B6d hx hy w (C5h _)
 have h2:=B8c x y w
 have e:(2:Int)^(2*m)=((2^(2*m):Nat):Int):=by simp
 rw [e,<- C5t] at h1
 have h3:w*2^(2*m)<=10000*2^(2*m):=C5j _ hw
 have h4:2^(2*m+14)=2^(2*m)*16384:=by rw [Nat.pow_add]
 have h5:0<2^(2*m):=Nat.pow_pos (by decide)
 unfold ZB
 rw [h4]
 omega
theorem C0x{p q:Nat->Rat}{x y:Nat->Int}{d e:Int}{w:Nat}(hx:∀ j,j<w->(x j:Rat)=p j*d)(hy:∀ j,j<w->(y j:Rat)=q j*e):∀ k,k<=w->(smZ x y k:Rat)=sm k (fun j=>p j*q j)*((d*e:Int):Rat):=by
 intro k
 induction k with
 | zero=>intro _;show ((0:Int):Rat)=0*_;rw [C5v];rfl
 | succ k ih=>
  intro hk
  show ((smZ x y k+x k*y k:Int):Rat)=(sm k (fun j=>p j*q j)+p k*q k)*((d*e:Int):Rat)
  rw [C6p,ih (by omega),C5z d e,C5z (x k) (y k),hx k (by omega),hy k (by omega)]
  grind
theorem A75{v u:VV}(gl:Gl h)(iv:VQr w h v f)(iu:VQr w h u f2)(hw:w<=10000)(hs:∀ i,i<w->Sz m (f i))(hs2:∀ i,i<w->Sz m (f2 i))(hm1:1<=m)(hm:2*(1+w*m+m)+14<=100000000)
 (hK:∀ q h',h.le h'->RQ h' q (sm w (fun j=>f j*f2 j))->K q.v h'):FCall prog Zk #[v.v,u.v] h K:=by
 refine B37 _ _ _ _ _ _ _ _ _ _ _ _ _ _ ?_
 unfold B7q
 obtain ⟨en1,id1,rz1⟩:=iv
 obtain ⟨en2,id2,rz2⟩:=iu
 have hd1:=Jz (f:=f) w hs
 have hd2:=Jz (f:=f2) w hs2
 have hx:∀ j,j<w->ZB (1+w*m+m) (scl (f j) (Bc f w:Int)):=fun j hj=>(A9r (hs j hj) hd1).mono (by omega)
 have hy:∀ j,j<w->ZB (1+w*m+m) (scl (f2 j) (Bc f2 w:Int)):=fun j hj=>(A9r (hs2 j hj) hd2).mono (by omega)
 refine Fz A5l ?_
 intro bs hbs
 have Z0:SumS (h.put bs (.cells #[.slice none 0 0,.slice none 0 0] Jp)) h bs Jp 200000001 0 0:=SumS.zero hbs
 refine ⟨_,rfl,fun L hp=>∃ (k:Nat) (g:Heap),k<=w/\L=[I (k:Int)]/\h.le g/\SumS hp g bs Jp 200000001 (smA (fun j=>scl (f j) (Bc f w:Int)) (fun j=>scl (f2 j) (Bc f2 w:Int)) k) (smZ (fun j=>scl (f j) (Bc f w:Int)) (fun j=>scl (f2 j) (Bc f2 w:Int)) k),fun L _=>w-(iAt L 0).toNat,⟨0,h,by omega,rfl,B4 _,Z0⟩,?_⟩
 rintro z hp ⟨k,g,hk,eL,lg,Z⟩
 obtain rfl:=sI1 eL
 refine B6 (fun hlt=>?_) (fun hge=>?_)
 ·have hkw:k<w:=by omega
  obtain ⟨a,x1,ea,zx,c0,c1⟩:=(rz1.mono Jg lg).zat hkw
  obtain ⟨a2,y1,ea2,zy,d0,d1⟩:=(rz2.mono Jg lg).zat hkw
  refine ⟨a,ea,by omega,by omega,_,_,_,_,B8 Z.le c0,B8 Z.le c1,a2,ea2,by omega,by omega,_,_,_,_,B8 Z.le d0,B8 Z.le d1,?_⟩
  have lx:x1.n<=100000000:=ZI.len zx (hx k hkw) (by omega)
  have ly:y1.n<=100000000:=ZI.len zy (hy k hkw) (by omega)
  have hA:=B6d hx hy (k+1) hkw
  have hbig:=B04 (m:=1+w*m+m) (k:=k+1) (by omega) (by omega)
  refine An Z zx zy (by omega) (by omega) (N1:=1+w*m+m) (by show smA _ _ (k+1)<_;omega) (by omega) ?_
  intro h3 g3 l3 Z3
  rw [wiS k (by omega)]
  exact ⟨rfl,⟨k+1,g3,by omega,rfl,B0 lg l3,Z3⟩,by simp only [Ea];omega⟩
 ·have:k=w:=by omega
  subst this
  refine Lg Z (by omega) ?_
  intro sv Av nv cv h5 l5 z5
  have l05:=B0 lg (B0 Z.le l5)
  refine ⟨_,_,_,_,rfl,l5,?_⟩
  refine Z2 (m:=1+k*m+m) (id1.mono l05) (id2.mono l05) (hd1.mono (by omega)) (hd2.mono (by omega)) (by omega) ?_
  intro s6 A6 n6 c6 h6 l6 z6
  refine ⟨_,_,_,_,rfl,l6,?_⟩
  have l06:=B0 l05 l6
  have e1:∀ j,j<k->(scl (f j) (Bc f k:Int):Rat)=f j*((Bc f k:Int):Rat):=fun j hj=>A9s (Int.natCast_dvd_natCast.2 (Yr f k j hj))
  have e2:∀ j,j<k->(scl (f2 j) (Bc f2 k:Int):Rat)=f2 j*((Bc f2 k:Int):Rat):=fun j hj=>A9s (Int.natCast_dvd_natCast.2 (Yr f2 k j hj))
  have es:=C0x e1 e2 k (C5h _)
  have hp1:=Yq f k
  have hp2:=Yq f2 k
  have hne:((Bc f k:Int)*(Bc f2 k:Int))≠0:=Int.mul_ne_zero (by omega) (by omega)
  have zb:ZB (2*(1+k*m+m)+14) (smZ (fun j=>scl (f j) (Bc f k:Int)) (fun j=>scl (f2 j) (Bc f2 k:Int)) k):=C0w hx hy (by omega)
  refine T7 (m:=2*(1+k*m+m)+14) (gl.mono l06).tz (z5.mono l6) z6 zb ((hd1.mul hd2).mono (by omega)) (by omega) ?_
  intro q h7 l7 i7
  refine ⟨_,_,_,_,_,_,_,_,rfl,l7,hK q h7 (B0 l06 l7) ?_⟩
  have:C6q (smZ (fun j=>scl (f j) (Bc f k:Int)) (fun j=>scl (f2 j) (Bc f2 k:Int)) k) ((Bc f k:Int)*(Bc f2 k:Int))=sm k (fun j=>f j*f2 j):=by
   rw [C6n,es]
   exact Rat.mul_div_cancel (I9 hne)
  rw [this] at i7
  exact i7
end
theorem B4a:prog.cellsOf Ku=1/\(prog.info? Ku).isSome=true:=by constructor<;>kernel_rfl
section
variable {h:Heap} {K:VP} {A:Option Addr} {cap m rows cols:Nat} {E:Nat->Rat}
theorem Pq(gl:Gl h)(r:RowV RQr h A (rows*cols) E)(hcap:rows*cols<=cap)(hr2:rows<=10000)(hc:1<=cols)(hc2:cols<=10000)(hs:∀ i,i<rows*cols->Sz m (E i))(hm:1+cols*m+m<=6400000000)
 (hK:∀ A' c' h',h.le h'->RowV (VQr cols) h' A' rows (A1b E cols)->K (.slice A' rows c') h'):FCall prog Iv #[.slice A (rows*cols) cap,I (cols:Int)] h K:=by
 refine A54 _ _ _ _ ?_
 unfold A6u
 have hrc:rows*cols<=100000000:=by
  have:rows*cols<=10000*10000:=C5y hr2 hc2
  omega
 refine Fz (z:=.slice none 0 0) (by kernel_rfl) ?_
 intro bp hbp
 refine ⟨_,rfl,?_⟩
 have s0:=(Sep.refl h).new hbp (.cells #[.slice none 0 0] Ku)
 refine s0.call (Wr hc ?_)
 intro v g0 l0 ic hp3 s3
 have bound:∀ k,k<rows->∀ j,j<cols->Sz m (E (k*cols+j)):=fun k hk j hj=>hs _ (O6 hk hj)
 refine ⟨_,rfl,Se ic hc (by omega) hcap (fun k hp=>∃ (g1 o1:Heap) (vs:List VV) (A1:Option Addr) (c1:Nat),g0.le g1/\Sep hp g1 o1/\(∃ e,o1 bp=some (.cells #[.slice A1 k c1] e))/\OwnSl o1 Vy A1 c1 vs/\A1≠some ⟨bp,0,none⟩/\vs.length=k/\Row (VQr cols) g1 vs k (A1b E cols)) ?_ ?_ ?_ ?_⟩
 ·exact ⟨g0,_,[],none,0,B4 _,s3,⟨_,C3 _ _ _⟩,OwnSl.nil,by simp,rfl,Row.nil⟩
 ·rintro k hp ⟨g1,o1,vs,A1,c1,lg,s1,_⟩
  exact B0 lg s1.le
 ·rintro k hp4 hkr ⟨g1,o1,vs,A1,c1,lg1,s4,⟨e,hbo⟩,ow,ha,hvl,rr⟩
  have bk:=bound k hkr
  have hkc:(k+1)*cols<=rows*cols:=C5j _ hkr
  have hk1:(k+1)*cols=k*cols+cols:=by rw [C6a,C6k]
  have lh1:=B0 l0 lg1
  have row0:RowV RQr h A ((k+1)*cols) E:=by
   have:=r.cut (c:=cap) (l:=0) (k:=(k+1)*cols) (by omega) hcap
   rw [I4] at this
   exact this.congr fun i _=>by rw [C60]
  have row1:RowV RQr h (L0 A ((k+1)*cols) (k*cols) 4) cols (A1b E cols k):=row0.cut (c:=(k+1)*cols) (l:=k*cols) (k:=cols) (by omega) (C5h _)
  have cp:hp4.cell? ⟨bp,0,none⟩=some (.slice A1 k c1):=s4.cell (by unfold Heap.cell?;simp only [hbo];rfl)
  refine ⟨_,_,_,rfl,_,_,_,cp,s4.call (A49 (gl.mono lh1) (row1.mono K7 lh1) (by omega) bk hm ?_)⟩
  intro w g2 l2 iw hp5 s5
  refine ⟨_,_,_,_,_,_,_,rfl,s4.le_le s5 l2,?_⟩
  subst hvl
  refine OwnSl.push (ty:=Ku) C38 s5 ow (y:=w) (v:=w.v) rfl (by decide) (by omega) (by omega) (K1:=fun hq=>hp5.le hq) (fun _ l=>l) ?_
  intro A3 c3 h6 g6 o6 l6 s6 ow6 kp
  have k2:=kp bp _ hbo ha
  show wpH _ (C66 _ (.pointer (some (C5k ⟨bp,0,none⟩ 0))) _) _ _
  refine A05 B4a rfl rfl s6 k2.1 (by simp) ?_
  intro h7 o7 s7 eo
  exact ⟨g6,o7,vs++[w],A3,c3,B0 lg1 (B0 l2 l6),s7,⟨e,by rw [eo,C3];simp⟩,ow6.keep fun b y hb he=>by rw [eo,B9 _ _ (fun e=>k2.2 (by rw [<- e];exact hb))];exact he,k2.2,by simp,by
   have:=(Row.push (rr.mono (A7p cols) (B0 l2 l6)) (A7p cols _ _ _ _ l6 iw))
   simpa using this⟩
 ·rintro hp4 ⟨g1,o1,vs,A1,c1,lg1,s4,⟨e,hbo⟩,ow,ha,hvl,rr⟩
  have cp:hp4.cell? ⟨bp,0,none⟩=some (.slice A1 rows c1):=s4.cell (by unfold Heap.cell?;simp only [hbo];rfl)
  exact ⟨_,_,_,cp,hK A1 c1 hp4 (B0 l0 (B0 lg1 s4.le)) ⟨vs,ow.slF s4.ole,hvl,rr.mono (A7p cols) s4.le⟩⟩
end
section
variable {h:Heap} {K:VP} {A B:Option Addr} {n n2 cap cap2 m:Nat} {r c r2 c2:Int} {la lb:Nat->List UInt8} {w:QV} {q:Rat}
end
section
variable {h:Heap} {K:VP} {A B:Option Addr} {n w cap cap2 m:Nat} {f f2:Nat->Rat} {R:Nat->Nat->Rat}
theorem B8b(hs:∀ i,i<w->Sz m (f i))(hs2:∀ i,i<w->Sz m (f2 i)):∀ k,k<=w->Sz (1+k*(2*m+1)) (sm k (fun j=>f j*f2 j)):=by
 intro k
 induction k with
 | zero=>intro _;exact Sz.zero (by omega)
 | succ k ih=>
  intro hk
  have h1:=ih (by omega)
  have h2:=(hs k (by omega)).mul (hs2 k (by omega))
  have e:1+(k+1)*(2*m+1)=1+k*(2*m+1)+(m+m)+1:=by rw [C6a];omega
  rw [e]
  exact h1.add h2
end
structure VOut where
 n:Nat
 f:Nat->List UInt8
 e:Int
section
variable {h:Heap} {K:VP} {A B:Option Addr} {n n2 cap cap2 m:Nat} {r c:Int} {la lx:Nat->List UInt8}
end
section
variable {h:Heap} {K:VP} {A B:Option Addr} {n n2 cap cap2 m:Nat} {r c:Int} {la lx:Nat->List UInt8}
theorem RowV.vat{w n:Nat}{f:Nat->Nat->Rat}(r:RowV (VQr w) h A n f){i:Nat}(hi:i<n):∃ a v,A=some a/\VQr w h v (f i)/\h.cell? (C5k (C5k a (i*3)) 0)=some (.slice v.A v.n v.c)/\h.cell? (C5k (C5k a (i*3)) 1)=some (.bool v.s)/\h.cell? (C5k (C5k a (i*3)) 2)=some (.slice v.B v.bn v.bc):=by
 obtain ⟨a,v,e,q,hc⟩:=RowV.at (by decide) r hi
 exact ⟨a,v,e,q,hc 0 _ rfl,hc 1 _ rfl,hc 2 _ rfl⟩
end
def MulO(r c:Int)(n:Nat)(la:Nat->List UInt8)(r2 c2:Int)(n2:Nat)(lb:Nat->List UInt8)(o:MOut):Prop:=
 (¬ (Mx r c n la/\Mx r2 c2 n2 lb)/\o=noM 1)\/(Mx r c n la/\Mx r2 c2 n2 lb/\c≠r2/\o=noM 4)\/(∃ rows mid cols,MOk r c n la rows mid/\MOk r2 c2 n2 lb mid cols/\o=⟨r,c2,rows*cols,fun k=>K8 (sm mid (fun j=>mtx (rvs la) mid (k/cols) j*mtx (rvs lb) cols j (k%cols))),0⟩)
theorem A7r{f f':Nat->Rat}: ∀ n,(∀ i,i<n->f i=f' i)->Bc f n=Bc f' n:=by
 intro n
 induction n with
 | zero=>intro _;rfl
 | succ n ih=>
  intro e
  show Nat.lcm (Bc f n) (f n).den=Nat.lcm (Bc f' n) (f' n).den
  rw [ih fun i hi=>e i (by omega),e n (by omega)]
theorem VQr.congr{h:Heap}{w:Nat}{v:VV}{f f':Nat->Rat}(x:VQr w h v f)(e:∀ i,i<w->f i=f' i):VQr w h v f':=by
 have hd:Bc f w=Bc f' w:=A7r w e
 obtain ⟨a,b,c⟩:=x
 rw [hd] at b c
 exact ⟨a,b,c.congr fun j hj=>by rw [e j hj]⟩
section
variable {h:Heap} {K:VP} {A B:Option Addr} {n n2 cap cap2 m:Nat} {r c r2 c2:Int} {la lb:Nat->List UInt8} {E:Nat->Rat}
theorem Yn{rows cols:Nat}(rv':RowV RQr h A (rows*cols) E)(hr:rows<=10000)(hc:cols<=10000)
 (hK:∀ A' c' h' g' o' xs,h.le g'->Sep h' g' o'->OwnSl o' H0 A' c' xs->xs.length=rows*cols->Row RQr g' xs (rows*cols) (fun k=>E (k%rows*cols+k/rows))->K (.slice A' (rows*cols) c') h'):FCall prog Bn #[.slice A (rows*cols) cap,I (rows:Int),I (cols:Int)] h K:=by
 refine Vs _ _ _ _ _ ?_
 unfold Uu
 have hrc:rows*cols<=10000*10000:=C5y hr hc
 refine S4 B6a (zx:=Jd) rfl (by omega) (by omega) (by omega) (by omega) ?_
 intro b hb
 simp only [C5l]
 refine ⟨_,_,_,rfl,fun L hp=>∃ (j:Nat) (g o:Heap) (xs:List QV) (A':Option Addr) (c':Nat),j<=cols/\L=[.slice A' (j*rows) c',I (j:Int)]/\h.le g/\Sep hp g o/\OwnSl o H0 A' c' xs/\xs.length=j*rows/\Row RQr g xs (j*rows) (fun k=>E (k%rows*cols+k/rows)),fun L _=>cols-(iAt L 1).toNat,
  ⟨0,h,Dw.put b _,[],some ⟨b,0,none⟩,rows*cols,by omega,by rw [C6c];rfl,B4 _,En hb,Pj,by simp,by rw [C6c];exact Row.nil⟩,?_⟩
 rintro rA rn rc z hp ⟨j,g,o,xs,A',c',hj,eL,lg,s,ow,hxl,rr⟩
 obtain ⟨⟨rfl,rfl,rfl⟩,rfl⟩:=sI2 eL
 refine B6 (fun hlt=>?_) (fun hge=>?_)
 ·have hjc:j<cols:=by omega
  have hj1:(j+1)*rows=j*rows+rows:=by rw [C6a,C6k]
  have hjr:(j+1)*rows<=cols*rows:=C5j _ hjc
  rw [C5r cols rows] at hjr
  refine ⟨fun L hp=>∃ (i:Nat) (g o:Heap) (xs:List QV) (A':Option Addr) (c':Nat),i<=rows/\L=[.slice A' (j*rows+i) c',I (i:Int)]/\h.le g/\Sep hp g o/\OwnSl o H0 A' c' xs/\xs.length=j*rows+i/\Row RQr g xs (j*rows+i) (fun k=>E (k%rows*cols+k/rows)),fun L _=>rows-(iAt L 1).toNat,
   ⟨0,g,o,xs,rA,rc,by omega,rfl,lg,s,ow,hxl,rr⟩,?_⟩
  rintro qA qn qc z hp2 ⟨i,g2,o2,ys,A2,c2,hi,eL,lg2,s2,ow2,hyl,rr2⟩
  obtain ⟨⟨rfl,rfl,rfl⟩,rfl⟩:=sI2 eL
  refine B6 (fun hlt2=>?_) (fun hge2=>?_)
  ·have hir:i<rows:=by omega
   have hidx:=O6 hir hjc
   have ew:B5 (B5 ((i:Int)*(cols:Int))+(j:Int))=((i*cols+j:Nat):Int):=by
    rw [<- C5t,O9 (by omega)]
    exact O9 (n:=i*cols+j) (by omega)
   rw [ew]
   obtain ⟨a,w,ea,iw,c0,c1,c2',c3⟩:=(rv'.mono K7 lg2).qat hidx
   refine ⟨a,ea,by omega,by omega,_,_,_,_,_,_,_,_,B8 s2.le c0,B8 s2.le c1,B8 s2.le c2',B8 s2.le c3,?_⟩
   refine T0 (ty:=V4) B6a s2 ow2 hyl.symm (y:=w) rfl (by decide) (by rw [hyl];omega) (by rw [hyl];omega) ?_
   intro A3 c3 h3 g3 o3 l3 s3 ow3 _
   rw [hyl,wiS i (by omega)]
   refine ⟨⟨i+1,g3,o3,_,A3,c3,by omega,by rw [C6l],B0 lg2 l3,s3,ow3,by rw [C5i,hyl];rfl,?_⟩,?_⟩
   ·have rB:=Row.push (R:=RQr) (g:=g3) (xs:=ys) (f:=fun k=>E (k%rows*cols+k/rows)) (by rw [hyl];exact rr2.mono K7 l3) (w:=w) (by
     show RQ g3 w (E (ys.length%rows*cols+ys.length/rows))
     rw [hyl,C67 (j*rows) i,C5q,C5w hir,C5u _ _ (by omega),C5x hir,C60]
     exact K7 _ _ _ _ l3 iw)
    rw [C5i,hyl] at rB
    exact rB
   ·show rows-((i+1:Nat):Int).toNat<rows-(i:Int).toNat
    omega
  ·have:i=rows:=by omega
   subst this
   rw [wiS j (by omega),<- hj1]
   rw [<- hj1] at hyl rr2
   refine ⟨⟨j+1,g2,o2,ys,qA,qc,by omega,rfl,lg2,s2,ow2,hyl,rr2⟩,?_⟩
   show cols-((j+1:Nat):Int).toNat<cols-(j:Int).toNat
   omega
 ·have:j=cols:=by omega
  subst this
  rw [C5r j rows] at hxl rr ⊢
  exact hK rA rc hp g o xs lg s ow hxl rr
theorem A1q{rows cols:Nat}(rv':RowV RQr h A (rows*cols) E)(hr:rows<=10000)(hc:cols<=10000)
 (hK:∀ A' c' h',h.le h'->rows*cols<=c'->RowV RQr h' A' (rows*cols) (fun k=>E (k%rows*cols+k/rows))->K (.slice A' (rows*cols) c') h'):FCall prog Bn #[.slice A (rows*cols) cap,I (rows:Int),I (cols:Int)] h K:=
 Yn rv' hr hc fun A' c' h' _ _ xs lg s ow hxl rr=>hK A' c' h' (B0 lg s.le) (by have:=ow.1;omega) ⟨xs,ow.slF s.ole,hxl,rr.mono K7 s.le⟩
theorem Wk{d:Nat}(gl:Gl h)(ra:RowV SSr h A n la)(rb:RowV SSr h B n2 lb)(hn:n<=1000000)(hn2:n2<=1000000)(hl:∀ i,i<n->(la i).length<=100000000)(hl2:∀ i,i<n2->(lb i).length<=100000000)(hs:∀ i,i<n->Sz m (rv (la i)))(hs2:∀ i,i<n2->Sz m (rv (lb i)))(hm1:1<=m)(hd:∀ rows mid,MOk r c n la rows mid->mid<=d)(hm:2*(1+d*(2*m+1)+2*m)+14<=40000000)
 (hK:∀ o,MulO r c n la r2 c2 n2 lb o->∀ A' cap' h',h.le h'->RowV SSr h' A' o.n o.f->K (.tuple #[A1s o.r o.c A' o.n cap',I o.e]) h'):FCall prog A69 #[A1s r c A n cap,A1s r2 c2 B n2 cap2] h K:=by
 refine C03 _ _ _ _ _ _ _ _ _ _ ?_
 unfold C52
 have bad:¬ (Mx r c n la/\Mx r2 c2 n2 lb)->∀ h',h.le h'->K (.tuple #[A1s 0 0 none 0 0,I 1]) h':=fun hx h' l=>hK (noM 1) (.inl ⟨hx,rfl⟩) none 0 h' l RowV.nil
 refine Dx gl ra hn hl (fun rows mid mk b1 h1 own=>?_) (fun hno h1 l1=>⟨_,_,_,_,rfl,?_⟩)
 ·have l1:=own.le
  refine ⟨_,_,_,_,rfl,Dx (gl.mono l1) (rb.mono Z9 l1) hn2 hl2 (fun mid2 cols mk2 b2 h2 own2=>⟨_,_,_,_,rfl,Br.nt (Br.nt ?_)⟩) (fun hno h2 l2=>⟨_,_,_,_,rfl,Br.nt (C06 (bad (fun x=>hno x.2) h2 (B0 l1 l2)))⟩)⟩
  have l2:=own2.le
  have lh2:=B0 l1 l2
  refine N7 (fun e=>hK (noM 4) (.inr (.inl ⟨⟨_,_,mk⟩,⟨_,_,mk2⟩,e,rfl⟩)) none 0 h2 lh2 RowV.nil) (fun e=>?_)
  obtain rfl:mid2=mid:=by have:=mk.ec;have:=mk2.er;omega
  have good:=hK _ (.inr (.inr ⟨rows,mid2,cols,mk,mk2,rfl⟩))
  have:=mk.r1;have:=mk.r2;have:=mk.c1;have:=mk.c2;have:=mk2.c1;have:=mk2.c2
  obtain ⟨rfl,rfl,_,_,_,_,rfl,_⟩:=id mk
  obtain ⟨rfl,rfl,_,_,_,_,rfl,_⟩:=id mk2
  clear e
  have ms:=B6j hs
  have ms2:=B6j hs2
  have hdm:=hd _ _ mk
  have hkm:mid2*(2*m+1)<=d*(2*m+1):=C5j _ hdm
  have hkm2:mid2*m<=d*m:=C5j _ hdm
  have hkm3:d*(2*m+1)=2*(d*m)+d:=by rw [Nat.mul_add,Nat.mul_one,Nat.mul_left_comm]
  have hrc:rows*cols<=64*64:=C5y (by omega) (by omega)
  refine Pq (m:=m) (gl.mono lh2) ((own.vis K7).mono K7 l2) (C5h _) (by omega) (by omega) (by omega) hs (by omega) ?_
  intro A3 c3 h3 l3 rv3
  refine ⟨_,_,_,rfl,?_⟩
  refine A1q ((own2.vis K7).mono K7 l3) (by omega) (by omega) ?_
  intro A4 c4 h4 l4 hc4 rv4
  refine ⟨_,_,_,rfl,l4,?_⟩
  have lh4:=B0 lh2 (B0 l3 l4)
  rw [C5r mid2 cols] at rv4 hc4 ⊢
  refine Pq (m:=m) (gl.mono lh4) rv4 hc4 (by omega) (by omega) (by omega) (fun i hi=>?_) (by omega) ?_
  ·have hi2:i/mid2<cols:=C5p (by rw [C5r];exact hi)
   exact hs2 _ (O6 (C6d i (show 0<mid2 by omega)) hi2)
  intro A5 c5 h5 l5 rv5'
  have rv5:RowV (VQr mid2) h5 A5 cols (fun j i=>mtx (rvs lb) cols i j):=by
   obtain ⟨vs,sv,el,rr⟩:=rv5'
   refine ⟨vs,sv,el,fun j hj=>?_⟩
   obtain ⟨w,e1,hw⟩:=rr j hj
   refine ⟨w,e1,?_⟩
   have:=VQr.congr (f':=fun i=>mtx (rvs lb) cols i j) hw fun i hi=>?_
   ·exact this
   ·show rvs lb ((j*mid2+i)%mid2*cols+(j*mid2+i)/mid2)=rvs lb (i*cols+j)
    rw [C67 (j*mid2) i,C5q,C5w hi,C5u _ _ (by omega),C5x hi,C60]
  clear rv5'
  refine ⟨_,_,_,rfl,l5,?_⟩
  have lh5:=B0 lh4 l5
  have l35:=B0 l4 l5
  have ewm:B5 ((rows:Int)*(cols:Int))=((rows*cols:Nat):Int):=by rw [<- C5t];exact O9 (by omega)
  rw [ewm]
  refine S4 B6a (zx:=Jd) rfl (by omega) (by omega) (by omega) (by omega) ?_
  intro b hb
  simp only [C5l]
  have sz:∀ i j,i<rows->j<cols->Sz (1+d*(2*m+1)) (sm mid2 (fun t=>mtx (rvs la) mid2 i t*mtx (rvs lb) cols t j)):=fun i j hi hj=>(B8b (f:=fun t=>mtx (rvs la) mid2 i t) (f2:=fun t=>mtx (rvs lb) cols t j) (fun t ht=>ms i t hi ht) (fun t ht=>ms2 t j ht hj) mid2 (C5h _)).mono (by omega)
  refine ⟨_,_,_,rfl,fun L hp=>∃ (k:Nat) (g o:Heap) (xs:List QV) (A':Option Addr) (c':Nat),k<=rows/\L=[.slice A' (k*cols) c',I (k:Int)]/\h5.le g/\Sep hp g o/\OwnSl o H0 A' c' xs/\xs.length=k*cols/\Row RQr g xs (k*cols) (fun k=>sm mid2 (fun j=>mtx (rvs la) mid2 (k/cols) j*mtx (rvs lb) cols j (k%cols))),fun L _=>rows-(iAt L 1).toNat,
   ⟨0,h5,Dw.put b _,[],some ⟨b,0,none⟩,rows*cols,by omega,by rw [C6c];rfl,B4 _,En hb,Pj,by simp,by rw [C6c];exact Row.nil⟩,?_⟩
  rintro rA rn rc z hp ⟨k,g,o,xs,A',c',hk,eL,lg,s,ow,hxl,rr⟩
  obtain ⟨⟨rfl,rfl,rfl⟩,rfl⟩:=sI2 eL
  refine B6 (fun hlt=>?_) (fun hge=>?_)
  ·have hkr:k<rows:=by omega
   have hj1:(k+1)*cols=k*cols+cols:=by rw [C6a,C6k]
   have hjr:(k+1)*cols<=rows*cols:=C5j _ hkr
   obtain ⟨a,v,ea,iv,c0,c1,c2'⟩:=(rv3.mono (A7p mid2) (B0 l35 lg)).vat hkr
   refine ⟨a,ea,by omega,by omega,_,_,_,_,_,_,_,B8 s.le c0,B8 s.le c1,B8 s.le c2',?_⟩
   refine ⟨fun L hp=>∃ (j:Nat) (g' o:Heap) (xs:List QV) (A':Option Addr) (c':Nat),j<=cols/\L=[.slice A' (k*cols+j) c',I (j:Int)]/\g.le g'/\Sep hp g' o/\OwnSl o H0 A' c' xs/\xs.length=k*cols+j/\Row RQr g' xs (k*cols+j) (fun k=>sm mid2 (fun j=>mtx (rvs la) mid2 (k/cols) j*mtx (rvs lb) cols j (k%cols))),fun L _=>cols-(iAt L 1).toNat,
    ⟨0,g,o,xs,rA,rc,by omega,rfl,B4 _,s,ow,hxl,rr⟩,?_⟩
   rintro qA qn qc z hp2 ⟨j,g2,o2,ys,A2,c2,hj,eL,lg2,s2,ow2,hyl,rr2⟩
   obtain ⟨⟨rfl,rfl,rfl⟩,rfl⟩:=sI2 eL
   refine B6 (fun hlt2=>?_) (fun hge2=>?_)
   ·have hjc:j<cols:=by omega
    obtain ⟨a6,u,ea6,iu,d0,d1,d2⟩:=(rv5.mono (A7p mid2) (B0 lg lg2)).vat hjc
    refine ⟨a6,ea6,by omega,by omega,_,_,_,_,_,_,_,B8 s2.le d0,B8 s2.le d1,B8 s2.le d2,?_⟩
    refine s2.call (A75 (m:=m) (v:=v) (u:=u) (gl.mono (B0 lh5 (B0 lg lg2))) (A7p mid2 _ _ _ _ lg2 iv) iu (by omega) (fun t ht=>ms k t hkr ht) (fun t ht=>ms2 t j ht hjc) hm1 (by omega) ?_)
    intro q g7 l7 iq h7 s7
    refine ⟨_,_,_,_,_,_,_,_,rfl,?_⟩
    refine T0 (ty:=V4) B6a s7 ow2 hyl.symm (y:=q) rfl (by decide) (by rw [hyl];omega) (by rw [hyl];omega) ?_
    intro A8 c8 h8 g8 o8 l8 s8 ow8 _
    rw [hyl,wiS j (by omega)]
    refine ⟨⟨j+1,g8,o8,_,A8,c8,by omega,by rw [C6l],B0 lg2 (B0 l7 l8),s8,ow8,by rw [C5i,hyl];rfl,?_⟩,?_⟩
    ·have rB:=Row.push (R:=RQr) (g:=g8) (xs:=ys) (f:=fun k=>sm mid2 (fun j=>mtx (rvs la) mid2 (k/cols) j*mtx (rvs lb) cols j (k%cols))) (by rw [hyl];exact rr2.mono K7 (B0 l7 l8)) (w:=q) (by
      show RQ g8 q (sm mid2 (fun t=>mtx (rvs la) mid2 (ys.length/cols) t*mtx (rvs lb) cols t (ys.length%cols)))
      rw [hyl,C67 (k*cols) j,C5q,C5w hjc,C5u _ _ (by omega),C5x hjc,C60]
      exact K7 _ _ _ _ l8 iq)
     rw [C5i,hyl] at rB
     exact rB
    ·show cols-((j+1:Nat):Int).toNat<cols-(j:Int).toNat
     omega
   ·have:j=cols:=by omega
    subst this
    rw [wiS k (by omega),<- hj1]
    rw [<- hj1] at hyl rr2
    refine ⟨⟨k+1,g2,o2,ys,qA,qc,by omega,rfl,B0 lg lg2,s2,ow2,hyl,rr2⟩,?_⟩
    show rows-((k+1:Nat):Int).toNat<rows-(k:Int).toNat
    omega
  ·have:k=rows:=by omega
   subst this
   have lh6:=B0 lh5 (B0 lg s.le)
   have rq:RowV RQr hp rA (k*cols) (fun t=>sm mid2 (fun j=>mtx (rvs la) mid2 (t/cols) j*mtx (rvs lb) cols j (t%cols))):=⟨xs,ow.slF s.ole,hxl,rr.mono K7 s.le⟩
   refine A4a (m:=1+d*(2*m+1)) (gl.mono lh6) rq (by omega) (fun t ht=>?_) (by omega) ?_
   ·exact sz _ _ (C5p (by rw [C5r];exact ht)) (C6d t (show 0<cols by omega))
   intro b9 h9 own9
   exact ⟨_,_,_,_,_,rfl,good _ _ h9 (B0 lh6 own9.le) (own9.vis Z9)⟩
 ·refine Dx (gl.mono l1) (rb.mono Z9 l1) hn2 hl2 (fun mid2 cols mk2 b2 h2 own2=>⟨_,_,_,_,rfl,C06 (bad (fun x=>hno x.1) h2 (B0 l1 own2.le))⟩) (fun _ h2 l2=>⟨_,_,_,_,rfl,C06 (bad (fun x=>hno x.1) h2 (B0 l1 l2))⟩)
end
def Fd(P Q:Nat->Nat->Rat)(w i k j:Nat):Nat->Nat->Rat:=fun a b=>if a<i then sm w (fun t=>P a t*Q t b) else if a=i then (if b<j then sm (k+1) (fun t=>P a t*Q t b) else sm k (fun t=>P a t*Q t b)) else 0
theorem A46(P Q:Nat->Nat->Rat)(w a b:Nat):Fd P Q w 0 0 0 a b=0:=by
 unfold Fd
 rw [if_neg (C69 a),if_neg (C69 b)]
 split<;>rfl
theorem A7k(P Q:Nat->Nat->Rat)(w i k j a b:Nat):B84 (Fd P Q w i k j) i j (sm k (fun t=>P i t*Q t j)+P i k*Q k j) a b=Fd P Q w i k (j+1) a b:=by
 unfold B84 Fd
 by_cases e:a=i/\b=j
 ·obtain ⟨rfl,rfl⟩:=e
  rw [if_pos ⟨rfl,rfl⟩,if_neg (C6e a),if_pos rfl,if_pos (Nat.lt_succ_self b)]
  rfl
 ·rw [if_neg e]
  by_cases h1:a<i
  ·rw [if_pos h1,if_pos h1]
  ·rw [if_neg h1,if_neg h1]
   by_cases h2:a=i
   ·rw [if_pos h2,if_pos h2]
    by_cases h3:b<j
    ·rw [if_pos h3,if_pos (by omega)]
    ·rw [if_neg h3,if_neg (by omega)]
   ·rw [if_neg h2,if_neg h2]
theorem A7l(P Q:Nat->Nat->Rat){w i k j c:Nat}(h:j=c\/P i k=0){a b:Nat}(hb:b<c):Fd P Q w i k j a b=Fd P Q w i (k+1) 0 a b:=by
 unfold Fd
 by_cases h1:a<i
 ·rw [if_pos h1,if_pos h1]
 ·rw [if_neg h1,if_neg h1]
  by_cases h2:a=i
  ·subst h2
   rw [if_pos rfl,if_pos rfl,if_neg (C69 b)]
   by_cases h3:b<j
   ·rw [if_pos h3]
   ·rw [if_neg h3]
    rcases h with h|h
    ·omega
    ·show _=sm k (fun t=>P a t*Q t b)+P a k*Q k b
     rw [h,C5v,C5n]
  ·rw [if_neg h2,if_neg h2]
theorem B03(P Q:Nat->Nat->Rat)(w i a b:Nat):Fd P Q w i w 0 a b=Fd P Q w (i+1) 0 0 a b:=by
 unfold Fd
 by_cases h1:a<i
 ·rw [if_pos h1,if_pos (by omega)]
 ·rw [if_neg h1]
  by_cases h2:a=i
  ·rw [if_pos h2,if_neg (C69 b),if_pos (by omega)]
  ·rw [if_neg h2,if_neg (by omega)]
   split
   ·rw [if_neg (C69 b)];rfl
   ·rfl
section
variable {h:Heap} {K:VP} {A B:Option Addr} {n n2 cap cap2 m w cols:Nat} {r c r2 c2:Int} {la lb:Nat->List UInt8} {P Q:Nat->Nat->Rat}
theorem A23(ra:RowsV h A n w P)(rb:RowsV h B w cols Q)(hn1:1<=n)(hn:n<=10000)(hw1:1<=w)(hw:w<=10000)(hc1:1<=cols)(hc:cols<=10000)(hs:∀ i j,i<n->j<w->Sz m (P i j))(hs2:∀ i j,i<w->j<cols->Sz m (Q i j))(hm:1+w*(2*m+1)+2*m<=400000000)
 (hK:∀ h' g' o' bo rb,h.le g'->Mt h' g' o' bo rb n cols (fun a b=>sm w (fun t=>P a t*Q t b))->K (.slice (some ⟨bo,0,none⟩) n n) h'):FCall prog Zm #[.slice A n cap,.slice B w cap2] h K:=by
 refine B3d _ _ _ _ _ _ ?_
 unfold B7v
 obtain ⟨aB,sB,eB,fB1,fB2,hcB,_⟩:=rb.at (i:=0) (by omega)
 refine ⟨aB,eB,by omega,by omega,_,_,_,hcB,?_⟩
 rw [fB1]
 refine Sy hn hc ?_
 intro h1 g1 o1 bo rbo l1 t1
 refine ⟨_,_,_,rfl,fun L hp=>∃ (i:Nat) (g o:Heap),i<=n/\L=[I (i:Int)]/\h.le g/\Mt hp g o bo rbo n cols (Fd P Q w i 0 0),fun L _=>n-(iAt L 0).toNat,⟨0,g1,o1,by omega,rfl,l1,t1.congr fun a b _ _=>(A46 P Q w a b).symm⟩,?_⟩
 rintro z hp ⟨i,g,o,hi,eL,lg,t⟩
 obtain rfl:=sI1 eL
 refine B6 (fun hlt=>?_) (fun hge=>?_)
 ·have hin:i<n:=by omega
  obtain ⟨a1,s1,ea1,f1,f2,hc1,row1⟩:=ra.at hin
  refine ⟨fun L hp=>∃ (k:Nat) (g o:Heap),k<=w/\L=[I (k:Int)]/\h.le g/\Mt hp g o bo rbo n cols (Fd P Q w i k 0),fun L _=>w-(iAt L 0).toNat,⟨0,g,o,by omega,rfl,lg,t⟩,?_⟩
  rintro z hp2 ⟨k,g2,o2,hk,eL2,lg2,t2⟩
  obtain rfl:=sI1 eL2
  refine B6 (fun hlt2=>?_) (fun hge2=>?_)
  ·have hkw:k<w:=by omega
   obtain ⟨a2,s2,ea2,f3,f4,hc2,row2⟩:=rb.at hkw
   refine ⟨fun L hp=>∃ (j:Nat) (g o:Heap),j<=cols/\L=[I (j:Int)]/\h.le g/\Mt hp g o bo rbo n cols (Fd P Q w i k j),fun L _=>cols-(iAt L 0).toNat,⟨0,g2,o2,by omega,rfl,lg2,t2⟩,?_⟩
   rintro z hp3 ⟨j,g3,o3,hj,eL3,lg3,t3⟩
   obtain rfl:=sI1 eL3
   have lhp:=B0 lg3 t3.sep.le
   have next:(j=cols\/P i k=0)->((∃ (k':Nat) (g o:Heap),k'<=w/\[I (B5 ((k:Int)+1))]=[I (k':Int)]/\h.le g/\Mt hp3 g o bo rbo n cols (Fd P Q w i k' 0))/\w-(iAt [I (B5 ((k:Int)+1))] 0).toNat<w-(iAt [I (k:Int)] 0).toNat):=by
    intro hx
    rw [wiS k (by omega)]
    exact ⟨⟨k+1,g3,o3,by omega,rfl,lg3,t3.congr fun a b _ hb=>A7l P Q hx hb⟩,by simp only [Ea];omega⟩
   refine ⟨aB,eB,by omega,by omega,_,_,_,B8 lhp hcB,?_⟩
   rw [fB1]
   refine B6 (fun hlt3=>?_) (fun hge3=>next (.inl (by omega)))
   have hjc:j<cols:=by omega
   obtain ⟨a5,w5,e5,n5,c0,c1,c2',c3⟩:=(row1.mono Sm lg3).qat hkw
   obtain ⟨a6,w6,e6,n6,d0,d1,d2,d3⟩:=(row2.mono Sm lg3).qat hjc
   obtain ⟨cc,hcc,hh⟩:=t3.head hin
   obtain ⟨x,ix,x0,x1,x2,x3⟩:=t3.elem hin hjc
   refine ⟨a1,ea1,by omega,by omega,_,_,_,B8 lhp hc1,a5,e5,by omega,by omega,_,_,_,_,_,_,_,_,B8 t3.sep.le c0,B8 t3.sep.le c1,B8 t3.sep.le c2',B8 t3.sep.le c3,?_⟩
   refine A7d (NQ.mono t3.sep.le n5) ⟨_,rfl,N7 (fun hne=>?_) (fun he=>next (.inr (by rw [Int.sign_eq_zero_iff_zero] at he;exact Rat.num_eq_zero.1 he)))⟩
   refine ⟨_,rfl,by omega,by omega,_,_,_,t3.sep.cell hh,_,rfl,by omega,by omega,_,_,_,t3.sep.cell hh,_,rfl,by omega,by omega,_,_,_,_,_,_,_,_,t3.sep.cell x0,t3.sep.cell x1,t3.sep.cell x2,t3.sep.cell x3,a1,ea1,by omega,by omega,_,_,_,B8 lhp hc1,a5,e5,by omega,by omega,_,_,_,_,_,_,_,_,B8 t3.sep.le c0,B8 t3.sep.le c1,B8 t3.sep.le c2',B8 t3.sep.le c3,a2,ea2,by omega,by omega,_,_,_,B8 lhp hc2,a6,e6,by omega,by omega,_,_,_,_,_,_,_,_,B8 t3.sep.le d0,B8 t3.sep.le d1,B8 t3.sep.le d2,B8 t3.sep.le d3,?_⟩
   refine t3.sep.call (A9x (a:=w5) (b:=w6) n5 n6 (hs i k hin hkw) (hs2 k j hkw hjc) (by omega) ?_)
   intro w7 g7 l7 i7 h7 s7
   refine ⟨_,_,_,_,_,_,_,_,rfl,t3.sep.le_le s7 l7,?_⟩
   have ev:Fd P Q w i k j i j=sm k (fun t=>P i t*Q t j):=by
    unfold Fd
    rw [if_neg (C6e i),if_pos rfl,if_neg (C6e j)]
   rw [ev] at ix
   have hkm:k*(2*m+1)<=w*(2*m+1):=C5j _ hk
   refine s7.call (A1f (a:=x) (b:=w7) (m:=1+k*(2*m+1)+2*m) (NQ.mono l7 ix) i7 ((B8b (f:=fun t=>P i t) (f2:=fun t=>Q t j) (fun t ht=>hs i t hin ht) (fun t ht=>hs2 t j ht hjc) k hk).mono (by omega)) (((hs i k hin hkw).mul (hs2 k j hkw hjc)).mono (by omega)) (by omega) ?_)
   intro w8 g8 l8 i8 h8 s8
   have t8:Mt h8 g8 o3 bo rbo n cols (Fd P Q w i k j):=t3.next s8 (B0 l7 l8)
   refine ⟨_,_,_,_,_,_,_,_,rfl,s7.le_le s8 l8,_,rfl,by omega,by omega,?_⟩
   refine t8.store hin hjc i8 ?_
   intro h9 o9 t9 _
   rw [wiS j (by omega)]
   exact ⟨⟨j+1,g8,o9,by omega,rfl,B0 lg3 (B0 l7 l8),t9.congr fun a b _ _=>A7k P Q w i k j a b⟩,by simp only [Ea];omega⟩
  ·have:k=w:=by omega
   subst this
   rw [wiS i (by omega)]
   exact ⟨⟨i+1,g2,o2,by omega,rfl,lg2,t2.congr fun a b _ _=>B03 P Q k i a b⟩,by simp only [Ea];omega⟩
 ·have:i=n:=by omega
  subst this
  exact hK hp g o bo rbo lg (t.congr fun a b ha _=>by unfold Fd;rw [if_pos ha])
end
def inR(bo:Nat)(rb:Nat->Nat)(n x:Nat):Prop:=x=bo\/∃ i,i<n/\x=rb i
section
variable {h:Heap} {K:VP} {n:Nat}
end
structure Gd (h g o:Heap) (ba:Nat) (ra:Nat->Nat) (bl:Nat) (rl:Nat->Nat) (n:Nat) (P L:Nat->Nat->Rat) (A:Option Addr) (c k:Nat) (D:Nat->Rat):Prop where
 a:Mt h g o ba ra n n P
 l:Mt h g o bl rl n n L
 d:∃ xs:List QV,OwnSl o V5 A c xs/\xs.length=k/\Row NQr g xs k D
 al:∀ x,inR ba ra n x->¬ inR bl rl n x
 ad:∀ x,A=some ⟨x,0,none⟩->¬ inR ba ra n x/\¬ inR bl rl n x
section
variable {h g o:Heap} {ba bl n c k:Nat} {ra rl:Nat->Nat} {P L:Nat->Nat->Rat} {A:Option Addr} {D:Nat->Rat}
end
section
variable {h:Heap} {K:VP} {A:Option Addr} {n cap Q:Nat} {E:Nat->Rat}
end
end Go.Proofs.YtajkakhfcokljaaGreatDoor
namespace Go.Proofs.YtajkakhfcokljaaGreatDoor
set_option maxRecDepth 20000
structure LUS where
 R:Nat->Nat->Rat
 L:Nat->Nat->Rat
 p:Nat->Nat
def C10(n c:Nat)(s:LUS):Nat:=fnd (fun i=>decide (s.R i c≠0)) (n-c) c
def C3b(R:Nat->Nat->Rat)(c:Nat):Nat->Nat->Rat:=fun i j=>if i<=c\/j<c then R i j else R i j-R i c/R c c*R c j
def C3d(R L:Nat->Nat->Rat)(c:Nat):Nat->Nat->Rat:=fun i j=>if j=c then (if i=c then 1 else if c<i then R i c/R c c else 0) else L i j
def C3c(n c:Nat)(s:LUS):LUS:=
 { R:=C3b (fun i=>s.R (xch c (C10 n c s) i)) c
   L:=C3d (fun i=>s.R (xch c (C10 n c s) i)) (fun i=>s.L (xch c (C10 n c s) i)) c
   p:=fun i=>s.p (xch c (C10 n c s) i) }
def C3e(n:Nat)(M:Nat->Nat->Rat):Nat->LUS
 | 0=>⟨M,fun _ _=>0,fun i=>i⟩
 | c+1=>C3c n c (C3e n M c)
structure LuI (n c m:Nat) (M:Nat->Nat->Rat) (s:LUS):Prop where
 zero:∀ i j,i<n->c<=i->j<c->s.R i j=0
 lz:∀ i j,c<=j->s.L i j=0
 szR:∀ i j,i<n->j<n->Sz (7^c*m) (s.R i j)
 szL:∀ i j,i<n->j<n->Sz (7^c*m) (s.L i j)
 len:(Sa n ⟨M,[],1⟩ c).cs.length=c
 sync:∀ i j,i<n->c<=i->(Sa n ⟨M,[],1⟩ c).R i j=s.R i j
def inM(bo:Nat)(rb:Nat->Nat)(n x:Nat):Prop:=x=bo\/∃ i,i<n/\x=rb i
structure Lu3 (h g o:Heap) (bu:Nat) (ru:Nat->Nat) (bl:Nat) (rl:Nat->Nat) (bp n:Nat) (U L:Nat->Nat->Rat) (p:Nat->Nat):Prop where
 u:Mt h g o bu ru n n U
 l:Mt h g o bl rl n n L
 p:∃ ps:List Int,RowB o bp ps/\ps.length=n/\∀ i,i<n->ps[i]? = some ((p i:Nat):Int)
 ul:∀ x,inM bu ru n x->¬ inM bl rl n x
 pu:¬ inM bu ru n bp
 pl:¬ inM bl rl n bp
section
variable {h g o:Heap} {bu bl bp n:Nat} {ru rl:Nat->Nat} {U L:Nat->Nat->Rat} {p:Nat->Nat}
end
structure LOut where
 d:Int
 n:Nat
 q:Nat
 p:Nat->Nat
 l:Nat->List UInt8
 u:Nat->List UInt8
 e:Int
section
variable {h:Heap} {K:VP} {A:Option Addr} {n cap m:Nat} {r c:Int} {la:Nat->List UInt8}
end
def QM(g o:Heap)(b n:Nat)(L:Nat->Nat->Rat):Prop:=∃ xs:List QV,RowX o b xs/\xs.length=n*n/\∀ i j,i<n->j<n->∃ w,xs[i*n+j]? = some w/\RQ g w (L i j)
def inT(T:Tb)(x:Nat):Prop:=x=T.bt\/x=T.bE\/x=T.bS
section
variable {g o:Heap} {b n:Nat} {L:Nat->Nat->Rat}
end
structure LuT (h g o:Heap) (T:Tb) (M:Nat->Nat->Int) (S:Nat->Rat) (bp bl bu n:Nat) (p:Nat->Nat) (L U:Nat->Nat->Rat):Prop where
 t:Tab h g o T M S
 p:∃ ps:List Int,RowB o bp ps/\ps.length=n/\∀ i,i<n->ps[i]? = some ((p i:Nat):Int)
 l:QM g o bl n L
 u:QM g o bu n U
 tp:¬ inT T bp
 tl:¬ inT T bl
 tu:¬ inT T bu
 pl:bp≠bl
 pu:bp≠bu
 lu:bl≠bu
section
variable {h g o:Heap} {T:Tb} {M:Nat->Nat->Int} {S:Nat->Rat} {bp bl bu n:Nat} {p:Nat->Nat} {L U:Nat->Nat->Rat}
end
theorem fr2{l si ri sk rk:Rat}(hl:l≠0)(hi:si≠0)(hk:sk≠0):l*(si*ri)/(l*(sk*rk))*sk/si=ri/rk:=by
 have h1:=C65 _ hl
 have h2:=C65 _ hi
 have h3:=C65 _ hk
 rw [C6j,C6j,C6j,Rat.inv_mul_rev,Rat.inv_mul_rev]
 grind
structure LuF (E:Nat->Rat) (n k m:Nat):Prop where
 row:Qr n k (elP E n n k)=C10 n k (C3e n (mtx E n) k)
 val:∀ i j,i<n->k<=i->j<n->((elP E n n k).M i j:Rat)=(elP E n n k).last*((elP E n n k).S i*(C3e n (mtx E n) k).R i j)
 last:(elP E n n k).last≠0
 S:∀ i,i<n->(elP E n n k).S i≠0
 len:(elP E n n k).cs.length=k
 zM:∀ a b,a<n->b<n->ZB (3^k*bnd n m) ((elP E n n k).M a b)
 zl:ZB (3^k*bnd n m) (elP E n n k).last
 zS:∀ a,a<n->Sz (bnd n m) ((elP E n n k).S a)
section
variable {h:Heap} {K:VP} {A:Option Addr} {n cap m:Nat} {r c:Int} {la:Nat->List UInt8}
end
section
variable {h:Heap} {K:VP} {A B:Option Addr} {n n2 cap cap2 m:Nat} {r c r2 c2:Int} {la lb:Nat->List UInt8}
end
def Hb(la:Nat->List UInt8)(mid:Nat)(lb:Nat->List UInt8)(cols:Nat):Nat->List UInt8:=fun k=>K8 (sm mid (fun j=>mtx (rvs la) mid (k/cols) j*mtx (rvs lb) cols j (k%cols)))
def Xu(la:Nat->List UInt8)(rows cols:Nat):Nat->List UInt8:=fun k=>la (k%rows*cols+k/rows)
theorem A2a{i j c:Nat}(hj:j<c):(i*c+j)/c=i/\(i*c+j)%c=j:=by
 rw [C67,C5q,C5w hj,C5u _ _ (by omega),C5x hj,C60]
 exact ⟨rfl,rfl⟩
theorem A1h(la:Nat->List UInt8)(mid:Nat)(lb:Nat->List UInt8){cols i j:Nat}(hj:j<cols):mtx (rvs (Hb la mid lb cols)) cols i j=sm mid (fun t=>mtx (rvs la) mid i t*mtx (rvs lb) cols t j):=by
 obtain ⟨e1,e2⟩:=A2a (i:=i) hj
 show rv (K8 (sm mid (fun t=>mtx (rvs la) mid ((i*cols+j)/cols) t*mtx (rvs lb) cols t ((i*cols+j)%cols))))=_
 rw [Lj,e1,e2]
theorem A99(la:Nat->List UInt8){rows cols i j:Nat}(hj:j<rows):mtx (rvs (Xu la rows cols)) rows i j=mtx (rvs la) cols j i:=by
 obtain ⟨e1,e2⟩:=A2a (i:=i) hj
 show rv (la ((i*rows+j)%rows*cols+(i*rows+j)/rows))=_
 rw [e1,e2]
 rfl
section
variable {r c r2 c2:Int} {n n2 m rows mid mid2 cols:Nat} {la lb:Nat->List UInt8} {o:MOut}
theorem MOk.prod(ma:MOk r c n la rows mid)(mb:MOk r2 c2 n2 lb mid cols):MOk r c2 (rows*cols) (Hb la mid lb cols) rows cols:=⟨ma.er,mb.ec,ma.r1,ma.r2,mb.c1,mb.c2,rfl,fun _ _=>⟨_,rfl⟩⟩
theorem MOk.turn(ma:MOk r c n la rows cols):MOk c r n (Xu la rows cols) cols rows:=by
 refine ⟨ma.ec,ma.er,ma.c1,ma.c2,ma.r1,ma.r2,by rw [ma.len,C5r],fun i hi=>ma.num _ ?_⟩
 have e:=ma.len
 have hr:=ma.r1
 rw [e] at hi ⊢
 exact O6 (C6d i (by omega)) (C5p hi)
theorem MOk.uniq{rows2 cols2:Nat}(ma:MOk r c n la rows cols)(mb:MOk r c n la rows2 cols2):rows2=rows/\cols2=cols:=by
 have:=ma.er;have:=ma.ec;have:=mb.er;have:=mb.ec
 omega
theorem MulO.ok(ma:MOk r c n la rows mid)(mb:MOk r2 c2 n2 lb mid2 cols)(ho:MulO r c n la r2 c2 n2 lb o):(mid=mid2/\c=r2/\o=⟨r,c2,rows*cols,Hb la mid lb cols,0⟩)\/(mid≠mid2/\c≠r2/\o=noM 4):=by
 rcases ho with ⟨h1,_⟩|⟨_,_,h3,rfl⟩|⟨a1,b1,c1,h1,h2,rfl⟩
 ·exact absurd ⟨⟨_,_,ma⟩,⟨_,_,mb⟩⟩ h1
 ·exact .inr ⟨by rintro rfl;exact h3 (by rw [ma.ec,mb.er]),h3,rfl⟩
 ·obtain ⟨rfl,rfl⟩:=ma.uniq h1
  obtain ⟨rfl,rfl⟩:=mb.uniq h2
  exact .inl ⟨rfl,by rw [h1.ec,h2.er],rfl⟩
theorem Yi(ma:MOk r c n la rows mid)(mb:MOk r2 c2 n2 lb mid cols)(hs:∀ i,i<n->Sz m (rv (la i)))(hs2:∀ i,i<n2->Sz m (rv (lb i))):∀ i,i<rows*cols->Sz (1+mid*(2*m+1)) (rv (Hb la mid lb cols i)):=by
 intro i hi
 have hc:=mb.c1
 have hr:=ma.r1
 have e1:=ma.len
 have e2:=mb.len
 have h1:i/cols<rows:=C5p (by rw [C5r];exact hi)
 have h2:=C6d i (show 0<cols by omega)
 show Sz _ (rv (K8 _))
 rw [Lj]
 exact B8b (fun j hj=>hs _ (by rw [e1];exact O6 h1 hj)) (fun j hj=>hs2 _ (by rw [e2];exact O6 hj h2)) mid (C5h _)
theorem A1i(ma:MOk r c n la rows mid)(mb:MOk r2 c2 n2 lb mid cols)(hs:∀ i,i<n->Sz m (rv (la i)))(hs2:∀ i,i<n2->Sz m (rv (lb i))):∀ i,i<rows*cols->(Hb la mid lb cols i).length<=2*(1+mid*(2*m+1))+4:=by
 intro i hi
 have:=Yi ma mb hs hs2 i hi
 refine A5h ?_
 rw [<- Lj (sm mid (fun j=>mtx (rvs la) mid (i/cols) j*mtx (rvs lb) cols j (i%cols)))]
 exact this
end
def Ko(E:Nat->Rat)(n:Nat):Nat->Rat:=fun k=>if k%(n+n)<n then E (k/(n+n)*n+k%(n+n)) else if k%(n+n)=n+k/(n+n) then 1 else 0
theorem Xs(E:Nat->Rat){n i j:Nat}(hj:j<n+n):Ko E n (i*(n+n)+j)=if j<n then E (i*n+j) else if j=n+i then 1 else 0:=by
 have e1:(i*(n+n)+j)/(n+n)=i:=by rw [C67,C5u _ _ (by omega),C5x hj,C60]
 have e2:(i*(n+n)+j)%(n+n)=j:=by rw [C67,C5q,C5w hj]
 unfold Ko
 rw [e1,e2]
def C2f(E:Nat->Rat)(n:Nat):Prop:=(elE (Ko E n) n (n+n) n).cs.length=n
def C5a(E:Nat->Rat)(n:Nat):Nat->Nat->Rat:=fun i j=>(elE (Ko E n) n (n+n) n).R i (n+j)
section
variable {h:Heap} {K:VP} {A:Option Addr} {n cap m:Nat} {r c:Int} {la:Nat->List UInt8}
end
section
variable {h g o:Heap} {wA B:Option Addr} {wc be m d:Nat} {hd:List HV} {xs ys:List QV}
end
section
variable {h:Heap} {K:VP} {A B:Option Addr} {n cap m:Nat} {r c:Int} {la:Nat->List UInt8} {E:Nat->Rat}
end
theorem B9b{E:Nat->Rat}{n:Nat}:B72 E n≠0↔(elE E n n n).cs.length=n:=by
 have rel:=Tk E (rows:=n) (cols:=n) (C5h n)
 have hl:(elE E n n n).cs.length<=n:=(B94 (mtx E n) n n).1
 unfold B72
 by_cases h:(elE E n n n).cs.length<n
 ·rw [if_pos h]
  exact ⟨fun x=>absurd rfl x,fun x=>by omega⟩
 ·rw [if_neg h]
  have hn:(elE E n n n).cs.length=n:=by omega
  refine ⟨fun _=>hn,fun _ e=>?_⟩
  have hd:=rel.det hn
  rw [e,C5v] at hd
  have hne:=I9 rel.last
  rcases rel.sgn with s|s
  ·rw [s] at hd
   have:((1:Int):Rat)=1:=rfl
   rw [this,Rat.one_mul] at hd
   exact hne hd.symm
  ·rw [s] at hd
   have:((-1:Int):Rat)= -1:=by decide +kernel
   rw [this] at hd
   exact hne (by grind)
theorem A7c{n w:Nat}{M M':Nat->Nat->Rat}(h:∀ i j,j<w->M i j=M' i j):∀ c,c<=w->(Sa n ⟨M,[],1⟩ c).cs=(Sa n ⟨M',[],1⟩ c).cs/\∀ i j,j<w->(Sa n ⟨M,[],1⟩ c).R i j=(Sa n ⟨M',[],1⟩ c).R i j:=by
 intro c
 induction c with
 | zero=>exact fun _=>⟨rfl,h⟩
 | succ c ih=>
  intro hc
  obtain ⟨h1,h2⟩:=ih (by omega)
  have e1:Sa n ⟨M,[],1⟩ (c+1)=Jr n c (Sa n ⟨M,[],1⟩ c):=rfl
  have e2:Sa n ⟨M',[],1⟩ (c+1)=Jr n c (Sa n ⟨M',[],1⟩ c):=rfl
  rw [e1,e2]
  generalize Sa n ⟨M,[],1⟩ c=s at *
  generalize Sa n ⟨M',[],1⟩ c=t at *
  have hr:Oa n c s=Oa n c t:=by
   unfold Oa
   rw [h1]
   exact A25 _ _ fun j _ _=>by rw [h2 j c (by omega)]
  unfold Jr
  rw [hr,h1]
  by_cases a:t.cs.length<n
  ·rw [if_pos a,if_pos a]
   by_cases b:Oa n c t<n
   ·rw [if_pos b,if_pos b]
    refine ⟨rfl,fun i j hj=>?_⟩
    show Ae (fun i=>s.R (xch t.cs.length (Oa n c t) i)) t.cs.length c i j=Ae (fun i=>t.R (xch t.cs.length (Oa n c t) i)) t.cs.length c i j
    unfold Ae
    simp only [h2 _ c (show c<w by omega),h2 _ j hj]
   ·rw [if_neg b,if_neg b]
    exact ⟨rfl,h2⟩
  ·rw [if_neg a,if_neg a]
   exact ⟨h1,h2⟩
theorem B8u(E:Nat->Rat)(n:Nat):C2f E n↔B72 E n≠0:=by
 rw [B9b]
 have:=(A7c (n:=n) (w:=n) (M:=mtx (Ko E n) (n+n)) (M':=mtx E n) (fun i j hj=>by
  show Ko E n (i*(n+n)+j)=_
  rw [Xs E (by omega),if_pos hj]
  rfl) n (C5h n)).1
 show (Sa n ⟨mtx (Ko E n) (n+n),[],1⟩ n).cs.length=n↔(Sa n ⟨mtx E n,[],1⟩ n).cs.length=n
 rw [this]
theorem B5d{cs:List Nat}{n:Nat}(h:Asc cs n)(hl:cs.length=n){m:Nat}(hm:m<n):cs.getD m 0=m:=by
 have step:∀ c,Km cs (c+1)<=Km cs c+1:=fun c=>by
  show (if c∈cs then Km cs c+1 else Km cs c)<=_
  split<;>omega
 have grow:∀ c j,Km cs (c+j)<=Km cs c+j:=by
  intro c j
  induction j with
  | zero=>exact C5h _
  | succ j ih=>have:=step (c+j);rw [<- C6l];omega
 have all:=B4m h
 have eq:∀ c,c<=n->Km cs c=c:=fun c hc=>by
  have h1:=A7v cs c
  have h2:=grow c (n-c)
  rw [show c+(n-c)=n by omega,all,hl] at h2
  omega
 have hin:m∈cs:=by
  refine C5m fun hno=>?_
  have h1:=B4l hno
  rw [eq m (by omega),eq (m+1) (by omega)] at h1
  omega
 obtain ⟨hk,e⟩:=(B8o h.asc m).1 hin
 have hp:=eq m (by omega)
 rw [C61,C64 (by omega)]
 simp only [hp] at e
 exact e
theorem B8t{E:Nat->Rat}{n:Nat}(h:C2f E n){i j:Nat}(hi:i<n)(hj:j<n):sm n (fun t=>mtx E n i t*C5a E n t j)=if i=j then 1 else 0:=by
 have eq:=EqA.run (n:=n) (w:=n+n) (mtx (Ko E n) (n+n)) n (by omega)
 have asc:=B4h n ⟨mtx (Ko E n) (n+n),[],1⟩ rfl n
 have hl:(Sa n ⟨mtx (Ko E n) (n+n),[],1⟩ n).cs.length=n:=h
 have hM:∀ a b,b<n->mtx (Ko E n) (n+n) a b=mtx E n a b:=fun a b hb=>by
  show Ko E n (a*(n+n)+b)=_
  rw [Xs E (by omega),if_pos hb]
  rfl
 have hM2:mtx (Ko E n) (n+n) i (n+j)=if i=j then 1 else 0:=by
  show Ko E n (i*(n+n)+(n+j))=_
  rw [Xs E (by omega),if_neg (show ¬ n+j<n by omega)]
  by_cases e:i=j
  ·rw [if_pos e,if_pos (by omega)]
  ·rw [if_neg e,if_neg (by omega)]
 obtain ⟨B,El,hB,_⟩:=eq.elim
 obtain ⟨i',hi',e⟩:=hB i hi
 have top:=El.top i' (n+j) (by rw [hl];exact hi') (by omega)
 rw [hl,e,hM2] at top
 rw [top]
 refine C6 fun t ht=>?_
 rw [B5d asc hl ht,e,hM i t ht]
 rfl
section
variable {h:Heap} {K:VP} {A:Option Addr} {n ac N cap:Nat} {r c:Int} {la:Nat->List UInt8}
end
section
variable {h:Heap} {A:Option Addr} {n cap:Nat} {r c:Int} {ls:Nat->List UInt8}
end
theorem B4z{M:Nat->Nat->Rat}{q:Nat}{r:Int}(hr:r=q)(h1:1<=q)(h2:q<=64):MOk r r (q*q) (Mc M q) q q:=⟨hr,hr,h1,h2,h1,h2,rfl,fun _ _=>⟨_,rfl⟩⟩
theorem B4y{M:Nat->Nat->Rat}{q m:Nat}(hq:1<=q)(hs:∀ i j,i<q->j<q->Sz m (M i j)):∀ i,i<q*q->Sz m (rv (Mc M q i)):=by
 intro i hi
 show Sz m (rv (K8 _))
 rw [Lj]
 exact hs _ _ (C5p hi) (C6d i (by omega))
theorem B0x{M:Nat->Nat->Rat}{q m:Nat}(hq:1<=q)(hs:∀ i j,i<q->j<q->Sz m (M i j)):∀ i,i<q*q->(Mc M q i).length<=2*m+4:=by
 intro i hi
 exact A5h (hs _ _ (C5p hi) (C6d i (by omega)))
theorem eq0{d:Rat}:(ByteArray.toList (bs (K8 d))==ByteArray.toList ({ data:=#[48] }:ByteArray))=decide (d=0):=by
 have h1:({ data:=#[48] }:ByteArray)=bs (K8 0):=by rw [Kx];rfl
 rw [h1,Nk]
 by_cases h:d=0
 ·rw [h];simp
 ·rw [decide_eq_false h]
  exact decide_eq_false fun e=>h (B3x e)
section
variable {h:Heap} {K:VP} {A:Option Addr} {n cap m:Nat} {r c:Int} {la:Nat->List UInt8}
end
def bvF(ls:Nat->List UInt8)(ln:Nat):Nat->Rat:=fun t=>if t<ln then rv (ls t) else 0
def C0a(E:Nat->Rat)(q:Nat):Nat->Nat->Rat:=fun a b=>sm q fun t=>mtx E q t a*mtx E q t b
def A79(ls:Nat->List UInt8)(ln:Nat)(cs:Nat->List UInt8)(cn q:Nat):Nat->Nat->Rat:=fun a b=>C0a (bvF ls ln) q a b-if a=b/\a<cn then rv (cs a) else 0
theorem A9l(ls:Nat->List UInt8)(ln:Nat)(cs:Nat->List UInt8)(cn q a b:Nat):A79 ls ln cs cn q a b=A79 ls ln cs cn q b a:=by
 unfold A79 C0a
 rw [C6 fun t _=>C6o _ _]
 congr 1
 by_cases e:a=b
 ·rw [e]
 ·rw [if_neg (fun x=>e x.1),if_neg (fun x=>e x.1.symm)]
theorem C0v{w m m2:Nat}{f f2:Nat->Rat}(hs:∀ i,i<w->Sz m (f i))(hs2:∀ i,i<w->Sz m2 (f2 i)):∀ k,k<=w->Sz (1+k*(m+m2+1)) (sm k (fun j=>f j*f2 j)):=by
 intro k
 induction k with
 | zero=>intro _;exact Sz.zero (by omega)
 | succ k ih=>
  intro hk
  have h1:=ih (by omega)
  have h2:=(hs k (by omega)).mul (hs2 k (by omega))
  have e:1+(k+1)*(m+m2+1)=1+k*(m+m2+1)+(m+m2)+1:=by rw [C6a];omega
  rw [e]
  exact h1.add h2
theorem B74{ls:Nat->List UInt8}{ln:Nat}(hl:∀ i,i<ln->(ls i).length<=8)(t:Nat):Sz 32 (bvF ls ln t):=by
 unfold bvF
 split
 ·exact A7b (k:=8) (hl t (by assumption)) (by omega)
 ·exact Sz.zero (by omega)
theorem A9j{E:Nat->Rat}{q:Nat}(hE:∀ t,Sz 32 (E t))(hq:q<=4)(a b:Nat):Sz 261 (C0a E q a b):=by
 have:=C0v (w:=q) (f:=fun t=>mtx E q t a) (f2:=fun t=>mtx E q t b) (fun t _=>hE _) (fun t _=>hE _) q (C5h _)
 exact this.mono (by omega)
theorem A9k{ls cs:Nat->List UInt8}{ln cn q:Nat}(hl:∀ i,i<ln->(ls i).length<=8)(hc:∀ i,i<cn->(cs i).length<=8)(hq:q<=4)(a b:Nat):Sz 294 (A79 ls ln cs cn q a b):=by
 refine ((A9j (B74 hl) hq a b).sub (n:=32) ?_).mono (by omega)
 split
 ·rename_i e;exact A7b (k:=8) (hc a e.2) (by omega)
 ·exact Sz.zero (by omega)
theorem C0u(ls:Nat->List UInt8)(ln:Nat)(cs:Nat->List UInt8)(cn:Nat){q:Nat}:SymT q (Mc (A79 ls ln cs cn q) q):=fun i j hi hj=>by
 have hjq:j<q:=by omega
 unfold Mc
 obtain ⟨d1,d2⟩:=Nf (i:=i) hjq
 obtain ⟨d3,d4⟩:=Nf (i:=j) hi
 rw [d1,d2,d3,d4,A9l]
theorem C0t(ls:Nat->List UInt8)(ln:Nat)(cs:Nat->List UInt8)(cn:Nat){q:Nat}(h1:1<=q)(h2:q<=64):B5p (q:Int) (q:Int) (q*q) (Mc (A79 ls ln cs cn q) q) q:=⟨B4z rfl h1 h2,C0u ls ln cs cn⟩
section
variable {h:Heap} {K:VP} {A B lA cA:Option Addr} {n ln lc cn cc cap cap2 m m2:Nat} {ls cs:Nat->List UInt8} {R:Nat->Nat->Rat} {f:Nat->Rat}
theorem A7s{n:Int}(hK:∀ k:Nat,k<4->K (I (k:Int)) h):FCall prog B17 #[I n,I 4] h K:=by
 refine C05 _ _ ?_
 unfold C54
 have h1:=Int.tmod_lt_of_pos n (show (0:Int)<4 by decide)
 have h2: -4<C6m n 4:=by
  have:=Int.lt_tmod_of_pos n (show (0:Int)<4 by decide)
  omega
 refine B6 (fun e=>by omega) (fun _=>B6 (fun hneg=>?_) (fun hpos=>?_))
 ·have:=hK (C6m n 4+4).toNat (by omega)
  rw [show B5 (C6m n 4+4)=(((C6m n 4+4).toNat:Nat):Int) by rw [B7]<;>omega]
  exact this
 ·have:=hK (C6m n 4).toNat (by omega)
  rw [show ((C6m n 4).toNat:Int)=C6m n 4 by omega] at this
  exact this
theorem So{n:Int}(rl:RowV SSr h lA ln ls)(rc:RowV SSr h cA cn cs)(hl:∀ i,i<ln->(ls i).length<=8)(hc:∀ i,i<cn->(cs i).length<=8)
 (hK:∀ q,1<=q->q<=4->∀ A' c' h',h.le h'->q*q<=c'->RowV SSr h' A' (q*q) (Mc (A79 ls ln cs cn q) q)->K (A1s q q A' (q*q) c') h'):FCall prog Ho #[.slice lA ln lc,I n,.slice cA cn cc] h K:=by
 refine A0g _ _ _ _ _ _ _ ?_
 unfold Xl
 refine A7s ?_
 intro k hk
 refine ⟨_,rfl,?_⟩
 rw [wiS k (by omega)]
 have hq1:1<=k+1:=by omega
 have hq4:k+1<=4:=by omega
 generalize k+1=q at *
 have hqq:q*q<=4*4:=C5y hq4 hq4
 rw [wiM q q (by omega)]
 have sE:=B74 hl
 refine ⟨fun L hp=>∃ (k:Nat) (g o:Heap) (xs:List QV) (A':Option Addr) (c':Nat),k<=q*q/\L=[.slice A' k c',I (k:Int)]/\h.le g/\Sep hp g o/\OwnSl o V5 A' c' xs/\xs.length=k/\Row NQr g xs k (bvF ls ln),fun L _=>q*q-(iAt L 1).toNat,⟨0,h,Dw,[],none,0,by omega,rfl,B4 _,Sep.refl h,OwnSl.nil,rfl,Row.nil⟩,?_⟩
 rintro bA bn bc z hp ⟨k,g,o,xs,A',c',hk,eL,lg,s,ow,hxl,rr⟩
 obtain ⟨⟨rfl,rfl,rfl⟩,rfl⟩:=sI2 eL
 have lhp:=B0 lg s.le
 refine B6 (fun hlt=>?_) (fun hge=>?_)
 ·have hkq:bn<q*q:=by omega
  have ew:B5 ((bn:Int)+1)=((bn+1:Nat):Int):=by rw [B7]<;>omega
  have step:∀ {h1 g1:Heap} (w:QV),Sep h1 g1 o->g.le g1->NQ g1 w (bvF ls ln bn)->wpH prog (Instr.buildSlice Kv 1 #[(0,w.v)]) (fun v' hp=>∃ (B:Option Addr) (m d:Nat),v'= .slice B m d/\wpH prog (Builtin.append_ #[Kv,Kv] Kv #[.slice bA bn bc,.slice B m d]) (fun v1 hp1=>∃ (A':Option Addr) (n' c':Nat),v1= .slice A' n' c'/\(∃ (k:Nat) (g o:Heap) (xs:List QV) (A2:Option Addr) (c2:Nat),k<=q*q/\[.slice A' n' c',I (B5 ((bn:Int)+1))]=[.slice A2 k c2,I (k:Int)]/\h.le g/\Sep hp1 g o/\OwnSl o V5 A2 c2 xs/\xs.length=k/\Row NQr g xs k (bvF ls ln))/\q*q-(iAt [.slice A' n' c',I (B5 ((bn:Int)+1))] 1).toNat<q*q-(iAt [.slice bA bn bc,I (bn:Int)] 1).toNat) hp) h1:=by
   intro h1 g1 w s1 l1 iw
   refine T0 (n:=bn) C0r s1 ow hxl.symm (y:=w) rfl (by decide) (by omega) (by omega) ?_
   intro A3 c3 h3 g3 o3 l3 s3 ow3 _
   rw [hxl,ew]
   refine ⟨⟨bn+1,g3,o3,_,A3,c3,by omega,rfl,B0 lg (B0 l1 l3),s3,ow3,by rw [C5i,hxl];rfl,?_⟩,?_⟩
   ·have r:=Row.push (R:=NQr) (g:=g3) (xs:=xs) (f:=bvF ls ln) (w:=w) (by rw [hxl];exact rr.mono Sm (B0 l1 l3)) (by rw [hxl];exact NQ.mono l3 iw)
    rw [C5i,hxl] at r
    exact r
   ·show q*q-((bn+1:Nat):Int).toNat<q*q-((bn:Nat):Int).toNat
    omega
  refine B6 (fun hln=>?_) (fun hln=>?_)
  ·have hbl:bn<ln:=by omega
   obtain ⟨u,eu,hcu⟩:=(rl.mono Z9 lhp).sat hbl
   refine ⟨u,eu,by omega,by omega,_,hcu,?_⟩
   refine s.call (A5t (by have:=hl bn hbl;omega) ?_)
   intro w g1 l1 iw h1 s1
   refine ⟨_,_,_,_,_,_,_,_,rfl,?_⟩
   refine step w s1 l1 ?_
   unfold bvF
   rw [if_pos hbl]
   exact iw
  ·refine step Jd s (B4 _) ?_
   unfold bvF
   rw [if_neg (by omega)]
   exact NQ.zero
 ·have hkq:bn=q*q:=by omega
  subst hkq
  have rb:RowV NQr hp bA (q*q) (bvF ls ln):=⟨xs,ow.slF s.ole,hxl,rr.mono Sm s.le⟩
  have hbc:q*q<=bc:=by have:=ow.1;omega
  clear s ow rr lg
  refine ⟨fun L hx=>∃ (k:Nat) (g o:Heap) (hd:List HV) (A':Option Addr) (c':Nat),k<=q/\L=[.slice A' k c',I (k:Int)]/\hp.le g/\Sep hx g o/\OwnSl o Kw A' c' hd/\hd.length=k/\∀ i,i<k->∃ s,hd[i]? = some s/\s.n=q/\q<=s.c/\RowV NQr hp s.A q (mtx (bvF ls ln) q i),fun L _=>q-(iAt L 1).toNat,⟨0,hp,Dw,[],none,0,by omega,rfl,B4 _,Sep.refl hp,OwnSl.nil,rfl,fun i hi=>by omega⟩,?_⟩
  rintro rA rn rcp z hx ⟨k,g,o,hd,A',c',hk,eL,lg,s,ow,hhd,rows⟩
  obtain ⟨⟨rfl,rfl,rfl⟩,rfl⟩:=sI2 eL
  have lhx:=B0 lhp (B0 lg s.le)
  refine B6 (fun hlt=>?_) (fun hge=>?_)
  ·have hkr:rn<q:=by omega
   have h2:(rn+1)*q<=q*q:=C5j _ hkr
   have h3:(rn+1)*q=rn*q+q:=by rw [C6a,C6k]
   have e0:B5 ((rn:Int)+1)=((rn+1:Nat):Int):=B7 (by omega) (by omega)
   have e1:B5 ((rn:Int)*(q:Int))=((rn*q:Nat):Int):=by rw [<- C5t];exact O9 (by omega)
   have e2:B5 (B5 ((rn:Int)+1)*(q:Int))=(((rn+1)*q:Nat):Int):=by rw [e0,<- C5t];exact O9 (by omega)
   rw [e1,e2,e0]
   refine ⟨⟨by omega,by omega⟩,⟨by omega,by simp only [C5l];omega⟩,?_⟩
   simp only [C5l]
   have e5:(rn+1)*q-rn*q=q:=by omega
   rw [e5]
   have row:RowV NQr hp (L0 bA bc (rn*q) 4) q (mtx (bvF ls ln) q rn):=rb.cut (c:=bc) (l:=rn*q) (k:=q) (by omega) hbc
   refine T0 (ty:=A93) (n:=rn) C48 s ow hhd.symm (y:=(⟨L0 bA bc (rn*q) 4,q,bc-rn*q⟩:HV)) rfl (by decide) (by omega) (by omega) ?_
   intro A3 c3 h3 g3 o3 l3 s3 ow3 _
   rw [hhd]
   refine ⟨⟨rn+1,g3,o3,_,A3,c3,by omega,rfl,B0 lg l3,s3,ow3,by rw [C5i,hhd];rfl,fun i hi=>?_⟩,?_⟩
   ·by_cases e:i=rn
    ·subst e
     exact ⟨_,by rw [List.getElem?_append_right (by omega),hhd,Nat.sub_self];rfl,rfl,by show q<=bc-i*q;omega,row⟩
    ·obtain ⟨u,f1,f2,f3,f4⟩:=rows i (by omega)
     exact ⟨u,by rw [List.getElem?_append_left (by omega)];exact f1,f2,f3,f4⟩
   ·show q-((rn+1:Nat):Int).toNat<q-((rn:Nat):Int).toNat
    omega
  ·have hrq:rn=q:=by omega
   subst hrq
   have rs:RowsV hx rA rn rn (mtx (bvF ls ln) rn):=⟨hd,ow.slF s.ole,hhd,fun i hi=>by
    obtain ⟨u,f1,f2,f3,f4⟩:=rows i hi
    exact ⟨u,f1,f2,f3,f4.mono Sm (B0 lg s.le)⟩⟩
   clear s ow lg
   refine A7u rs hq1 (by omega) (by omega) ?_
   intro b1 h1 l1 rt
   refine ⟨_,_,_,rfl,?_⟩
   refine A23 (m:=32) rt (rs.mono l1) hq1 (by omega) hq1 (by omega) hq1 (by omega) (fun i j _ _=>sE _) (fun i j _ _=>sE _) (by omega) ?_
   intro h2 g2 o2 bo ro l2 t2
   refine ⟨_,_,_,rfl,fun L hy=>∃ (k:Nat) (g o:Heap),k<=rn/\k<=cn/\L=[I (k:Int)]/\h.le g/\Mt hy g o bo ro rn rn (fun a b=>C0a (bvF ls ln) rn a b-if a=b/\a<k then rv (cs a) else 0),fun L _=>rn-(iAt L 0).toNat,⟨0,g2,o2,by omega,by omega,rfl,B0 lhx (B0 l1 l2),t2.congr fun a b _ _=>by rw [if_neg (by omega),C6b,Rat.neg_zero,C5n];rfl⟩,?_⟩
   clear t2
   rintro z3 hy ⟨k,g,o,hk1,hk2,eL,lg,t⟩
   obtain rfl:=sI1 eL
   have fin:(k=rn\/k=cn)->FCall prog Th #[.slice (some ⟨bo,0,none⟩) rn rn] hy (fun r6 hp16=>∃ (t900:Int) (t901:Int) (t902A:Option Addr) (t902n:Nat) (t902c:Nat),r6= .agg #[I t900,I t901,.slice t902A t902n t902c]/\K (.agg #[I t900,I t901,.slice t902A t902n t902c]) hp16):=fun hx=>by
    have rM:RowsV hy (some ⟨bo,0,none⟩) rn rn (A79 ls ln cs cn rn):=t.rowsV.congr fun a b ha _=>by
     unfold A79
     congr 1
     by_cases e:a=b/\a<cn
     ·rw [if_pos e,if_pos ⟨e.1,by omega⟩]
     ·rw [if_neg e,if_neg (fun x=>e ⟨x.1,by omega⟩)]
    refine A7w (m:=294) rM (by omega) hq1 (by omega) hq1 (fun i j _ _=>A9k hl hc hq4 i j) (by omega) ?_
    intro A9 c9 h9 l9 hc9 r9
    exact ⟨_,_,_,_,_,rfl,hK rn hq1 hq4 A9 c9 h9 (B0 lg (B0 t.sep.le l9)) hc9 r9⟩
   refine B6 (fun hlt=>?_) (fun hge=>fin (.inl (by omega)))
   refine B6 (fun hlt2=>?_) (fun hge=>fin (.inr (by omega)))
   have hkr:k<rn:=by omega
   have hkc:k<cn:=by omega
   obtain ⟨ch,hch,hh⟩:=t.head hkr
   obtain ⟨x,ix,x0,x1,x2,x3⟩:=t.elem hkr hkr
   rw [if_neg (by omega)] at ix
   have sp:=t.sep
   have lhy:=B0 lg sp.le
   obtain ⟨u,eu,hcu⟩:=(rc.mono Z9 lhy).sat hkc
   refine ⟨_,rfl,by omega,by omega,_,_,_,sp.cell hh,_,rfl,by omega,by omega,_,_,_,sp.cell hh,_,rfl,by omega,by omega,_,_,_,_,_,_,_,_,sp.cell x0,sp.cell x1,sp.cell x2,sp.cell x3,u,eu,by omega,by omega,_,hcu,?_⟩
   refine sp.call (A5t (by have:=hc k hkc;omega) ?_)
   intro w7 g7 l7 i7 h7 s7
   refine ⟨_,_,_,_,_,_,_,_,rfl,sp.le_le s7 l7,?_⟩
   have z1:Sz 300 (C0a (bvF ls ln) rn k k-0):=((A9j sE hq4 k k).sub (Sz.zero (m:=1) (C5h 1))).mono (by omega)
   refine s7.call (A9v (m:=300) (NQ.mono l7 ix) i7 z1 ((A7b (k:=8) (hc k hkc) (by omega)).mono (by omega)) (by omega) ?_)
   intro w8 g8 l8 i8 h8 s8
   refine ⟨_,_,_,_,_,_,_,_,rfl,s7.le_le s8 l8,_,rfl,by omega,by omega,?_⟩
   refine ((t.next s7 l7).next s8 l8).store hkr hkr i8 ?_
   intro h9 o9 t9 _
   rw [wiS k (by omega)]
   refine ⟨⟨k+1,g8,o9,by omega,by omega,rfl,B0 lg (B0 l7 l8),t9.congr fun a b _ _=>?_⟩,by simp only [Ea];omega⟩
   unfold B84
   by_cases e:a=k/\b=k
   ·rw [if_pos e,e.1,e.2,if_pos ⟨rfl,by omega⟩,C6b (C0a _ _ _ _) 0,Rat.neg_zero,C5n]
   ·rw [if_neg e]
    dsimp only
    by_cases e2:a=b/\a<k
    ·rw [if_pos e2,if_pos ⟨e2.1,by omega⟩]
    ·rw [if_neg e2,if_neg (by omega)]
theorem A4d(rl:RowV SSr h lA ln ls)(rc:RowV SSr h cA cn cs)(hK1:ln<=20->cn<=8->(∀ i,i<ln->(ls i).length<=8)->(∀ i,i<cn->(cs i).length<=8)->K (.bool true) h)(hK0:K (.bool false) h):FCall prog Zl #[.slice lA ln lc,.slice cA cn cc] h K:=by
 refine B3a _ _ _ _ _ _ ?_
 unfold B7s
 refine B6 (fun h1=>?_) (fun _=>hK0)
 refine B6 (fun h2=>?_) (fun _=>hK0)
 refine Ka rl (by omega) (fun h3=>⟨_,rfl,Ny ?_⟩) (fun _=>⟨_,rfl,Br.no hK0⟩)
 refine Ka rc (by omega) (fun h4=>⟨_,rfl,hK1 (by omega) (by omega) (fun i hi=>by have:=h3 i hi;omega) (fun i hi=>by have:=h4 i hi;omega)⟩) (fun _=>⟨_,rfl,hK0⟩)
end
end Go.Proofs.YtajkakhfcokljaaGreatDoor
namespace Go.Proofs.YtajkakhfcokljaaGreatDoor
set_option maxRecDepth 20000
theorem B49{k a:Nat}(ha:a<=k)(t:Nat->Rat):sm (k+1) t=t a+sm k (fun i=>t (rhx a i)):=by
 rw [B6c ha]
 have e:sm (k+1) t=sm (k+1) (fun i=>if i=a then t a else 0)+sm (k+1) (fun i=>if i=a then 0 else t i):=by
  rw [<- U9]
  refine C6 fun i _=>?_
  by_cases c:i=a
  ·rw [if_pos c,if_pos c,c,C5n]
  ·rw [if_neg c,if_neg c,Rat.zero_add]
 rw [e,Gy (show a<k+1 by omega) fun i _ c=>if_neg c,if_pos rfl]
theorem B8m:∀ (L:List (Nat->Rat)) (n:Nat),L.length<n->∃ x:Nat->Rat,(∃ j,j<n/\x j≠0)/\∀ f∈L,sm n (fun j=>f j*x j)=0:=by
 intro L
 generalize hm:L.length=m
 induction m generalizing L with
 | zero=>
  intro n hn
  have:L=[]:=List.length_eq_zero_iff.1 hm
  subst this
  exact ⟨fun _=>1,⟨0,hn,by decide +kernel⟩,fun f hf=>by cases hf⟩
 | succ m ih=>
  intro n hn
  match L,hm with
  | f::L,hm=>
   have hl:L.length=m:=by simpa using hm
   by_cases h:∀ j,j<n->f j=0
   ·obtain ⟨x,h1,h2⟩:=ih L hl n (by omega)
    refine ⟨x,h1,fun g hg=>?_⟩
    rcases List.mem_cons.1 hg with e|e
    ·rw [e];exact Fa fun j hj=>by rw [h j hj,C5v]
    ·exact h2 g e
   ·have:∃ a,a<n/\f a≠0:=C5m fun c=>h fun j hj=>C5m fun c'=>c ⟨j,hj,c'⟩
    obtain ⟨a,ha,hne⟩:=this
    obtain ⟨k,rfl⟩:∃ k,n=k+1:=⟨n-1,by omega⟩
    obtain ⟨y,⟨j,hj,hy⟩,h2⟩:=ih (L.map fun g=>fun j=>g (rhx a j)-g a/f a*f (rhx a j)) (by simpa using hl) k (by omega)
    have unr:∀ i,(if rhx a i<a then rhx a i else rhx a i-1)=i:=fun i=>by unfold rhx;repeat' split
                                                                         all_goals omega
    refine ⟨fun b=>if b=a then-(sm k (fun i=>f (rhx a i)*y i)/f a) else y (if b<a then b else b-1),⟨rhx a j,A1c hj,?_⟩,fun g hg=>?_⟩
    ·show (if rhx a j=a then _ else _)≠(0:Rat)
     rw [if_neg (A9y a j),unr];exact hy
    ·rw [B49 (show a<=k by omega)]
     have e9:sm k (fun i=>g (rhx a i)*(if rhx a i=a then-(sm k (fun i=>f (rhx a i)*y i)/f a) else y (if rhx a i<a then rhx a i else rhx a i-1)))=sm k (fun i=>g (rhx a i)*y i):=C6 fun i _=>by rw [if_neg (A9y a i),unr]
     show g a*(if a=a then _ else _)+sm k (fun i=>g (rhx a i)*(if rhx a i=a then _ else _))=0
     rw [if_pos rfl,e9]
     rcases List.mem_cons.1 hg with e|e
     ·rw [e]
      generalize sm k (fun i=>f (rhx a i)*y i)=q
      clear e9 h ih h2
      grind
     ·have h3:=h2 _ (List.mem_map.2 ⟨g,e,rfl⟩)
      have h4:sm k (fun i=>(g (rhx a i)-g a/f a*f (rhx a i))*y i)=sm k (fun i=>g (rhx a i)*y i)-g a/f a*sm k (fun i=>f (rhx a i)*y i):=by
       rw [C6b,<- Bb,<- Jh,<- U9]
       exact C6 fun i _=>by grind
      rw [h4] at h3
      generalize sm k (fun i=>f (rhx a i)*y i)=q at *
      generalize sm k (fun i=>g (rhx a i)*y i)=q' at *
      clear e9 h ih h2 h4
      grind
theorem A16{n:Nat}{f:Nat->Rat}(h:∀ i,i<n->0<=f i):0<=sm n f:=by
 induction n with
 | zero=>exact Rat.le_refl
 | succ n ih=>
  show 0<=sm n f+f n
  have h1:=ih fun i hi=>h i (by omega)
  have h2:=h n (by omega)
  grind
theorem Uy{n:Nat}{f:Nat->Rat}(h:∀ i,i<n->0<=f i)(hz:sm n f<=0):∀ i,i<n->f i=0:=by
 induction n with
 | zero=>intro i hi;omega
 | succ n ih=>
  have e:sm (n+1) f=sm n f+f n:=rfl
  rw [e] at hz
  have h1:=A16 fun i (hi:i<n)=>h i (by omega)
  have h2:=h n (by omega)
  intro i hi
  by_cases c:i=n
  ·rw [c];grind
  ·exact ih (fun i hi=>h i (by omega)) (by grind) i (by omega)
theorem A15(q:Rat):0<=q*q:=by
 rcases Rat.le_total (a:=0) (b:=q) with h|h
 ·exact C6i h h
 ·have h2:0 <= -q:=by grind
  have:=C6i h2 h2
  grind
theorem B89{q:Rat}(h:q*q=0):q=0:=by
 rcases Rat.mul_eq_zero.1 h with e|e<;>exact e
def ev(n:Nat)(f x:Nat->Rat):Rat:=sm n fun j=>f j*x j
structure Diag (n:Nat) (A:Nat->Nat->Rat) (d:Nat->Rat) (F:Nat->Nat->Rat):Prop where
 val:∀ x,qf n A x=sm n fun m=>d m*(ev n (F m) x*ev n (F m) x)
 inj:∀ x,(∀ m,m<n->ev n (F m) x=0)->∀ j,j<n->x j=0
def Fe(d:Nat->Rat):Nat->Nat
 | 0=>0
 | n+1=>Fe d n+if 0<d n then 1 else 0
def Jw(d:Nat->Rat):Nat->Nat
 | 0=>0
 | n+1=>Jw d n+if d n<0 then 1 else 0
def B8k(d:Nat->Rat):Nat->Nat
 | 0=>0
 | n+1=>B8k d n+if d n=0 then 1 else 0
theorem C3j(d:Nat->Rat):∀ n,Fe d n+B8k d n+Jw d n=n:=by
 intro n
 induction n with
 | zero=>rfl
 | succ n ih=>
  show Fe d n+(if 0<d n then 1 else 0)+(B8k d n+if d n=0 then 1 else 0)+(Jw d n+if d n<0 then 1 else 0)=n+1
  have:(if 0<d n then 1 else 0)+(if d n=0 then 1 else 0)+(if d n<0 then 1 else 0)=1:=by
   by_cases a:0<d n
   ·rw [if_pos a,if_neg (by grind),if_neg (by grind)]
   ·by_cases b:d n=0
    ·rw [if_neg a,if_pos b,if_neg (by grind)]
    ·rw [if_neg a,if_neg b,if_pos (by grind)]
  omega
theorem B0f(d:Nat->Rat):∀ n,Jw d n=Fe (fun m=> - d m) n:=by
 intro n
 induction n with
 | zero=>rfl
 | succ n ih=>
  show Jw d n+(if d n<0 then 1 else 0)=Fe (fun m=> - d m) n+if 0 < - d n then 1 else 0
  rw [ih]
  congr 1
  by_cases a:d n<0
  ·rw [if_pos a,if_pos (by grind)]
  ·rw [if_neg a,if_neg (by grind)]
theorem A63(d:Nat->Rat):∀ n,((C6r n).filter fun m=>decide (0<d m)).length=Fe d n/\((C6r n).filter fun m=>decide (¬ 0<d m)).length+Fe d n=n:=by
 intro n
 induction n with
 | zero=>exact ⟨rfl,rfl⟩
 | succ n ih=>
  rw [List.range_succ,List.filter_append,List.filter_append,C5i,C5i]
  show _=Fe d n+(if 0<d n then 1 else 0)/\_+(Fe d n+if 0<d n then 1 else 0)=n+1
  by_cases a:0<d n
  ·simp only [List.filter_cons,a,decide_true,not_true_eq_false,decide_false,List.filter_nil,if_true,List.length_cons,C6h]
   simp only [Bool.false_eq_true,if_false,C6h]
   omega
  ·simp only [List.filter_cons,a,decide_false,not_false_eq_true,decide_true,List.filter_nil,if_true,List.length_cons,C6h]
   simp only [Bool.false_eq_true,if_false,C6h]
   omega
theorem Diag.pos_le{n:Nat}{A:Nat->Nat->Rat}{d d':Nat->Rat}{F F':Nat->Nat->Rat}(D:Diag n A d F)(D':Diag n A d' F'):Fe d n<=Fe d' n:=by
 refine C5m fun hlt=>?_
 have f1:=(A63 d n).2
 have f2:=(A63 d' n).1
 obtain ⟨x,⟨j,hj,hx⟩,h⟩:=B8m (((C6r n).filter fun m=>decide (¬ 0<d m)).map F++((C6r n).filter fun m=>decide (0<d' m)).map F') n (by
  rw [C5i,List.length_map,List.length_map];omega)
 have g1:∀ m,m<n->¬ 0<d m->ev n (F m) x=0:=fun m hm hd=>h (F m) (List.mem_append.2 (.inl (List.mem_map.2 ⟨m,List.mem_filter.2 ⟨List.mem_range.2 hm,decide_eq_true hd⟩,rfl⟩)))
 have g2:∀ m,m<n->0<d' m->ev n (F' m) x=0:=fun m hm hd=>h (F' m) (List.mem_append.2 (.inr (List.mem_map.2 ⟨m,List.mem_filter.2 ⟨List.mem_range.2 hm,decide_eq_true hd⟩,rfl⟩)))
 have p1:∀ m,m<n->0<=d m*(ev n (F m) x*ev n (F m) x):=fun m hm=>by
  by_cases c:0<d m
  ·exact C6i (by grind) (A15 _)
  ·rw [g1 m hm c];grind
 have p2:qf n A x<=0:=by
  rw [D'.val]
  have:0<=sm n fun m=> - (d' m*(ev n (F' m) x*ev n (F' m) x)):=A16 fun m hm=>by
   by_cases c:0<d' m
   ·rw [g2 m hm c];grind
   ·have:=C6i (show 0 <= - d' m by grind) (A15 (ev n (F' m) x))
    grind
  rw [Jh] at this
  grind
 rw [D.val] at p2
 have z:=Uy p1 p2
 refine hx (D.inj x (fun m hm=>?_) j hj)
 by_cases c:0<d m
 ·refine B89 ?_
  rcases Rat.mul_eq_zero.1 (z m hm) with e|e
  ·rw [e] at c;exact absurd c (by decide +kernel)
  ·exact e
 ·exact g1 m hm c
theorem Diag.neg{n:Nat}{A:Nat->Nat->Rat}{d:Nat->Rat}{F:Nat->Nat->Rat}(D:Diag n A d F):Diag n (fun i j=> - A i j) (fun m=> - d m) F:=by
 refine ⟨fun x=>?_,D.inj⟩
 have e:qf n (fun i j=> - A i j) x= - qf n A x:=by
  unfold qf
  rw [<- Jh]
  refine C6 fun i _=>?_
  rw [show (sm n fun j=> - A i j*x j)= - sm n (fun j=>A i j*x j) by rw [<- Jh];exact C6 fun j _=>by grind]
  grind
 rw [e,D.val,<- Jh]
 exact C6 fun m _=>by grind
theorem Diag.same{n:Nat}{A:Nat->Nat->Rat}{d d':Nat->Rat}{F F':Nat->Nat->Rat}(D:Diag n A d F)(D':Diag n A d' F'):Fe d n=Fe d' n/\B8k d n=B8k d' n/\Jw d n=Jw d' n:=by
 have h1:=Nat.le_antisymm (D.pos_le D') (D'.pos_le D)
 have h2:=Nat.le_antisymm (D.neg.pos_le D'.neg) (D'.neg.pos_le D.neg)
 rw [<- B0f,<- B0f] at h2
 have:=C3j d n
 have:=C3j d' n
 omega
structure PD (n k:Nat) (A0:Nat->Nat->Rat) (d:Nat->Rat) (F A:Nat->Nat->Rat):Prop where
 val:∀ x,qf n A0 x=sm k (fun m=>d m*(ev n (F m) x*ev n (F m) x))+qf n A (fun i=>ev n (F i) x)
 inj:∀ x,(∀ m,m<n->ev n (F m) x=0)->∀ j,j<n->x j=0
 zero:∀ i j,i<n->j<n->i<k\/j<k->A i j=0
 symm:A3h n A
theorem B1b{n:Nat}{i:Nat}(hi:i<n)(x:Nat->Rat):ev n (fun j=>if j=i then 1 else 0) x=x i:=by
 show (sm n fun j=>(if j=i then (1:Rat) else 0)*x j)=x i
 rw [Gy hi fun j _ c=>by rw [if_neg c,C5v],if_pos rfl,Rat.one_mul]
theorem PD.start{n:Nat}{A:Nat->Nat->Rat}(d:Nat->Rat)(hs:A3h n A):PD n 0 A d (fun i j=>if j=i then 1 else 0) A:=by
 refine ⟨fun x=>?_,fun x h j hj=>?_,fun i j _ _ h=>by omega,hs⟩
 ·show _=0+_
  rw [Rat.zero_add]
  exact A5o (fun _ _ _ _=>rfl) fun i hi=>(B1b hi x).symm
 ·have:=h j hj
  rwa [B1b hj] at this
theorem PD.adv{n k:Nat}{A0 F A:Nat->Nat->Rat}{d:Nat->Rat}(h:PD n k A0 d F A)(hk:k<n)(hne:A k k≠0):
 PD n (k+1) A0 (fun m=>if m=k then A k k else d m) (fun m=>if m=k then (fun j=>sm n fun i=>A i k/A k k*F i j) else F m) (fun i j=>A i j-A i k*(A k j/A k k)):=by
 have evk:∀ x,ev n (fun j=>sm n fun i=>A i k/A k k*F i j) x=sm n fun i=>A i k/A k k*ev n (F i) x:=fun x=>by
  unfold ev
  rw [C6 (n:=n) (f:=fun i=>A i k/A k k*sm n fun j=>F i j*x j) fun i _=>(Bb n _ _).symm,Rz]
  refine C6 fun j _=>?_
  rw [C6o,<- Bb]
  exact C6 fun i _=>by grind
 refine ⟨fun x=>?_,fun x hx j hj=>?_,fun i j hi hj c=>?_,fun i j hi hj=>?_⟩
 ·rw [h.val x]
  show _=sm k (fun m=>(if m=k then A k k else d m)*(ev n (if m=k then _ else F m) x*ev n (if m=k then _ else F m) x))+(if k=k then A k k else d k)*(ev n (if k=k then _ else F k) x*ev n (if k=k then _ else F k) x)+qf n _ (fun i=>ev n (if i=k then _ else F i) x)
  rw [if_pos rfl,if_pos rfl,evk x,Rat.add_assoc]
  have e0:sm k (fun m=>d m*(ev n (F m) x*ev n (F m) x))=sm k (fun m=>(if m=k then A k k else d m)*(ev n (if m=k then (fun j=>sm n fun i=>A i k/A k k*F i j) else F m) x*ev n (if m=k then (fun j=>sm n fun i=>A i k/A k k*F i j) else F m) x)):=C6 fun m hm=>by rw [if_neg (show m≠k by omega),if_neg (show m≠k by omega)]
  rw [<- e0]
  congr 1
  have row0:∀ i,i<n->A i k-A i k*(A k k/A k k)=0:=fun i _=>by grind
  have col0:∀ j,j<n->A k j-A k k*(A k j/A k k)=0:=fun j _=>by grind
  have e1:qf n (fun i j=>A i j-A i k*(A k j/A k k)) (fun i=>ev n (if i=k then (fun j=>sm n fun i=>A i k/A k k*F i j) else F i) x)=qf n (fun i j=>A i j-A i k*(A k j/A k k)) (fun i=>ev n (F i) x):=by
   unfold qf
   refine C6 fun i hi=>?_
   have inner:(sm n fun j=>(A i j-A i k*(A k j/A k k))*ev n (if j=k then (fun j=>sm n fun i=>A i k/A k k*F i j) else F j) x)=sm n fun j=>(A i j-A i k*(A k j/A k k))*ev n (F j) x:=by
    refine C6 fun j hj=>?_
    by_cases c:j=k
    ·rw [c,row0 i hi,C5v,C5v]
    ·rw [if_neg c]
   rw [inner]
   by_cases c:i=k
   ·have e5:(sm n fun j=>(A k j-A k k*(A k j/A k k))*ev n (F j) x)=0:=Fa fun j hj=>by rw [col0 j hj,C5v]
    rw [c]
    show _*(sm n fun j=>(A k j-A k k*(A k j/A k k))*ev n (F j) x)=_*(sm n fun j=>(A k j-A k k*(A k j/A k k))*ev n (F j) x)
    rw [e5,C63,C63]
   ·show ev n (if i=k then _ else F i) x*_=ev n (F i) x*_
    rw [if_neg c]
  rw [e1]
  have main:∀ T:Nat->Rat,qf n A T=A k k*((sm n fun i=>A i k/A k k*T i)*sm n fun i=>A i k/A k k*T i)+qf n (fun i j=>A i j-A i k*(A k j/A k k)) T:=fun T=>by
   unfold qf
   have e2:(sm n fun i=>T i*sm n fun j=>A i j*T j)=sm n fun i=>(T i*A i k)*(sm n fun j=>A k j/A k k*T j)+T i*sm n fun j=>(A i j-A i k*(A k j/A k k))*T j:=by
    refine C6 fun i hi=>?_
    have:(sm n fun j=>A i j*T j)=A i k*(sm n fun j=>A k j/A k k*T j)+sm n fun j=>(A i j-A i k*(A k j/A k k))*T j:=by
     rw [<- Bb,<- U9]
     exact C6 fun j _=>by grind
    rw [this,Rat.mul_add]
    congr 1
    grind
   rw [e2,U9]
   congr 1
   have e3:(sm n fun j=>A k j/A k k*T j)=sm n fun i=>A i k/A k k*T i:=C6 fun j hj=>by rw [h.symm k j hk hj]
   rw [e3]
   have e4:∀ q,(sm n fun i=>T i*A i k*q)=A k k*(q*sm n fun i=>A i k/A k k*T i):=fun q=>by
    rw [<- Rat.mul_assoc,<- Bb]
    exact C6 fun i _=>by grind
   exact e4 _
  exact main _
 ·refine h.inj x (fun m hm=>?_) j hj
  have hother:∀ m,m<n->m≠k->ev n (F m) x=0:=fun m hm c=>by
   have:=hx m hm
   rwa [if_neg c] at this
  by_cases c:m=k
  ·have:=hx k hk
   rw [if_pos rfl,evk,Gy hk fun i hi c=>by rw [hother i hi c,C63]] at this
   rw [c]
   grind
  ·exact hother m hm c
 ·by_cases e:i=k
  ·rw [e];grind
  ·by_cases e':j=k
   ·rw [e'];grind
   ·rw [h.zero i j hi hj (by omega)]
    by_cases c':i<k
    ·rw [h.zero i k hi hk (.inl c')];grind
    ·rw [h.zero k j hk hj (.inr (by omega))];grind
 ·rw [h.symm i j hi hj,h.symm i k hi hk,h.symm k j hk hj];grind
theorem PD.done{n k:Nat}{A0 F A:Nat->Nat->Rat}{d:Nat->Rat}(h:PD n k A0 d F A)(hk:k<=n)(hz:∀ i j,i<n->j<n->A i j=0):Diag n A0 (fun m=>if m<k then d m else 0) F:=by
 refine ⟨fun x=>?_,h.inj⟩
 rw [h.val x]
 have e1:qf n A (fun i=>ev n (F i) x)=0:=Fa fun i hi=>by
  rw [Fa fun j hj=>by rw [hz i j hi hj,C5v],C63]
 rw [e1,C5n]
 have e2:∀ j,k+j<=n->sm k (fun m=>d m*(ev n (F m) x*ev n (F m) x))=sm (k+j) fun m=>(if m<k then d m else 0)*(ev n (F m) x*ev n (F m) x):=by
  intro j
  induction j with
  | zero=>exact fun _=>C6 fun m hm=>by rw [if_pos hm]
  | succ j ih=>
   intro hj
   rw [ih (by omega)]
   show _=sm (k+j) _+(if k+j<k then d (k+j) else 0)*_
   rw [if_neg (by omega),C5v,C5n]
 have:=e2 (n-k) (by omega)
 rwa [show k+(n-k)=n by omega] at this
theorem B6b{n a b:Nat}(ha:a<n)(hb:b<n)(f:Nat->Rat):sm n (fun i=>f (xch a b i))=sm n f:=by
 by_cases hab:a=b
 ·refine C6 fun i _=>?_
  unfold xch
  split
  ·rename_i c;rw [c,hab]
  ·split
   ·rename_i c;rw [c,hab]
   ·rfl
 ·have e:sm n (fun i=>f (xch a b i))=sm n (fun i=>f i+((if i=a then f b-f a else 0)+if i=b then f a-f b else 0)):=by
   refine C6 fun i _=>?_
   unfold xch
   by_cases c:i=a
   ·rw [if_pos c,if_pos c,if_neg (by omega),c];grind
   ·rw [if_neg c,if_neg c]
    by_cases c':i=b
    ·rw [if_pos c',if_pos c',c'];grind
    ·rw [if_neg c',if_neg c'];grind
  rw [e,U9,U9,Gy ha fun i _ c=>if_neg c,Gy hb fun i _ c=>if_neg c,if_pos rfl,if_pos rfl]
  grind
theorem PD.swap{n k a b:Nat}{A0 F A:Nat->Nat->Rat}{d:Nat->Rat}(h:PD n k A0 d F A)(ha:a<n)(hb:b<n)(hka:k<=a)(hkb:k<=b):PD n k A0 d (fun m=>F (xch a b m)) (fun i j=>A (xch a b i) (xch a b j)):=by
 have fix:∀ m,m<k->xch a b m=m:=fun m hm=>by unfold xch;rw [if_neg (by omega),if_neg (by omega)]
 refine ⟨fun x=>?_,fun x hx j hj=>h.inj x (fun m hm=>?_) j hj,fun i j hi hj c=>h.zero _ _ (Z5 ha hb hi) (Z5 ha hb hj) ?_,fun i j hi hj=>h.symm _ _ (Z5 ha hb hi) (Z5 ha hb hj)⟩
 ·have e0:sm k (fun m=>d m*(ev n (F m) x*ev n (F m) x))=sm k (fun m=>d m*(ev n (F (xch a b m)) x*ev n (F (xch a b m)) x)):=C6 fun m hm=>by rw [fix m hm]
  rw [h.val x,e0]
  congr 1
  unfold qf
  rw [<- B6b ha hb (fun i=>ev n (F i) x*sm n fun j=>A i j*ev n (F j) x)]
  refine C6 fun i _=>?_
  show _=_*sm n fun j=>A (xch a b i) (xch a b j)*ev n (F (xch a b j)) x
  rw [B6b ha hb (fun j=>A (xch a b i) j*ev n (F j) x)]
 ·have:=hx (xch a b m) (Z5 ha hb hm)
  rwa [A8w] at this
 ·rcases c with c|c
  ·rw [fix i c];exact .inl c
  ·rw [fix j c];exact .inr c
def Jl(a b:Nat)(A:Nat->Nat->Rat):Nat->Nat->Rat:=fun i j=>A i j+(if i=a then A b j else 0)+(if j=a then A i b+(if i=a then A b b else 0) else 0)
theorem PD.merge{n k a b:Nat}{A0 F A:Nat->Nat->Rat}{d:Nat->Rat}(h:PD n k A0 d F A)(ha:a<n)(hb:b<n)(hka:k<=a)(hkb:k<=b)(hab:a≠b):PD n k A0 d (fun m=>if m=b then (fun j=>F b j-F a j) else F m) (Jl a b A):=by
 have evb:∀ x,ev n (fun j=>F b j-F a j) x=ev n (F b) x-ev n (F a) x:=fun x=>by
  unfold ev
  rw [C6b,<- Jh,<- U9]
  exact C6 fun j _=>by grind
 have key:∀ (T:Nat->Rat) (c:Nat->Rat),(sm n fun j=>(c j+if j=a then c b else 0)*(if j=b then T b-T a else T j))=sm n fun j=>c j*T j:=fun T c=>by
  have e:(sm n fun j=>(c j+if j=a then c b else 0)*(if j=b then T b-T a else T j))=sm n (fun j=>c j*T j+((if j=a then c b*T a else 0)+if j=b then-(c b*T a) else 0)):=by
   refine C6 fun j _=>?_
   by_cases e1:j=a
   ·rw [if_pos e1,if_neg (by omega),if_pos e1,if_neg (by omega),e1];grind
   ·rw [if_neg e1,if_neg e1]
    by_cases e2:j=b
    ·rw [if_pos e2,if_pos e2,e2];grind
    ·rw [if_neg e2,if_neg e2];grind
  rw [e,U9,U9,Gy ha fun i _ c=>if_neg c,Gy hb fun i _ c=>if_neg c,if_pos rfl,if_pos rfl]
  grind
 refine ⟨fun x=>?_,fun x hx j hj=>h.inj x (fun m hm=>?_) j hj,fun i j hi hj c=>?_,fun i j hi hj=>?_⟩
 ·have e0:sm k (fun m=>d m*(ev n (F m) x*ev n (F m) x))=sm k (fun m=>d m*(ev n (if m=b then (fun j=>F b j-F a j) else F m) x*ev n (if m=b then (fun j=>F b j-F a j) else F m) x)):=C6 fun m hm=>by rw [if_neg (show m≠b by omega)]
  rw [h.val x,e0]
  congr 1
  have e1:(fun i=>ev n (if i=b then (fun j=>F b j-F a j) else F i) x)=fun i=>if i=b then ev n (F b) x-ev n (F a) x else ev n (F i) x:=by
   funext i
   by_cases c:i=b
   ·rw [if_pos c,if_pos c,evb]
   ·rw [if_neg c,if_neg c]
  rw [e1]
  have hT:∀ T:Nat->Rat,qf n A T=qf n (Jl a b A) (fun i=>if i=b then T b-T a else T i):=fun T=>by
   unfold qf
   have r1:∀ i,(sm n fun j=>Jl a b A i j*(if j=b then T b-T a else T j))=sm n fun j=>(A i j+if i=a then A b j else 0)*T j:=fun i=>by
    rw [<- key T (fun j=>A i j+if i=a then A b j else 0)]
    refine C6 fun j _=>?_
    unfold Jl
    rfl
   have r2:(sm n fun i=>(if i=b then T b-T a else T i)*sm n fun j=>Jl a b A i j*(if j=b then T b-T a else T j))=sm n fun i=>((sm n fun j=>A i j*T j)+if i=a then (sm n fun j=>A b j*T j) else 0)*(if i=b then T b-T a else T i):=by
    refine C6 fun i _=>?_
    rw [r1,C6o]
    congr 1
    by_cases c:i=a
    ·rw [if_pos c,<- U9]
     exact C6 fun j _=>by rw [if_pos c];grind
    ·rw [if_neg c,C5n]
     exact C6 fun j _=>by rw [if_neg c];grind
   rw [r2,key T (fun i=>sm n fun j=>A i j*T j)]
   exact C6 fun i _=>C6o _ _
  exact hT fun i=>ev n (F i) x
 ·have h1:=hx m hm
  have h2:=hx a ha
  rw [if_neg hab] at h2
  by_cases c:m=b
  ·rw [if_pos c,evb,h2] at h1
   rw [c];grind
  ·rwa [if_neg c] at h1
 ·unfold Jl
  rw [h.zero i j hi hj c]
  rcases c with c|c
  ·rw [if_neg (show i≠a by omega),if_neg (show i≠a by omega),h.zero i b hi hb (.inl c)]
   split<;>grind
  ·rw [if_neg (show j≠a by omega),h.zero b j hb hj (.inr c)]
   split<;>grind
 ·unfold Jl
  rw [h.symm i j hi hj,h.symm i b hi hb,h.symm j b hj hb]
  by_cases c:i=a
  ·by_cases c':j=a
   ·simp only [if_pos c,if_pos c'];grind
   ·simp only [if_pos c,if_neg c'];grind
  ·by_cases c':j=a
   ·simp only [if_neg c,if_pos c'];grind
   ·simp only [if_neg c,if_neg c']
end Go.Proofs.YtajkakhfcokljaaGreatDoor
namespace Go.Proofs.YtajkakhfcokljaaGreatDoor
set_option maxRecDepth 20000
structure TE (n k:Nat) (R:Nat->Nat->Rat) (M:Nat->Nat->Int) (S:Nat->Rat) (last:Int):Prop where
 elim:∃ B R',(∀ i j,i<n->j<n->Wh (B i j))/\Elim n n B R' (fun m=>m) k/\(last:Rat)=dp B (fun m=>m) k/\∀ i j,k<=i->i<n->j<n->R' i j=S i*R i j
 ne:last≠0
 val:∀ i j,k<=i->i<n->j<n->(M i j:Rat)=last*(S i*R i j)
 scale:∀ i,k<=i->i<n->0<S i
theorem TE.start{n:Nat}{A:Nat->Nat->Rat}{M:Nat->Nat->Int}{S:Nat->Rat}(h:∀ i j,i<n->j<n->(M i j:Rat)=S i*A i j)(hS:∀ i,i<n->0<S i):TE n 0 A M S 1:=by
 have e1:((1:Int):Rat)=1:=rfl
 refine ⟨⟨fun i j=>S i*A i j,fun i j=>S i*A i j,fun i j hi hj=>⟨M i j,(h i j hi hj).symm⟩,Elim.start,rfl,fun _ _ _ _ _=>rfl⟩,by decide,fun i j _ hi hj=>?_,fun i _ hi=>hS i hi⟩
 rw [e1,Rat.one_mul,h i j hi hj]
theorem TE.congr{n k:Nat}{R R':Nat->Nat->Rat}{M M':Nat->Nat->Int}{S S':Nat->Rat}{last:Int}(h:TE n k R M S last)(hR:∀ i j,k<=i->i<n->j<n->R i j=R' i j)(hM:∀ i j,k<=i->i<n->j<n->M i j=M' i j)(hS:∀ i,k<=i->i<n->S i=S' i):TE n k R' M' S' last:=by
 obtain ⟨B,X,h1,h2,h3,h4⟩:=h.elim
 exact ⟨⟨B,X,h1,h2,h3,fun i j a b c=>by rw [<- hS i a b,<- hR i j a b c];exact h4 i j a b c⟩,h.ne,fun i j a b c=>by rw [<- hM i j a b c,<- hS i a b,<- hR i j a b c];exact h.val i j a b c,fun i a b=>by rw [<- hS i a b];exact h.scale i a b⟩
theorem TE.zero{n k:Nat}{R:Nat->Nat->Rat}{M:Nat->Nat->Int}{S:Nat->Rat}{last:Int}(h:TE n k R M S last){i j:Nat}(hk:k<=i)(hi:i<n)(hj:j<n):M i j=0↔R i j=0:=by
 have hv:=h.val i j hk hi hj
 have h3:=I9 h.ne
 have h4:S i≠0:=by have:=h.scale i hk hi;grind
 constructor
 ·intro e
  rw [e] at hv
  have h0:((0:Int):Rat)=0:=rfl
  rw [h0] at hv
  rcases Rat.mul_eq_zero.1 hv.symm with e1|e1
  ·exact absurd e1 h3
  ·rcases Rat.mul_eq_zero.1 e1 with e2|e2
   ·exact absurd e2 h4
   ·exact e2
 ·intro e
  rw [e,C63,C63] at hv
  exact_mod_cast hv
theorem TE.adv{n k:Nat}{R:Nat->Nat->Rat}{M:Nat->Nat->Int}{S:Nat->Rat}{last:Int}(h:TE n k R M S last)(hk:k<n)(hne:R k k≠0):
 TE n (k+1) (fun i j=>R i j-R i k*(R k j/R k k)) (fun i j=>(M k k*M i j-M i k*M k j).tdiv last) S (M k k):=by
 obtain ⟨B,X,h1,h2,h3,h4⟩:=h.elim
 have hS:S k≠0:=by have:=h.scale k (C5h _) hk;grind
 have hX:X k k≠0:=by
  rw [h4 k k (C5h _) hk hk]
  intro e
  rcases Rat.mul_eq_zero.1 e with e|e
  ·exact hS e
  ·exact hne e
 have E:=h2.step (j:=k) hk hk rfl hX
 have hnx:=h2.next (j:=k) hk hk rfl
 have hl:(M k k:Rat)=last*X k k:=by rw [h.val k k (C5h _) hk hk,h4 k k (C5h _) hk hk]
 have hX': ∀ i j,k+1<=i->i<n->j<n->W8 X k k i j=S i*(R i j-R i k*(R k j/R k k)):=fun i j a b c=>by
  unfold W8
  rw [if_neg (by omega),h4 i j (by omega) b c,h4 i k (by omega) b hk,h4 k j (C5h _) hk c,h4 k k (C5h _) hk hk]
  grind
 refine ⟨⟨B,W8 X k k,h1,E,by rw [hnx,<- h3,hl],hX'⟩,?_,fun i j a b c=>?_,fun i a b=>h.scale i (by omega) b⟩
 ·intro e
  rw [(h.zero (C5h _) hk hk)] at e
  exact hne e
 ·obtain ⟨z,hz⟩:=E.whole h1 (i:=i) (j:=j) b c
  rw [hnx,<- h3,<- hl] at hz
  have hlast:=I9 h.ne
  have e1:M k k*M i j-M i k*M k j=last*z:=by
   have:((M k k*M i j-M i k*M k j:Int):Rat)=((last*z:Int):Rat):=by
    rw [Rat.intCast_sub,C5z,C5z,C5z,<- hz,hl,h.val i j (by omega) b c,h.val i k (by omega) b hk,h.val k j (C5h _) hk c]
    rw [hX' i j a b c,h4 k k (C5h _) hk hk]
    grind
   exact_mod_cast this
  rw [Rw h.ne e1,<- hz,hX' i j a b c]
theorem TE.swap{n k l:Nat}{R:Nat->Nat->Rat}{M:Nat->Nat->Int}{S:Nat->Rat}{last:Int}(h:TE n k R M S last)(hkl:k<=l)(hl:l<n):
 TE n k (fun i j=>R (xch k l i) (xch k l j)) (fun i j=>M (xch k l i) (xch k l j)) (fun i=>S (xch k l i)) last:=by
 obtain ⟨B,X,h1,h2,h3,h4⟩:=h.elim
 have hk:k<n:=by omega
 have lt:∀ {i},i<n->xch k l i<n:=fun hi=>Z5 hk hl hi
 have ge:∀ {i},k<=i->k<=xch k l i:=fun hi=>A5c hkl hi
 have E:=h2.swap hkl hl
 refine ⟨⟨fun i j=>B (xch k l i) (xch k l j),fun i j=>X (xch k l i) (xch k l j),fun i j hi hj=>h1 _ _ (lt hi) (lt hj),⟨E.kn,fun m hm=>by omega,fun a m ha hm=>?_,fun i m hi hki hm=>?_,fun a j ha hj=>?_,fun i j hi hki hj=>?_⟩,?_,fun i j a b c=>h4 _ _ (ge a) (lt b) (lt c)⟩,h.ne,fun i j a b c=>h.val _ _ (ge a) (lt b) (lt c),fun i a b=>h.scale _ (ge a) (lt b)⟩
 ·rw [Z6 hkl hm];exact E.piv a m ha hm
 ·rw [Z6 hkl hm];exact E.low i m hi hki hm
 ·rw [E.top a _ ha (lt hj)]
  exact C6 fun m hm=>by rw [Z6 hkl hm]
 ·rw [E.bot i _ hi hki (lt hj)]
  congr 1
  exact C6 fun m hm=>by rw [Z6 hkl hm]
 ·rw [h3]
  exact P0 fun c r hc hr=>by show B r c=B (xch k l r) (xch k l c);rw [Z6 hkl hr,Z6 hkl hc]
theorem TE.addRow{n k a b:Nat}{R:Nat->Nat->Rat}{M:Nat->Nat->Int}{S:Nat->Rat}{last x y:Int}{s:Rat}(h:TE n k R M S last)(hka:k<=a)(ha:a<n)(hkb:k<=b)(hb:b<n)(hs:0<s)(hx:s=x*S a)(hy:s=y*S b):
 TE n k (fun i j=>R i j+if i=a then R b j else 0) (fun i j=>if i=a then M a j*x+M b j*y else M i j) (fun i=>if i=a then s else S i) last:=by
 obtain ⟨B,X,h1,h2,h3,h4⟩:=h.elim
 have w:∀ z:Int,Wh (z:Rat):=fun z=>⟨z,rfl⟩
 refine ⟨⟨fun i j=>if i=a then x*B a j+y*B b j else B i j,fun i j=>if i=a then x*X a j+y*X b j else X i j,fun i j hi hj=>?_,⟨h2.kn,h2.cw,fun l m hl hm=>?_,fun i m hi hki hm=>?_,fun l j hl hj=>?_,fun i j hi hki hj=>?_⟩,?_,fun i j hki hi hj=>?_⟩,h.ne,fun i j hki hi hj=>?_,fun i hki hi=>?_⟩
 ·dsimp only;split
  ·exact ((w x).mul (h1 a j ha hj)).add ((w y).mul (h1 b j hb hj))
  ·exact h1 i j hi hj
 ·rw [if_neg (by omega)];exact h2.piv l m hl hm
 ·have z:=fun i hi hki=>h2.low i m hi hki hm
  split
  ·rw [z a ha hka,z b hb hkb];grind
  ·exact z i hi hki
 ·rw [if_neg (by omega),h2.top l j hl hj]
  exact C6 fun m hm=>by rw [if_neg (by omega),if_neg (by omega)]
 ·by_cases c:i=a
  ·rw [if_pos c,if_pos c,h2.bot a j ha hka hj,h2.bot b j hb hkb hj]
   have e:(sm k fun m=>(if i=a then x*B a m+y*B b m else B i m)*(if m=a then x*X a j+y*X b j else X m j))=x*sm k (fun m=>B a m*X m j)+y*sm k (fun m=>B b m*X m j):=by
    rw [<- Bb,<- Bb,<- U9]
    exact C6 fun m hm=>by rw [if_pos c,if_neg (by omega)];grind
   rw [e]
   grind
  ·rw [if_neg c,if_neg c,h2.bot i j hi hki hj]
   congr 1
   exact C6 fun m hm=>by rw [if_neg c,if_neg (by omega)]
 ·rw [h3]
  exact P0 fun c r hc hr=>by dsimp only;rw [if_neg (by omega)]
 ·dsimp only
  by_cases c:i=a
  ·rw [if_pos c,if_pos c,if_pos c,h4 a j hka ha hj,h4 b j hkb hb hj,c]
   grind
  ·rw [if_neg c,if_neg c,if_neg c,h4 i j hki hi hj,C5n]
 ·by_cases c:i=a
  ·rw [if_pos c,if_pos c,if_pos c,C6p,C5z,C5z,h.val a j hka ha hj,h.val b j hkb hb hj,c]
   grind
  ·rw [if_neg c,if_neg c,if_neg c,h.val i j hki hi hj,C5n]
 ·split
  ·exact hs
  ·exact h.scale i hki hi
theorem TE.addCol{n k a b:Nat}{R:Nat->Nat->Rat}{M:Nat->Nat->Int}{S:Nat->Rat}{last:Int}(h:TE n k R M S last)(hka:k<=a)(ha:a<n)(hkb:k<=b)(hb:b<n):
 TE n k (fun i j=>R i j+if j=a then R i b else 0) (fun i j=>if j=a then M i a+M i b else M i j) S last:=by
 obtain ⟨B,X,h1,h2,h3,h4⟩:=h.elim
 refine ⟨⟨fun i j=>B i j+if j=a then B i b else 0,fun i j=>X i j+if j=a then X i b else 0,fun i j hi hj=>?_,⟨h2.kn,h2.cw,fun l m hl hm=>?_,fun i m hi hki hm=>?_,fun l j hl hj=>?_,fun i j hi hki hj=>?_⟩,?_,fun i j hki hi hj=>?_⟩,h.ne,fun i j hki hi hj=>?_,h.scale⟩
 ·dsimp only;split
  ·exact (h1 i j hi hj).add (h1 i b hi hb)
  ·rw [C5n];exact h1 i j hi hj
 ·rw [if_neg (by omega),C5n];exact h2.piv l m hl hm
 ·rw [if_neg (by omega),C5n];exact h2.low i m hi hki hm
 ·have e:(sm k fun m=>(B l m+if m=a then B l b else 0)*(X m j+if j=a then X m b else 0))=sm k (fun m=>B l m*X m j)+if j=a then sm k (fun m=>B l m*X m b) else 0:=by
   by_cases c:j=a
   ·rw [if_pos c,<- U9]
    exact C6 fun m hm=>by rw [if_pos c,if_neg (by omega)];grind
   ·rw [if_neg c,C5n]
    exact C6 fun m hm=>by rw [if_neg c,if_neg (by omega)];grind
  rw [e,h2.top l j hl hj]
  by_cases c:j=a
  ·rw [if_pos c,if_pos c,h2.top l b hl hb]
  ·rw [if_neg c,if_neg c]
 ·have e:(sm k fun m=>(B i m+if m=a then B i b else 0)*(X m j+if j=a then X m b else 0))=sm k (fun m=>B i m*X m j)+if j=a then sm k (fun m=>B i m*X m b) else 0:=by
   by_cases c:j=a
   ·rw [if_pos c,<- U9]
    exact C6 fun m hm=>by rw [if_pos c,if_neg (by omega)];grind
   ·rw [if_neg c,C5n]
    exact C6 fun m hm=>by rw [if_neg c,if_neg (by omega)];grind
  rw [e,h2.bot i j hi hki hj]
  by_cases c:j=a
  ·rw [if_pos c,if_pos c,if_pos c,h2.bot i b hi hki hb];grind
  ·rw [if_neg c,if_neg c,if_neg c];grind
 ·rw [h3]
  exact P0 fun c r hc hr=>by dsimp only;rw [if_neg (by omega),C5n]
 ·dsimp only
  by_cases c:j=a
  ·rw [if_pos c,if_pos c,h4 i j hki hi hj,h4 i b hki hi hb];grind
  ·rw [if_neg c,if_neg c,h4 i j hki hi hj];grind
 ·by_cases c:j=a
  ·rw [if_pos c,if_pos c,C6p,h.val i a hki hi ha,h.val i b hki hi hb,c];grind
  ·rw [if_neg c,if_neg c,h.val i j hki hi hj];grind
end Go.Proofs.YtajkakhfcokljaaGreatDoor
