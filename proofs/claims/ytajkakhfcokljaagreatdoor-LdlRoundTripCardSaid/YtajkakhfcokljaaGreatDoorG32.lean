/-
  Texts of this proof, merged by a program of ours.
-/
import Derived.Test.YtajkakhfcokljaaGreatDoorG30
import Derived.Test.YtajkakhfcokljaaGreatDoorG31
import Derived.Test.YtajkakhfcokljaaGreatDoorG22
import Derived.Test.YtajkakhfcokljaaGreatDoorG21
open Go.Proofs.Tryz
open _root_.Go.Addr renaming add->C5u
open Classical renaming byContradiction->C5w
open _root_.Go.Instr renaming storeAt->C65
open Int renaming toNat_natCast->C5v,natCast_mul->C60,tmod->C6w
open List renaming replicate->C5s,length_append->C5t,length_replicate->C5z,not_mem_nil->C6a,getElem?_replicate->C6g,mem_cons->C6i,getD_eq_getElem?_getD->C6k,getElem?_eq_getElem->C6o,length_set->C6q,length_nil->C6r,range->C72
open List.cons renaming injEq->C6s
open Nat renaming le_refl->C5q,mul_le_mul_right->C5r,div_lt_of_lt_mul->C5x,mul_le_mul->C5y,mul_comm->C61,add_mul_mod_self_right->C63,lt_irrefl->C64,add_mul_div_right->C67,mod_eq_of_lt->C68,div_eq_of_lt->C69,one_mul->C6b,add_mul->C6c,zero_add->C6d,mod_lt->C6e,le_trans->C6h,not_lt_zero->C6j,zero_mul->C6n,add_comm->C6p,pow_le_pow_right->C6t,zero_le->C70
open Rat renaming zero_mul->C62,add_zero->C66,mul_inv_cancel->C6f,sub_eq_add_neg->C6l,mul_zero->C6m,mul_nonneg->C6u,div_def->C6v,divInt_eq_div->C6x,mul_comm->C6y,divInt->C71
open _root_.Go.Value.int renaming injEq->C6z
namespace Go.Proofs.YtajkakhfcokljaaGreatDoor
set_option linter.all false
set_option maxRecDepth 20000
open Go
theorem Sep.storeRaw{P:Program}{t:TypeId}{m:Nat}(one:P.cellsOf t=m/\(P.info? t).isSome=true){v:Value}{vs:List Value}(hv:v.cells=vs.toArray)(hl:vs.length=m)(h1:∀ x∈vs,A3o x=true){h g o:Heap}(s:Sep h g o){b:Nat}{arr:List Value}{e:TypeId}(hb:o b=some (.cells arr.toArray e)){off:Nat}(hoff:off+m<=arr.length){K:Unit->Heap->Prop}
 (x:∀ h' o',o'=o.put b (.cells (K5 arr off vs).toArray e)->Sep h' g o'->K () h'):wpH P (C65 t (.pointer (some ⟨b,off,none⟩)) v) K h:=by
 obtain ⟨ti,hti⟩:=Option.isSome_iff_exists.1 one.2
 have hs:ti.size=m:=by simpa [Program.cellsOf,hti] using one.1
 have hput:(h.without b).put b (.cells arr.toArray e)=h:=L4 (s.own b _ hb)
 unfold C65
 simp only [C6,Instr.sureAddr,G1,storeVar,L3 hti,hs,hv,List.size_toArray,hl,ne_eq,not_true_eq_false,if_false]
 rw [<- hput]
 refine J0 vs off 0 _ (by omega) h1 ?_
 rw [Nat.add_zero]
 have hp2:(h.without b).put b (.cells (K5 arr off vs).toArray e)=h.put b (.cells (K5 arr off vs).toArray e):=by
  rw [<- hput,Ir,hput]
 rw [hp2]
 exact x _ _ rfl (s.upd hb _)
theorem B0f:prog.cellsOf Oi=1/\(prog.info? Oi).isSome=true:=⟨by kernel_rfl,by kernel_rfl⟩
theorem B0e:prog.cellsOf V6=1/\(prog.info? V6).isSome=true:=⟨by kernel_rfl,by kernel_rfl⟩
def QB(g o:Heap)(b n:Nat)(f:Nat->Rat):Prop:=∃ xs:List QV,RowX o b xs/\xs.length=n/\Row RQr g xs n f
def onT(T:Tb)(x:Nat):Prop:=x=T.bt\/x=T.bE\/x=T.bS
section
variable {g o:Heap} {b n:Nat} {f:Nat->Rat}
theorem QB.ko(q:QB g o b n f){g' o':Heap}(l:g.le g')(e:o' b=o b):QB g' o' b n f:=by
 obtain ⟨xs,r,h1,h2⟩:=q
 exact ⟨xs,r.keep fun x hx=>by rw [e];exact hx,h1,h2.mono I7 l⟩
theorem QB.congr(q:QB g o b n f){f':Nat->Rat}(e:∀ i,i<n->f i=f' i):QB g o b n f':=by
 obtain ⟨xs,r,h1,h2⟩:=q
 exact ⟨xs,r,h1,h2.congr e⟩
theorem QB.at(q:QB g o b n f){i:Nat}(hi:i<n):∃ w:QV,RQ g w (f i)/\o.cell? (C5u (C5u ⟨b,0,none⟩ (i*4)) 0)=some (.bool w.s)/\o.cell? (C5u (C5u ⟨b,0,none⟩ (i*4)) 1)=some (.slice w.A w.n w.c)/\o.cell? (C5u (C5u ⟨b,0,none⟩ (i*4)) 2)=some (.bool w.s2)/\o.cell? (C5u (C5u ⟨b,0,none⟩ (i*4)) 3)=some (.slice w.A2 w.n2 w.c2):=by
 obtain ⟨xs,r,h1,h2⟩:=q
 obtain ⟨w,e1,hw⟩:=h2 i hi
 have hlt:i<xs.length:=by omega
 have cell:∀ k v,(enc xs[i])[k]? = some v->o.cell? (C5u (C5u ⟨b,0,none⟩ (i*4)) k)=some v:=by
  intro k v hk
  rw [D9,D9,C6d]
  exact r.rowB.cell (i:=i) hlt (j:=k) hk
 rw [C6o hlt] at e1
 have e2:=Option.some.inj e1
 rw [e2] at cell
 exact ⟨w,hw,cell 0 _ rfl,cell 1 _ rfl,cell 2 _ rfl,cell 3 _ rfl⟩
theorem QB.rowV(q:QB g o b n f){h:Heap}(s:Sep h g o):RowV RQr h (some ⟨b,0,none⟩) n f:=by
 obtain ⟨xs,r,h1,h2⟩:=q
 exact ⟨xs,r.rowB.slF s.ole,h1,h2.mono I7 s.le⟩
theorem QB.store(q:QB g o b n f){h:Heap}(s:Sep h g o){i:Nat}(hi:i<n){w:QV}{z:Rat}(hw:RQ g w z){K:Unit->Heap->Prop}
 (k:∀ h' o',Sep h' g o'->QB g o' b n (fun a=>if a=i then z else f a)->(∀ y,y≠b->o' y=o y)->K () h'):wpH prog (C65 E8 (.pointer (some (C5u ⟨b,0,none⟩ (i*4)))) w.v) K h:=by
 obtain ⟨xs,r,h1,h2⟩:=q
 have hlt:i<xs.length:=by omega
 refine Ev Ym (y:=w) rfl s r (i:=i) hlt ?_
 intro h' o' x' eo s' r'
 exact k h' o' s' ⟨_,r',by rw [C6q];exact h1,Row.upd h2 hlt hw⟩ (fun y hy=>by rw [eo,B8 _ _ hy])
end
structure El (h g o:Heap) (be:Nat) (T:Tb) (M:Nat->Nat->Int) (S:Nat->Rat) (n k:Nat) (w:IV) (z:Int) (L D:Value):Prop where
 t:Tab h g o T M S
 rows:T.rows=n
 cols:T.cols=n
 hd:∃ e,o be=some (.cells (List.toArray [I (n:Int),I (k:Int),.pointer (some ⟨T.bt,0,none⟩),.bool w.s,.slice w.A w.n w.c,L,D]) e)
 off:¬ onT T be
 last:ZIr g w z
section
variable {h g o:Heap} {be:Nat} {T:Tb} {M:Nat->Nat->Int} {S:Nat->Rat} {n k:Nat} {w:IV} {z:Int} {L D:Value} {K:VP} {m:Nat}
theorem El.cell(X:El h g o be T M S n k w z L D){i:Nat}{v:Value}(hv:[I (n:Int),I (k:Int),.pointer (some ⟨T.bt,0,none⟩),.bool w.s,.slice w.A w.n w.c,L,D][i]? = some v):h.cell? ⟨be,i,none⟩=some v:=by
 obtain ⟨e,he⟩:=X.hd
 refine X.t.sep.cell ?_
 unfold Heap.cell?
 simp only [he]
 simpa using hv
theorem El.c0(X:El h g o be T M S n k w z L D):h.cell? (C5u ⟨be,0,none⟩ 0)=some (I (n:Int)):=by rw [D9];exact X.cell rfl
theorem El.c1(X:El h g o be T M S n k w z L D):h.cell? (C5u ⟨be,0,none⟩ 1)=some (I (k:Int)):=by rw [D9];exact X.cell rfl
theorem El.c2(X:El h g o be T M S n k w z L D):h.cell? (C5u ⟨be,0,none⟩ 2)=some (.pointer (some ⟨T.bt,0,none⟩)):=by rw [D9];exact X.cell rfl
theorem El.c3(X:El h g o be T M S n k w z L D):h.cell? (C5u (C5u ⟨be,0,none⟩ 3) 0)=some (.bool w.s):=by rw [D9,D9];exact X.cell rfl
theorem El.c4(X:El h g o be T M S n k w z L D):h.cell? (C5u (C5u ⟨be,0,none⟩ 3) 1)=some (.slice w.A w.n w.c):=by rw [D9,D9];exact X.cell rfl
theorem El.c5(X:El h g o be T M S n k w z L D):h.cell? (C5u ⟨be,0,none⟩ 5)=some L:=by rw [D9];exact X.cell rfl
theorem El.c6(X:El h g o be T M S n k w z L D):h.cell? (C5u ⟨be,0,none⟩ 6)=some D:=by rw [D9];exact X.cell rfl
theorem El.next(X:El h g o be T M S n k w z L D){h' g':Heap}(s:Sep h' g' o)(l:g.le g'):El h' g' o be T M S n k w z L D:=⟨X.t.next s l,X.rows,X.cols,X.hd,X.off,Ml _ _ _ _ l X.last⟩
theorem Tab.away(t:Tab h g o T M S){h' o':Heap}(s:Sep h' g o'){b:Nat}(hb:¬ onT T b)(ko:∀ y,y≠b->o' y=o y):Tab h' g o' T M S:=t.keep s (B4 _) (fun k x e hk=>by rw [ko k (fun e2=>hb (e2▸hk))];exact e)
theorem El.away(X:El h g o be T M S n k w z L D){h' o':Heap}(s:Sep h' g o'){b:Nat}(hb:¬ onT T b)(hbe:be≠b)(ko:∀ y,y≠b->o' y=o y):El h' g o' be T M S n k w z L D:=by
 obtain ⟨e,he⟩:=X.hd
 exact ⟨X.t.away s hb ko,X.rows,X.cols,⟨e,by rw [ko _ hbe];exact he⟩,X.off,X.last⟩
theorem El.set(X:El h g o be T M S n k w z L D){t:TypeId}{q off:Nat}{v:Value}{vs:List Value}(one:prog.cellsOf t=q/\(prog.info? t).isSome=true)(hv:v.cells=vs.toArray)(hl:vs.length=q)(h1:∀ x∈vs,A3o x=true)(hoff:off+q<=7){n' k':Nat}{w':IV}{z':Int}{L' D':Value}(hn:n'=n)(hw:ZIr g w' z')
 (hs:K5 [I (n:Int),I (k:Int),.pointer (some ⟨T.bt,0,none⟩),.bool w.s,.slice w.A w.n w.c,L,D] off vs=[I (n':Int),I (k':Int),.pointer (some ⟨T.bt,0,none⟩),.bool w'.s,.slice w'.A w'.n w'.c,L',D'])
 {K:Unit->Heap->Prop} (x:∀ h' o',El h' g o' be T M S n' k' w' z' L' D'->(∀ y,y≠be->o' y=o y)->K () h'):wpH prog (C65 t (.pointer (some (C5u ⟨be,0,none⟩ off))) v) K h:=by
 obtain ⟨e,he⟩:=X.hd
 rw [D9,C6d]
 refine X.t.sep.storeRaw one hv hl h1 he hoff ?_
 intro h' o' eo s'
 have ko:∀ y,y≠be->o' y=o y:=fun y hy=>by rw [eo,B8 _ _ hy]
 subst hn
 exact x h' o' ⟨X.t.away s' X.off ko,X.rows,X.cols,⟨e,by rw [eo,C3,hs]⟩,X.off,hw⟩ ko
theorem B27(X:El h g o be T M S n k w z L D)(gl:Gl g){i j:Nat}(hi:i<n)(hj:j<n)(bm:ZB m (M i j))(bz:ZB m z)(bs:Sz m (S i))(hd:Sz m (C71 (M i j) z))(hm1:1<=m)(hm:m<=6400000000)
 (hK:∀ w' h' g',g.le g'->Sep h' g' o->h.le h'->RQ g' w' (C71 (M i j) z/S i)->K w'.v h'):FCall prog A03 #[.pointer (some ⟨be,0,none⟩),I (i:Int),I (j:Int)] h K:=by
 have hi':i<T.rows:=by rw [X.rows];exact hi
 have hj':j<T.cols:=by rw [X.cols];exact hj
 refine C2r _ _ _ ?_
 unfold EAt
 obtain ⟨ws,is,d0,d1,d2,d3⟩:=X.t.sat hi'
 obtain ⟨wm,im,e0,e1⟩:=X.t.at hi' hj'
 refine ⟨_,rfl,_,X.c2,_,rfl,_,_,_,_,X.c3,X.c4,_,rfl,_,X.c2,_,rfl,_,_,_,X.t.c2,_,rfl,by omega,by omega,_,_,_,_,_,_,_,_,d0,d1,d2,d3,?_⟩
 refine Q9 X.t hi' ⟨_,_,_,rfl,B4 _,_,rfl,by omega,by omega,_,_,_,_,e0,e1,?_⟩
 refine X.t.sep.call (T9 gl.tz im X.last bm bz hm ?_)
 intro w1 g1 l1 i1 h1 s1
 refine ⟨_,_,_,_,_,_,_,_,rfl,X.t.sep.le_le s1 l1,?_⟩
 refine s1.call (Dy (gl.mono l1).tz i1 (I7 _ _ _ _ l1 is) hd bs hm1 hm ?_)
 intro w2 g2 l2 i2 h2 s2
 exact ⟨_,_,_,_,_,_,_,_,rfl,s1.le_le s2 l2,hK w2 h2 g2 (B0 l1 l2) s2 (B0 (X.t.sep.le_le s1 l1) (s1.le_le s2 l2)) i2⟩
theorem A1w(X:El h g o be T M S n k w z L D)(hk:k<n)(hn:n<=10000)
 (hK1:∀ i:Nat,k<i->i<n->M i k≠0->K (.tuple #[I (i:Int),.bool true]) h) (hK0:(∀ j,k<j->j<n->M j k=0)->K (.tuple #[I 0,.bool false]) h):FCall prog Ej #[.pointer (some ⟨be,0,none⟩)] h K:=by
 refine A5i _ ?_
 unfold A73
 refine ⟨_,rfl,_,X.c1,?_⟩
 rw [wiS k (by omega)]
 refine ⟨fun L' hp=>∃ i:Nat,k<i/\i<=n/\L'=[I (i:Int)]/\hp=h/\∀ j,k<j->j<i->M j k=0,fun L' _=>n-(iAt L' 0).toNat,⟨k+1,by omega,by omega,rfl,rfl,fun j _ _=>by omega⟩,?_⟩
 rintro y hp ⟨i,hi1,hi2,eL,rfl,hz⟩
 obtain rfl:=sI1 eL
 refine ⟨_,rfl,_,X.c0,B6 (fun hlt=>?_) (fun hge=>hK0 fun j a b=>hz j a (by omega))⟩
 have hin:i<n:=by omega
 have hi':i<T.rows:=by rw [X.rows];exact hin
 have hk':k<T.cols:=by rw [X.cols];exact hk
 refine ⟨_,rfl,_,X.c2,_,rfl,_,X.c1,?_⟩
 obtain ⟨wm,im,e0,e1⟩:=X.t.at hi' hk'
 refine Q9 X.t hi' ⟨_,_,_,rfl,B4 _,_,rfl,by omega,by omega,_,_,_,_,e0,e1,?_⟩
 refine F1 (im.mono X.t.sep.le) ⟨_,rfl,B4 _,Br.not (B6 (fun e=>?_) (fun e=>hK1 i hi1 hin e))⟩
 rw [wiS i (by omega)]
 refine ⟨⟨i+1,by omega,by omega,rfl,rfl,fun j a b=>?_⟩,by simp only [Dm];omega⟩
 by_cases c:j=i
 ·rw [c];exact e
 ·exact hz j a (by omega)
theorem Qn(X:El h g o be T M S n k w z L D)(hk:k<n)(hn:n<=10000)(hz:z≠0)(hM:∀ a b,k<=a->a<n->b<n->ZB m (M a b))(bz:ZB m z)(hm1:1<=m)(hm:2*m+1<=100000000)
 (hK:∀ h' g' o' w',g.le g'->El h' g' o' be T (fun a b=>if k<a then (M k k*M a b-M a k*M k b).tdiv z else M a b) S n (k+1) w' (M k k) L D->(∀ b,¬ onT T b->b≠be->o' b=o b)->K (.tuple #[]) h'):FCall prog By #[.pointer (some ⟨be,0,none⟩)] h K:=by
 refine A5j _ ?_
 unfold A74
 refine ⟨_,rfl,_,X.c1,?_⟩
 rw [wiS k (by omega)]
 refine ⟨fun L' hp=>∃ (i:Nat) (g1 o1:Heap),k<i/\i<=n/\L'=[I (i:Int)]/\g.le g1/\El hp g1 o1 be T (fun a b=>if k<a/\a<i then (M k k*M a b-M a k*M k b).tdiv z else M a b) S n k w z L D/\(∀ b,¬ onT T b->b≠be->o1 b=o b),fun L' _=>n-(iAt L' 0).toNat,⟨k+1,g,o,by omega,by omega,rfl,B4 _,⟨X.t.congr (fun a b _ _=>by rw [if_neg (by omega)]) (fun _ _=>rfl),X.rows,X.cols,X.hd,X.off,X.last⟩,fun _ _ _=>rfl⟩,?_⟩
 rintro y hp ⟨i,g1,o1,hi1,hi2,eL,lg,X1,ko⟩
 obtain rfl:=sI1 eL
 refine ⟨_,rfl,_,X1.c0,B6 (fun hlt=>?_) (fun hge=>?_)⟩
 ·have hin:i<n:=by omega
  refine ⟨_,rfl,_,X1.c2,_,rfl,_,_,_,_,X1.c3,X1.c4,?_⟩
  have er:=X.rows
  have ec:=X.cols
  refine A83 (m:=m) X1.t (i:=i) (p:=k) (c:=k) (by omega) (by omega) (by omega) (by omega) X1.last hz hm1 hm (fun b hb=>by rw [if_neg (by omega)];exact hM i b (by omega) hin (by omega)) (fun b hb=>by rw [if_neg (by omega)];exact hM k b (C5q _) hk (by omega)) bz ?_
  intro h2 g2 o2 l2 t2 ko2
  rw [wiS i (by omega)]
  have hbe:be≠T.bE:=fun e=>X.off (.inr (.inl e))
  obtain ⟨e,he⟩:=X1.hd
  refine ⟨rfl,⟨i+1,g2,o2,by omega,by omega,rfl,B0 lg l2,⟨t2.congr (fun a b _ _=>?_) (fun _ _=>rfl),er,ec,⟨e,by rw [ko2 _ hbe];exact he⟩,X.off,Ml _ _ _ _ l2 X1.last⟩,fun b hb hb2=>by rw [ko2 b (fun e=>hb (.inr (.inl e)))];exact ko b hb hb2⟩,by simp only [Dm];omega⟩
  by_cases c:a=i
  ·have q1:¬ (k<k/\k<i):=by omega
   have q2:¬ (k<i/\i<i):=by omega
   simp only [if_neg q1,if_neg q2]
   rw [if_pos c,if_pos (show k<a/\a<i+1 by omega),c]
  ·rw [if_neg c]
   by_cases c2:k<a/\a<i
   ·rw [if_pos c2,if_pos (by omega)]
   ·rw [if_neg c2,if_neg (show ¬ (k<a/\a<i+1) by omega)]
 ·have hie:i=n:=by omega
  subst hie
  have hk':k<T.rows:=by rw [X.rows];exact hk
  have hk2:k<T.cols:=by rw [X.cols];exact hk
  refine ⟨_,rfl,_,X1.c2,?_⟩
  obtain ⟨wm,im,e0,e1⟩:=X1.t.at hk' hk2
  rw [if_neg (by omega)] at im
  refine Q9 X1.t hk' ⟨_,_,_,rfl,_,rfl,by omega,by omega,_,_,_,_,e0,e1,?_⟩
  refine ⟨_,rfl,?_⟩
  refine X1.set (n':=i) (k':=k) (w':=wm) (z':=M k k) (L':=L) (D':=D) (vs:=[.bool wm.s,.slice wm.A wm.n wm.c]) Se rfl rfl (by intro x hx;simp only [C6i,C6a,or_false] at hx;rcases hx with rfl|rfl<;>rfl) (by omega) rfl im rfl ?_
  intro h3 o3 X3 ko3
  refine ⟨_,rfl,_,X3.c1,_,rfl,?_⟩
  rw [wiS k (by omega)]
  refine X3.set (n':=i) (k':=k+1) (w':=wm) (z':=M k k) (L':=L) (D':=D) (vs:=[I ((k+1:Nat):Int)]) B0f rfl rfl (by intro x hx;simp only [C6i,C6a,or_false] at hx;subst hx;rfl) (by omega) rfl im rfl ?_
  intro h4 o4 X4 ko4
  refine hK h4 g1 o4 wm lg ⟨X4.t.congr (fun a b ha hb=>?_) (fun _ _=>rfl),X4.rows,X4.cols,X4.hd,X4.off,X4.last⟩ (fun b hb hb2=>by rw [ko4 b hb2,ko3 b hb2];exact ko b hb hb2)
  have:a<i:=by rw [<- X.rows];exact ha
  by_cases c:k<a
  ·rw [if_pos ⟨c,this⟩,if_pos c]
  ·rw [if_neg (fun x=>c x.1),if_neg c]
end
theorem C3t{l s r:Rat}(hl:l≠0)(hs:s≠0):l*(s*r)/l/s=r:=by
 have h1:=C6f _ hl
 have h2:=C6f _ hs
 rw [C6v,C6v]
 grind
section
variable {E:Nat->Rat} {n k:Nat}
theorem B1j(sy:Ve n (mtx E n))(hk:k<=n)(ok:∀ m,m<k->Js (mtx E n) n m):LdR n k (mtx E n) (elE E n n k):=LdR.run sy k hk ok
theorem B78(hk:k<n):A5w n k (elP E n n k)=A5x n k (elE E n n k):=(B1k E (Nat.le_of_lt hk)).row hk
theorem A6j(sy:Ve n (mtx E n))(hk:k<n)(ok:∀ m,m<=k->Js (mtx E n) n m)(e:ldA (mtx E n) k k k=0):elP E n n (k+1)=elP E n n k:=by
 have r:=B78 (E:=E) hk
 rw [(B1j sy (by omega) fun m hm=>ok m (by omega)).none hk e (ok k (C5q _))] at r
 show Yp n k (elP E n n k)=_
 unfold Yp
 rw [r,if_neg (C64 n)]
theorem A6i(sy:Ve n (mtx E n))(hk:k<n)(ok:∀ m,m<k->Js (mtx E n) n m)(e:ldA (mtx E n) k k k≠0):
 (∀ i j,k<i->i<n->(elP E n n (k+1)).M i j=((elP E n n k).M k k*(elP E n n k).M i j-(elP E n n k).M i k*(elP E n n k).M k j).tdiv (elP E n n k).last)/\(elP E n n (k+1)).last=(elP E n n k).M k k/\∀ i,k<i->(elP E n n (k+1)).S i=(elP E n n k).S i:=by
 have R:=B1j sy (by omega) ok
 have r:=B78 (E:=E) hk
 rw [R.row hk e] at r
 have hl:=R.len
 rw [<- C47 E (Nat.le_of_lt hk)] at hl
 have se:elP E n n (k+1)=Yp n k (elP E n n k):=rfl
 unfold Yp at se
 rw [r,if_pos hk] at se
 generalize elP E n n k=s at *
 have x1:=It s.cs.length k
 have x2:∀ i,k<i->xch s.cs.length k i=i:=fun i hi=>by unfold xch;rw [if_neg (by omega),if_neg (by omega)]
 rw [se]
 refine ⟨fun i j hi _=>?_,rfl,fun i hi=>?_⟩
 ·show clr (fun i=>s.M (xch s.cs.length k i)) s.cs.length k s.last i j=_
  unfold clr
  rw [if_neg (by omega)]
  show (s.M (xch s.cs.length k s.cs.length) k*s.M (xch s.cs.length k i) j-s.M (xch s.cs.length k i) k*s.M (xch s.cs.length k s.cs.length) j).tdiv s.last=_
  rw [x1,x2 i hi]
 ·show s.S (xch s.cs.length k i)=_
  rw [x2 i hi]
theorem C5n(sy:Ve n (mtx E n)):∀ k,k<=n->(∀ m,m<k->Js (mtx E n) n m)->∀ i,k<=i->i<n->(elP E n n k).S i=Sd E n i:=by
 intro k
 induction k with
 | zero=>intro _ _ i _ _;rfl
 | succ k ih=>
  intro hk ok i hi hin
  have ih':=ih (by omega) (fun m hm=>ok m (by omega)) i (by omega) hin
  by_cases e:ldA (mtx E n) k k k=0
  ·rw [A6j sy hk (fun m hm=>ok m (by omega)) e];exact ih'
  ·rw [(A6i sy hk (fun m hm=>ok m (by omega)) e).2.2 i (by omega)];exact ih'
structure LdF (E:Nat->Rat) (n k Q:Nat):Prop where
 val:∀ i j,k<=i->i<n->j<n->((elP E n n k).M i j:Rat)=(elP E n n k).last*(Sd E n i*ldA (mtx E n) k i j)
 last:(elP E n n k).last≠0
 zM:∀ a b,a<n->b<n->ZB Q ((elP E n n k).M a b)
 zl:ZB Q (elP E n n k).last
 zS:∀ a,a<n->Sz Q (Sd E n a)
 zA:∀ i j,k<=i->i<n->j<n->Sz Q (ldA (mtx E n) k i j)
theorem ldF{m Q:Nat}(hs:∀ i,i<n*n->Sz m (E i))(hQ1:3^n*bnd n m+bnd n m<=Q)(sy:Ve n (mtx E n))(hk:k<=n)(ok:∀ m,m<k->Js (mtx E n) n m):LdF E n k Q:=by
 have rel:=B1k E (rows:=n) (cols:=n) hk
 have R:=B1j sy hk ok
 have hlen:=R.len
 have z:=C1v (E:=E) (rows:=n) (cols:=n) (c:=k) hs hk
 have hbn1:1<=bnd n m:=by unfold bnd;omega
 have hb3:3^(elP E n n k).cs.length*bnd n m<=3^n*bnd n m:=C5r _ (C6t (by decide) z.len)
 have hS:=C5n sy k hk ok
 have val:∀ i j,k<=i->i<n->j<n->((elP E n n k).M i j:Rat)=(elP E n n k).last*(Sd E n i*ldA (mtx E n) k i j):=fun i j hi hin hj=>by
  rw [rel.val i j hin hj,if_neg (by omega),R.low i j hi hin hj,hS i hi hin]
 have zS:∀ a,a<n->Sz (bnd n m) (Sd E n a):=fun a ha=>Yk fun j hj=>hs _ (L0 ha hj)
 refine ⟨val,rel.last,fun a b ha hb=>(z.M a b ha hb).mono (by omega),z.last.mono (by omega),fun a ha=>(zS a ha).mono (by omega),fun i j hi hin hj=>?_⟩
 have e:ldA (mtx E n) k i j=C71 ((elP E n n k).M i j) (elP E n n k).last/Sd E n i:=by
  have hp:=Lq E n i
  rw [C6x,val i j hi hin hj,C3t (J5 rel.last) (by grind)]
 rw [e]
 exact ((Al rel.last (z.M i j hin hj) z.last).div (zS i hin) hbn1).mono (by omega)
end
def Ow(A:Nat->Nat->Rat)(n k:Nat):Nat->Rat:=fun t=>if t%n<k then ldL A (t/n) (t%n) else 0
def Rv(A:Nat->Nat->Rat)(k:Nat):Nat->Rat:=fun j=>if j<k then ldD A j else 0
structure Ld (h g o:Heap) (be bl bd:Nat) (T:Tb) (E:Nat->Rat) (n k:Nat) (M:Nat->Nat->Int) (w:IV) (Lf Df:Nat->Rat):Prop where
 e:El h g o be T M (Sd E n) n k w (elP E n n k).last (.slice (some ⟨bl,0,none⟩) (n*n) (n*n)) (.slice (some ⟨bd,0,none⟩) n n)
 m:∀ i j,k<=i->i<n->j<n->M i j=(elP E n n k).M i j
 l:QB g o bl (n*n) Lf
 d:QB g o bd n Df
 tl:¬ onT T bl
 td:¬ onT T bd
 el:be≠bl
 ed:be≠bd
 ld:bl≠bd
section
variable {h g o:Heap} {be bl bd:Nat} {T:Tb} {E:Nat->Rat} {n k:Nat} {M:Nat->Nat->Int} {w:IV} {Lf Df:Nat->Rat} {K:VP} {Q:Nat}
theorem Ld.next(X:Ld h g o be bl bd T E n k M w Lf Df){h' g':Heap}(s:Sep h' g' o)(l:g.le g'):Ld h' g' o be bl bd T E n k M w Lf Df:=⟨X.e.next s l,X.m,X.l.ko l rfl,X.d.ko l rfl,X.tl,X.td,X.el,X.ed,X.ld⟩
theorem Ld.congr(X:Ld h g o be bl bd T E n k M w Lf Df){Lf' Df':Nat->Rat}(e1:∀ i,i<n*n->Lf i=Lf' i)(e2:∀ i,i<n->Df i=Df' i):Ld h g o be bl bd T E n k M w Lf' Df':=⟨X.e,X.m,X.l.congr e1,X.d.congr e2,X.tl,X.td,X.el,X.ed,X.ld⟩
theorem Ld.storeL(X:Ld h g o be bl bd T E n k M w Lf Df){i:Nat}(hi:i<n*n){v:QV}{z:Rat}(hv:RQ g v z){K:Unit->Heap->Prop}
 (x:∀ h' o',Ld h' g o' be bl bd T E n k M w (fun a=>if a=i then z else Lf a) Df->K () h'):wpH prog (C65 E8 (.pointer (some (C5u ⟨bl,0,none⟩ (i*4)))) v.v) K h:=by
 refine X.l.store X.e.t.sep hi hv ?_
 intro h' o' s' q ko
 exact x h' o' ⟨X.e.away s' X.tl X.el ko,X.m,q,X.d.ko (B4 _) (ko _ X.ld.symm),X.tl,X.td,X.el,X.ed,X.ld⟩
theorem Ld.storeD(X:Ld h g o be bl bd T E n k M w Lf Df){i:Nat}(hi:i<n){v:QV}{z:Rat}(hv:RQ g v z){K:Unit->Heap->Prop}
 (x:∀ h' o',Ld h' g o' be bl bd T E n k M w Lf (fun a=>if a=i then z else Df a)->K () h'):wpH prog (C65 E8 (.pointer (some (C5u ⟨bd,0,none⟩ (i*4)))) v.v) K h:=by
 refine X.d.store X.e.t.sep hi hv ?_
 intro h' o' s' q ko
 exact x h' o' ⟨X.e.away s' X.td X.ed ko,X.m,X.l.ko (B4 _) (ko _ X.ld),q,X.tl,X.td,X.el,X.ed,X.ld⟩
theorem Ld.at(X:Ld h g o be bl bd T E n k M w Lf Df)(gl:Gl g)(F:LdF E n k Q){i j:Nat}(hk:k<=i)(hi:i<n)(hj:j<n)(hQ1:1<=Q)(hQ:Q<=6400000000)
 (hK:∀ w' h' g',g.le g'->Sep h' g' o->h.le h'->RQ g' w' (ldA (mtx E n) k i j)->K w'.v h'):FCall prog A03 #[.pointer (some ⟨be,0,none⟩),I (i:Int),I (j:Int)] h K:=by
 have em:=X.m i j hk hi hj
 have hS:=Lq E n i
 refine B27 (m:=Q) X.e gl hi hj (by rw [em];exact F.zM i j hi hj) F.zl (F.zS i hi) (by rw [em];exact Al F.last (F.zM i j hi hj) F.zl) hQ1 hQ ?_
 intro w' h' g' lg s lh iq
 refine hK w' h' g' lg s lh ?_
 rw [em,C6x,F.val i j hk hi hj,C3t (J5 F.last) (by grind)] at iq
 exact iq
theorem Ld.partner(X:Ld h g o be bl bd T E n k M w Lf Df)(F:LdF E n k Q)(hk:k<n)(hn:n<=10000):FCall prog Ej #[.pointer (some ⟨be,0,none⟩)] h (fun r h'=>h'=h/\∃ (a:Nat) (b:Bool),r= .tuple #[I (a:Int),.bool b]/\(b=true->k<a/\a<n/\ldA (mtx E n) k a k≠0)/\(b=false->∀ j,k<j->j<n->ldA (mtx E n) k j k=0)):=by
 have key:∀ i,k<=i->i<n->(M i k=0↔ldA (mtx E n) k i k=0):=fun i hki hi=>by
  have hv:=F.val i k hki hi hk
  have h3:=J5 F.last
  have h4:Sd E n i≠0:=by have:=Lq E n i;grind
  rw [X.m i k hki hi hk]
  constructor
  ·intro e
   rw [e] at hv
   have h0:((0:Int):Rat)=0:=rfl
   rw [h0] at hv
   rcases Rat.mul_eq_zero.1 hv.symm with e1|e1
   ·exact absurd e1 h3
   ·rcases Rat.mul_eq_zero.1 e1 with e2|e2
    ·exact absurd e2 h4
    ·exact e2
  ·intro e
   rw [e,C6m,C6m] at hv
   exact_mod_cast hv
 refine A1w X.e hk hn (fun i h1 h2 h3=>⟨rfl,i,true,rfl,fun _=>⟨h1,h2,fun e=>h3 ((key i (by omega) h2).2 e)⟩,fun e=>by cases e⟩) (fun hz=>⟨rfl,0,false,rfl,(fun e=>by cases e),fun _ j h1 h2=>(key j (by omega) h2).1 (hz j h1 h2)⟩)
end
theorem Si{q:Rat}:q.num.sign<0↔q<0:=by
 have h1:q.num.sign<0↔q.num<0:=by
  rcases Int.lt_trichotomy q.num 0 with c|c|c
  ·rw [Int.sign_eq_neg_one_of_neg c];exact ⟨fun _=>c,fun _=>by decide⟩
  ·rw [c];exact ⟨fun h=>by simp at h,fun h=>by omega⟩
  ·rw [Int.sign_eq_one_of_pos c];exact ⟨fun h=>by omega,fun h=>by omega⟩
 have h2:=Rat.num_nonneg (q:=q)
 rw [h1]
 constructor
 ·intro h
  refine C5w fun hn=>?_
  have:0<=q:=by grind
  have:=h2.2 this
  omega
 ·intro h
  refine C5w fun hn=>?_
  have:=h2.1 (by omega)
  grind
theorem Ai{n i j:Nat}(hj:j<n):(i*n+j)/n=i/\(i*n+j)%n=j:=by
 refine ⟨?_,?_⟩
 ·rw [C61,Nat.mul_add_div (by omega),C69 hj,Nat.add_zero]
 ·rw [C61,Nat.mul_add_mod,C68 hj]
def B91(A:Nat->Nat->Rat)(n k i:Nat):Nat->Rat:=fun t=>if t%n=k/\t/n<i then ldL A (t/n) k else Ow A n k t
theorem A64(A:Nat->Nat->Rat){n k i:Nat}(h:i=n\/ldA A k k k=0/\k<i):∀ t,t<n*n->B91 A n k i t=Ow A n (k+1) t:=by
 intro t ht
 unfold B91 Ow
 have hd:t/n<n:=C5x ht
 by_cases c:t%n=k
 ·rw [if_pos (show t%n<k+1 by omega),c]
  by_cases c2:t/n<i
  ·rw [if_pos ⟨rfl,c2⟩]
  ·rw [if_neg (fun x=>c2 x.2),if_neg (C64 k)]
   rcases h with h|⟨h1,h2⟩
   ·omega
   ·unfold ldL
    rw [if_neg (by omega),if_neg (by omega),if_pos h1]
 ·rw [if_neg (fun x=>c x.1)]
  by_cases c2:t%n<k
  ·rw [if_pos c2,if_pos (by omega)]
  ·rw [if_neg c2,if_neg (by omega)]
theorem B1u(A:Nat->Nat->Rat)(k:Nat):(fun a=>if a=k then ldA A k k k else Rv A k a)=Rv A (k+1):=by
 funext a
 unfold Rv ldD
 by_cases c:a=k
 ·rw [if_pos c,if_pos (by omega),c]
 ·rw [if_neg c]
  by_cases c2:a<k
  ·rw [if_pos c2,if_pos (by omega)]
  ·rw [if_neg c2,if_neg (by omega)]
section
variable {h:Heap} {A:Option Addr} {E:Nat->Rat} {n cap m Q:Nat} {K:VP}
theorem Jv(gl:Gl h)(rq:RowV RQr h A (n*n) E)(hcap:n*n<=cap)(hn1:1<=n)(hn:n<=64)(sy:Ve n (mtx E n))(hs:∀ i,i<n*n->Sz m (E i))(hQ1:3^n*bnd n m+bnd n m<=Q)(hQ:2*Q+1<=100000000)
 (hK1:(∀ k,k<n->Js (mtx E n) n k)->∀ h' g' o' be bl bd T M w,h.le h'->h.le g'->Ld h' g' o' be bl bd T E n n M w (Ow (mtx E n) n n) (Rv (mtx E n) n)->K (.tuple #[.pointer (some ⟨be,0,none⟩),.bool true]) h')
 (hK0:∀ k,k<n->(∀ k',k'<k->Js (mtx E n) n k')->¬ Js (mtx E n) n k->∀ h' g' o' be bl bd T M w,h.le h'->h.le g'->Ld h' g' o' be bl bd T E n k M w (Ow (mtx E n) n k) (Rv (mtx E n) k)->K (.tuple #[.pointer (some ⟨be,0,none⟩),.bool false]) h'):FCall prog Db #[.slice A (n*n) cap,I (n:Int)] h K:=by
 have hnn:n*n<=64*64:=C5y hn hn
 have hnp:1<=n*n:=Nat.mul_pos hn1 hn1
 have hb:bnd n m<=Q:=by omega
 have hbe:bnd n m=1+n*m+m:=rfl
 refine A0z _ _ _ _ ?_
 unfold Yc
 refine Di _ _ _ _ ?_
 unfold Cu
 refine Mh (m:=m) gl rq hcap hn1 (by omega) hn1 (by omega) hs (by omega) ?_
 intro h1 g1 o1 T lg1 t1 er ec
 refine ⟨_,rfl,?_⟩
 refine t1.sep.call (Dr (by decide) (by decide) ?_)
 intro s2 A2 n2 c2 g2 l2 i2 h2 sp2
 have t2:=t1.next sp2 l2
 refine ⟨_,_,_,_,rfl,Uj ?_⟩
 intro be hbe2
 have fr:∀ {hh gg oo:Heap} {k x b},Sep hh gg oo->oo k=some x->hh b=none->k≠b:=by
  rintro hh gg oo k x b s e hb rfl
  rw [s.own k x e] at hb;cases hb
 obtain ⟨⟨y1,z1⟩,⟨y2,z2⟩,⟨y3,z3⟩⟩:=t2.own
 have off1:∀ {hh gg oo:Heap} {b},Tab hh gg oo T (Yl E n) (Sd E n)->hh b=none->¬ onT T b:=by
  intro hh gg oo b t hb hx
  obtain ⟨⟨y1,z1⟩,⟨y2,z2⟩,⟨y3,z3⟩⟩:=t.own
  rcases hx with rfl|rfl|rfl
  ·exact fr t.sep z1 hb rfl
  ·exact fr t.sep z2 hb rfl
  ·exact fr t.sep z3 hb rfl
 have s3:=t2.sep.new hbe2 (.cells (Value.agg #[I (n:Int),I (0:Int),.pointer (some ⟨T.bt,0,none⟩),.bool s2,.slice A2 n2 c2,.slice none 0 0,.slice none 0 0]).cells Ff)
 have X3:El _ g2 _ be T (Yl E n) (Sd E n) n 0 ⟨s2,A2,n2,c2⟩ 1 (.slice none 0 0) (.slice none 0 0):=⟨t2.keep s3 (B4 _) (fun k x e _=>by rw [B8 _ _ (fr t2.sep e hbe2)];exact e),er,ec,⟨Ff,C3 _ _ _⟩,off1 t2 hbe2,i2⟩
 refine ⟨_,rfl,_,rfl,?_⟩
 clear t1
 have lh3:h.le (h2.put be (.cells (Value.agg #[I (n:Int),I (0:Int),.pointer (some ⟨T.bt,0,none⟩),.bool s2,.slice A2 n2 c2,.slice none 0 0,.slice none 0 0]).cells Ff)):=B0 lg1 (B0 l2 X3.t.sep.le)
 generalize (h2.put be (.cells (Value.agg #[I (n:Int),I (0:Int),.pointer (some ⟨T.bt,0,none⟩),.bool s2,.slice A2 n2 c2,.slice none 0 0,.slice none 0 0]).cells Ff))=h3 at *
 generalize (o1.put be (.cells (Value.agg #[I (n:Int),I (0:Int),.pointer (some ⟨T.bt,0,none⟩),.bool s2,.slice A2 n2 c2,.slice none 0 0,.slice none 0 0]).cells Ff))=o3 at *
 have lg2:h.le g2:=B0 lg1 l2
 have ewn:B5 ((n:Int)*(n:Int))=((n*n:Nat):Int):=by rw [<- C60];exact K7 (by omega)
 rw [ewn]
 have ownbe:∀ {hh gg oo M k w z L D},El hh gg oo be T M (Sd E n) n k w z L D->∃ x,oo be=some x:=fun X=>by obtain ⟨e,he⟩:=X.hd;exact ⟨_,he⟩
 refine R1 B4h (zx:=Cd) rfl (by omega) (by omega) (by omega) (by omega) ?_
 intro bl hbl
 simp only [C5v]
 refine ⟨_,_,_,rfl,_,rfl,?_⟩
 have nbl:be≠bl:=by obtain ⟨x,hx⟩:=ownbe X3;exact fr X3.t.sep hx hbl
 have X4:=X3.away (X3.t.sep.new hbl (.cells ((C5s (n*n) Cd).flatMap enc).toArray E8)) (off1 X3.t hbl) nbl (fun y hy=>B8 _ _ hy)
 have q4:QB g2 (o3.put bl (.cells ((C5s (n*n) Cd).flatMap enc).toArray E8)) bl (n*n) (fun _=>0):=⟨_,RowX.mk,C5z,fun i hi=>⟨Cd,by rw [C6g,if_pos hi],RQ.zero⟩⟩
 have tl:=off1 X3.t hbl
 refine X4.set (n':=n) (k':=0) (w':=⟨s2,A2,n2,c2⟩) (z':=1) (L':=.slice (some ⟨bl,0,none⟩) (n*n) (n*n)) (D':=.slice none 0 0) (vs:=[.slice (some ⟨bl,0,none⟩) (n*n) (n*n)]) B0e rfl rfl (by intro x hx;simp only [C6i,C6a,or_false] at hx;subst hx;rfl) (by omega) rfl X4.last rfl ?_
 intro h5 o5 X5 ko5
 have q5:=q4.ko (B4 _) (ko5 _ nbl.symm)
 refine R1 B4h (zx:=Cd) rfl (by omega) (by omega) (by omega) (by omega) ?_
 intro bd hbd
 simp only [C5v]
 refine ⟨_,_,_,rfl,_,rfl,?_⟩
 have nbd:be≠bd:=by obtain ⟨x,hx⟩:=ownbe X5;exact fr X5.t.sep hx hbd
 have nld:bl≠bd:=by obtain ⟨xs,⟨e,hx⟩,_⟩:=q5;exact fr X5.t.sep hx hbd
 have td:=off1 X5.t hbd
 have X6:=X5.away (X5.t.sep.new hbd (.cells ((C5s n Cd).flatMap enc).toArray E8)) td nbd (fun y hy=>B8 _ _ hy)
 have d6:QB g2 (o5.put bd (.cells ((C5s n Cd).flatMap enc).toArray E8)) bd n (fun _=>0):=⟨_,RowX.mk,C5z,fun i hi=>⟨Cd,by rw [C6g,if_pos hi],RQ.zero⟩⟩
 have q6:=q5.ko (o':=o5.put bd (.cells ((C5s n Cd).flatMap enc).toArray E8)) (B4 _) (B8 _ _ nld)
 refine X6.set (n':=n) (k':=0) (w':=⟨s2,A2,n2,c2⟩) (z':=1) (L':=.slice (some ⟨bl,0,none⟩) (n*n) (n*n)) (D':=.slice (some ⟨bd,0,none⟩) n n) (vs:=[.slice (some ⟨bd,0,none⟩) n n]) B0e rfl rfl (by intro x hx;simp only [C6i,C6a,or_false] at hx;subst hx;rfl) (by omega) rfl X6.last rfl ?_
 intro h7 o7 X7 ko7
 have X0:Ld h7 g2 o7 be bl bd T E n 0 (Yl E n) ⟨s2,A2,n2,c2⟩ (Ow (mtx E n) n 0) (Rv (mtx E n) 0):=⟨X7,fun _ _ _ _ _=>rfl,(q6.ko (B4 _) (ko7 _ nbl.symm)).congr (fun i _=>by unfold Ow;rw [if_neg (by omega)]),(d6.ko (B4 _) (ko7 _ nbd.symm)).congr (fun i _=>by unfold Rv;rw [if_neg (by omega)]),tl,td,nbl,nbd,nld⟩
 clear X7 X6 X5 X4 X3 q6 d6 q5 q4 ko7 ko5
 have hQp:1<=Q:=by omega
 have ix:∀ {i j:Nat},i<n->j<n->B5 (B5 ((i:Int)*(n:Int))+(j:Int))=((i*n+j:Nat):Int):=fun {i j} hi hj=>by
  have:=L0 hi hj
  rw [<- C60,K7 (by omega)]
  exact K7 (n:=i*n+j) (by omega)
 have ew1:∀ {i:Nat},i<n->B5 ((i:Int)+1)=((i+1:Nat):Int):=fun {i} hi=>by rw [B7]<;>omega
 refine ⟨fun L hq=>∃ (k:Nat) (g' o':Heap) (M:Nat->Nat->Int) (w:IV),k<=n/\L=[.bool true,I (k:Int)]/\h.le g'/\(∀ k',k'<k->Js (mtx E n) n k')/\Ld hq g' o' be bl bd T E n k M w (Ow (mtx E n) n k) (Rv (mtx E n) k),fun L _=>n-(iAt L 1).toNat,⟨0,g2,o7,_,_,by omega,rfl,lg2,fun k' hk'=>by omega,X0⟩,?_⟩
 clear X0
 rintro poss z5 hq ⟨k,g',o',M,w,hk,eL,lg,ok,X⟩
 simp only [C6s,Value.bool.injEq,C6z,true_and,and_true] at eL
 obtain ⟨rfl,rfl⟩:=eL
 refine B6 (fun hlt=>?_) (fun hge=>by
  have:k=n:=by omega
  subst this
  exact hK1 ok hq g' o' be bl bd T M w (B0 lg X.e.t.sep.le) lg X)
 have hkn:k<n:=by omega
 have F:=ldF hs hQ1 sy hk ok
 refine X.at (gl.mono lg) F (C5q _) hkn hkn hQp (by omega) ?_
 intro w1 h1 g1 l1 s1 lh1 i1
 refine ⟨_,_,_,_,_,_,_,_,rfl,?_⟩
 have X1:=X.next s1 l1
 have lg1':h.le g1:=B0 lg l1
 refine FCall.mono (X1.partner F hkn (by omega)) ?_
 rintro r h1' ⟨rfl,a,b,rfl,hb1,hb0⟩
 have i1':RQ h1' w1 (ldA (mtx E n) k k k):=I7 _ _ _ _ s1.le i1
 refine ⟨_,_,rfl,fun L hx=>L=[.bool true]/\hx=h1'/\Js (mtx E n) n k,?_,?_⟩
 ·refine Sj i1' ⟨_,rfl,B6 (fun hneg=>?_) (fun hpos=>?_)⟩
  ·have hneg':=Si.1 hneg
   exact hK0 k hkn ok (fun x=>absurd x.1 (by grind)) h1' g1 o' be bl bd T M w (B0 lg1' s1.le) lg1' X1
  ·have hnn:0<=ldA (mtx E n) k k k:=by
    have:¬ ldA (mtx E n) k k k<0:=fun c=>hpos (Si.2 c)
    grind
   refine Cx i1' ⟨_,rfl,B6 (fun e0=>?_) (fun ne0=>⟨rfl,rfl,hnn,fun e=>absurd e ne0⟩)⟩
   cases b with
   | true=>
    obtain ⟨b1,b2,b3⟩:=hb1 rfl
    exact hK0 k hkn ok (fun x=>b3 (x.2 e0 a b1 b2)) h1' g1 o' be bl bd T M w (B0 lg1' s1.le) lg1' X1
   | false=>exact ⟨rfl,rfl,hnn,fun _ j c1 c2=>hb0 rfl j c1 c2⟩
 rintro p1 hx ⟨eL,rfl,okk⟩
 simp only [C6s,Value.bool.injEq,and_true] at eL
 subst eL
 have ok': ∀ k',k'<=k->Js (mtx E n) n k':=fun k' hk'=>by
  by_cases c:k'=k
  ·rw [c];exact okk
  ·exact ok k' (by omega)
 refine ⟨_,rfl,_,_,_,X1.e.c5,?_⟩
 refine s1.call (Cg (by omega) ?_)
 intro w2 g3 l3 i3 h4 s4
 refine ⟨_,_,_,_,_,_,_,_,rfl,s1.le_le s4 l3,_,rfl,?_⟩
 rw [ix hkn hkn]
 have X2:=X1.next s4 l3
 have hkk:=L0 hkn hkn
 refine ⟨by omega,by omega,?_⟩
 refine X2.storeL hkk (z:=1) i3 ?_
 intro h5 o5 X5
 refine ⟨_,rfl,_,_,_,X5.e.c6,_,rfl,by omega,by omega,?_⟩
 have i13:RQ g3 w1 (ldA (mtx E n) k k k):=I7 _ _ _ _ l3 i1
 refine X5.storeD hkn i13 ?_
 intro h6 o6 X6
 have X7:Ld h6 g3 o6 be bl bd T E n k M w (B91 (mtx E n) n k (k+1)) (Rv (mtx E n) (k+1)):=X6.congr (fun t ht=>by
  show (if t=k*n+k then 1 else Ow (mtx E n) n k t)=_
  unfold B91
  have dm:=Nat.div_add_mod t n
  by_cases c:t=k*n+k
  ·obtain ⟨d1,d2⟩:=Ai (i:=k) hkn
   rw [if_pos c,c,d1,d2,if_pos ⟨rfl,by omega⟩,Zf]
  ·rw [if_neg c]
   by_cases c2:t%n=k/\t/n<k+1
   ·rw [if_pos c2]
    have hlt:t/n<k:=by
     refine C5w fun hno=>c ?_
     have:t/n=k:=by omega
     rw [c2.1,this,C61] at dm
     exact dm.symm
    rw [Tc hlt]
    unfold Ow
    rw [if_neg (by omega)]
   ·rw [if_neg c2]) (fun t _=>by rw [<- B1u])
 clear X6 X5 X2 X1
 have lg3:h.le g3:=B0 lg1' l3
 refine Cx (I7 _ _ _ _ X7.e.t.sep.le i13) ⟨_,rfl,B6 (fun e0=>?_) (fun ne0=>?_)⟩
 ·refine ⟨_,rfl,_,X7.e.c1,_,rfl,?_⟩
  rw [ew1 hkn]
  refine X7.e.set (n':=n) (k':=k+1) (w':=w) (z':=(elP E n n k).last) (L':=.slice (some ⟨bl,0,none⟩) (n*n) (n*n)) (D':=.slice (some ⟨bd,0,none⟩) n n) (vs:=[I ((k+1:Nat):Int)]) B0f rfl rfl (by intro x hx;simp only [C6i,C6a,or_false] at hx;subst hx;rfl) (by omega) rfl X7.e.last rfl ?_
  intro h8 o8 Y ko
  have es:=A6j sy hkn ok' e0
  refine ⟨⟨k+1,g3,o8,M,w,by omega,rfl,lg3,fun k' hk'=>ok' k' (by omega),⟨by rw [es];exact Y,fun i j a b c=>by rw [es];exact X7.m i j (by omega) b c,(X7.l.ko (B4 _) (ko _ X7.el.symm)).congr (A64 _ (.inr ⟨e0,by omega⟩)),X7.d.ko (B4 _) (ko _ X7.ed.symm),X7.tl,X7.td,X7.el,X7.ed,X7.ld⟩⟩,?_⟩
  show n-((k+1:Nat):Int).toNat<n-((k:Nat):Int).toNat
  omega
 rw [ew1 hkn]
 refine ⟨fun L hx=>∃ (i:Nat) (g4 o4:Heap),k<i/\i<=n/\L=[I (i:Int)]/\g3.le g4/\Ld hx g4 o4 be bl bd T E n k M w (B91 (mtx E n) n k i) (Rv (mtx E n) (k+1)),fun L _=>n-(iAt L 0).toNat,⟨k+1,g3,o6,by omega,by omega,rfl,B4 _,X7⟩,?_⟩
 clear X7
 rintro z6 hx ⟨i,g4,o4,hi1,hi2,eL,l4,X8⟩
 obtain rfl:=sI1 eL
 have lg4:h.le g4:=B0 lg3 l4
 refine B6 (fun hlt2=>?_) (fun hge2=>?_)
 ·have hin:i<n:=by omega
  refine ⟨_,rfl,_,_,_,X8.e.c5,?_⟩
  refine X8.at (gl.mono lg4) F (by omega) hin hkn hQp (by omega) ?_
  intro w9 h9 g9 l9 s9 lh9 i9
  refine ⟨_,_,_,_,_,_,_,_,rfl,lh9,?_⟩
  refine s9.call (Dy (m:=Q) (gl.mono (B0 lg4 l9)).tz i9 (I7 _ _ _ _ (B0 l4 l9) i13) (F.zA i k (by omega) hin hkn) (F.zA k k (C5q _) hkn hkn) hQp (by omega) ?_)
  intro w10 g10 l10 i10 h10 s10
  refine ⟨_,_,_,_,_,_,_,_,rfl,s9.le_le s10 l10,_,rfl,?_⟩
  rw [ix hin hkn]
  have hik:=L0 hin hkn
  refine ⟨by omega,by omega,?_⟩
  refine ((X8.next s9 l9).next s10 l10).storeL hik i10 ?_
  intro h11 o11 X11
  rw [ew1 hin]
  refine ⟨⟨i+1,g10,o11,by omega,by omega,rfl,B0 l4 (B0 l9 l10),X11.congr (fun t ht=>?_) (fun _ _=>rfl)⟩,by simp only [Dm];omega⟩
  show (if t=i*n+k then ldA (mtx E n) k i k/ldA (mtx E n) k k k else B91 (mtx E n) n k i t)=_
  unfold B91
  have dm:=Nat.div_add_mod t n
  by_cases c:t=i*n+k
  ·obtain ⟨d1,d2⟩:=Ai (i:=i) hkn
   rw [if_pos c,c,d1,d2,if_pos ⟨rfl,by omega⟩]
   unfold ldL
   rw [if_neg (by omega),if_neg (by omega),if_neg ne0]
  ·rw [if_neg c]
   by_cases c2:t%n=k/\t/n<i
   ·rw [if_pos c2,if_pos ⟨c2.1,by omega⟩]
   ·rw [if_neg c2,if_neg]
    rintro ⟨c3,c4⟩
    have:t/n=i:=by
     have:¬ t/n<i:=fun x=>c2 ⟨c3,x⟩
     omega
    rw [c3,this,C61] at dm
    exact c dm.symm
 ·have ein:i=n:=by omega
  subst ein
  refine Qn (m:=Q) X8.e hkn (by omega) F.last (fun a b ka ha hb=>by rw [X8.m a b ka ha hb];exact F.zM a b ha hb) F.zl hQp hQ ?_
  intro h9 g9 o9 w9 l9 Y ko
  obtain ⟨es1,es2,_⟩:=A6i sy hkn ok ne0
  refine ⟨rfl,⟨k+1,g9,o9,_,w9,by omega,rfl,B0 lg4 l9,fun k' hk'=>ok' k' (by omega),⟨by rw [es2,<- X8.m k k (C5q _) hkn hkn];exact Y,fun i j a b c=>?_,(X8.l.ko l9 (ko _ X8.tl X8.el.symm)).congr (A64 _ (.inl rfl)),X8.d.ko l9 (ko _ X8.td X8.ed.symm),X8.tl,X8.td,X8.el,X8.ed,X8.ld⟩⟩,?_⟩
  ·rw [if_pos (show k<i by omega),es1 i j (by omega) b,X8.m k k (C5q _) hkn hkn,X8.m i j (by omega) b c,X8.m i k (by omega) b hkn,X8.m k j (C5q _) hkn c]
  ·show i-((k+1:Nat):Int).toNat<i-((k:Nat):Int).toNat
   omega
end
def ns(f:Nat->Nat):Nat->Nat
 | 0=>0
 | n+1=>ns f n+f n
theorem B50{f f':Nat->Nat}: ∀ n,(∀ i,i<n->f i=f' i)->ns f n=ns f' n:=by
 intro n
 induction n with
 | zero=>exact fun _=>rfl
 | succ n ih=>intro h;rw [ns,ns,ih fun i hi=>h i (by omega),h n (by omega)]
theorem B8y{f:Nat->Nat}: ∀ n,(∀ i,i<n->f i=0)->ns f n=0:=by
 intro n
 induction n with
 | zero=>exact fun _=>rfl
 | succ n ih=>intro h;rw [ns,ih fun i hi=>h i (by omega),h n (by omega)]
theorem B4z{f f':Nat->Nat}{t:Nat}(h0:f t=0)(h1:∀ i,i≠t->f' i=f i):∀ n,t<n->ns f' n=ns f n+f' t:=by
 intro n
 induction n with
 | zero=>intro h;omega
 | succ n ih=>
  intro h
  rw [ns,ns]
  by_cases c:t=n
  ·rw [<- c,h0,B50 t fun i hi=>h1 i (by omega)]
   omega
  ·rw [ih (by omega),h1 n (fun x=>c x.symm)]
   omega
theorem C1d{f:Nat->Nat}{a b k:Nat}(hk:∀ i,i<k->f i=0):∀ n,k<n->f k<=a->(∀ i,k<i->i<n->f i<=b)->ns f n<=a+(n-k-1)*b:=by
 intro n
 induction n with
 | zero=>intro h;omega
 | succ n ih=>
  intro h ha hb
  rw [ns]
  by_cases c:k=n
  ·rw [<- c,B8y k hk];omega
  ·have h1:=ih (by omega) ha fun i h1 h2=>hb i h1 (by omega)
   have h2:=hb n (by omega) (by omega)
   have h3:(n+1-k-1)*b=(n-k-1)*b+b:=by
    rw [show n+1-k-1=(n-k-1)+1 by omega,C6c,C6b]
   omega
theorem B0h(f:Nat->Nat):∀ n i,i<=n->ns f i<=ns f n:=by
 intro n
 induction n with
 | zero=>intro i h;rw [show i=0 by omega];exact C5q _
 | succ n ih=>
  intro i h
  by_cases c:i=n+1
  ·rw [c];exact C5q _
  ·have:=ih i (by omega)
   rw [ns];omega
theorem C1c(f:Nat->Nat){n i:Nat}(h:i<n):f i<=ns f n:=by
 have:=B0h f n (i+1) h
 rw [ns] at this
 omega
def Seed(A:Nat->Nat->Rat)(n k:Nat)(v:Nat->Rat):Prop:=
 (v k=1/\(∀ i,k<i->i<n->v i=0)/\ldA A k k k<0)\/
 (∃ p,k<p/\p<n/\v p=1/\(∀ i,k<i->i<n->i≠p->v i=0)/\ldA A k k k=0/\ldA A k p k≠0/\v k=(ldA A k p p+1)/(ldA A k p k * -2))
theorem Seed.congr{A:Nat->Nat->Rat}{n k:Nat}{v v':Nat->Rat}(s:Seed A n k v)(h:∀ i,k<=i->i<n->v i=v' i)(hk:k<n):Seed A n k v':=by
 rcases s with ⟨h1,h2,h3⟩|⟨p,p1,p2,h1,h2,h3,h4,h5⟩
 ·exact .inl ⟨by rw [<- h k (C5q _) hk];exact h1,fun i a b=>by rw [<- h i (by omega) b];exact h2 i a b,h3⟩
 ·exact .inr ⟨p,p1,p2,by rw [<- h p (by omega) p2];exact h1,fun i a b c=>by rw [<- h i (by omega) b];exact h2 i a b c,h3,h4,by rw [<- h k (C5q _) hk];exact h5⟩
theorem Seed.neg{A:Nat->Nat->Rat}{n k:Nat}{v:Nat->Rat}(s:Seed A n k v)(hs:Ve n A)(hk:k<n)(hok:∀ m,m<k->Js A n m)(hv:∀ m,m<k->sm n (fun i=>ldL A i m*v i)=0):qf n A v<0:=by
 rcases s with ⟨h1,h2,h3⟩|⟨p,p1,p2,h1,h2,h3,h4,h5⟩
 ·exact B94 hs hk hok hv h1 h2 h3
 ·exact B93 hs p1 p2 hok hv h1 h2 h3 h4 h5
def A3u(n k Q:Nat):Nat:=(n-k)*(2*Q+2)+4*Q+10
structure Wv (E:Nat->Rat) (n k Q t:Nat) (v:Nat->Rat) (s:Nat->Nat):Prop where
 seed:Seed (mtx E n) n k v
 low:∀ i,i<t->v i=0
 zero:∀ m,t<=m->m<k->sm n (fun i=>ldL (mtx E n) i m*v i)=0
 sz:∀ i,i<n->Sz (s i) (v i)
 tot:ns (fun i=>if i<t then 0 else 2*Q+1+s i) n+(2*Q+2)<=2^(k-t)*A3u n k Q
theorem Vd:Sz 1 (1:Rat):=(⟨ZB.one (C5q 1),ZB.one (C5q 1)⟩:Sz 1 1)
theorem B0w{E:Nat->Rat}{n Q m:Nat}(F:LdF E n m Q)(hm:m<n)(hQ:1<=Q){i:Nat}(hi:i<n):Sz (2*Q) (ldL (mtx E n) i m):=by
 unfold ldL
 by_cases c:i=m
 ·rw [if_pos c];exact Vd.mono (by omega)
 ·rw [if_neg c]
  by_cases c2:i<m
  ·rw [if_pos c2];exact (Sz.zero (C5q 1)).mono (by omega)
  ·rw [if_neg c2]
   split
   ·exact (Sz.zero (C5q 1)).mono (by omega)
   ·exact ((F.zA i m (by omega) hi hm).div (F.zA m m (C5q _) hm hm) hQ).mono (by omega)
section
variable {h g o:Heap} {be bl bd bv:Nat} {T:Tb} {E:Nat->Rat} {n k Q W m:Nat} {M:Nat->Nat->Int} {w:IV} {K:VP}
theorem Ld.off(X:Ld h g o be bl bd T E n k M w (Ow (mtx E n) n k) (Rv (mtx E n) k)){h' o':Heap}(s:Sep h' g o'){b:Nat}(hb:¬ onT T b)(h1:be≠b)(h2:bl≠b)(h3:bd≠b)(ko:∀ y,y≠b->o' y=o y):Ld h' g o' be bl bd T E n k M w (Ow (mtx E n) n k) (Rv (mtx E n) k):=
 ⟨X.e.away s hb h1 ko,X.m,X.l.ko (B4 _) (ko _ h2),X.d.ko (B4 _) (ko _ h3),X.tl,X.td,X.el,X.ed,X.ld⟩
structure Lv (h g o:Heap) (be bl bd bv:Nat) (T:Tb) (E:Nat->Rat) (n k:Nat) (M:Nat->Nat->Int) (w:IV) (v:Nat->Rat):Prop where
 x:Ld h g o be bl bd T E n k M w (Ow (mtx E n) n k) (Rv (mtx E n) k)
 q:QB g o bv n v
 t:¬ onT T bv
 e:be≠bv
 l:bl≠bv
 d:bd≠bv
theorem Lv.next{v:Nat->Rat}(X:Lv h g o be bl bd bv T E n k M w v){h' g':Heap}(s:Sep h' g' o)(l:g.le g'):Lv h' g' o be bl bd bv T E n k M w v:=⟨X.x.next s l,X.q.ko l rfl,X.t,X.e,X.l,X.d⟩
theorem Lv.store{v:Nat->Rat}(X:Lv h g o be bl bd bv T E n k M w v){i:Nat}(hi:i<n){u:QV}{z:Rat}(hu:RQ g u z){K:Unit->Heap->Prop}
 (x:∀ h' o',Lv h' g o' be bl bd bv T E n k M w (fun a=>if a=i then z else v a)->K () h'):wpH prog (C65 E8 (.pointer (some (C5u ⟨bv,0,none⟩ (i*4)))) u.v) K h:=by
 refine X.q.store X.x.e.t.sep hi hu ?_
 intro h' o' s' q ko
 exact x h' o' ⟨X.x.off s' X.t X.e X.l X.d ko,q,X.t,X.e,X.l,X.d⟩
theorem Lv.congr{v v':Nat->Rat}(X:Lv h g o be bl bd bv T E n k M w v)(e:∀ i,i<n->v i=v' i):Lv h g o be bl bd bv T E n k M w v':=⟨X.x,X.q.congr e,X.t,X.e,X.l,X.d⟩
theorem A19(X:Ld h g o be bl bd T E n k M w (Ow (mtx E n) n k) (Rv (mtx E n) k))(gl:Gl g)(hF:∀ m,m<=k->LdF E n m Q)(hk:k<n)(hn:n<=64)(sy:Ve n (mtx E n))(ok:∀ m,m<k->Js (mtx E n) n m)(hno:¬ Js (mtx E n) n k)(hQ1:1<=Q)(hW:2^k*A3u n k Q<=W)(hW2:W<=1000000000)
 (hK:∀ h' v bv,g.le h'->RowV RQr h' (some ⟨bv,0,none⟩) n v->(∀ i,i<n->Sz W (v i))->qf n (mtx E n) v<0->K (.slice (some ⟨bv,0,none⟩) n n) h'):FCall prog Pe #[.pointer (some ⟨be,0,none⟩)] h K:=by
 have F:=hF k (C5q _)
 have hCW:A3u n k Q<=W:=C6h (Nat.le_mul_of_pos_left _ (Nat.pow_pos (by decide))) hW
 have hQW:4*Q+10<=W:=C6h (by unfold A3u;omega) hCW
 refine A5g _ ?_
 unfold A71
 refine ⟨_,rfl,_,X.e.c0,_,rfl,_,X.e.c1,?_⟩
 refine R1 B4h (zx:=Cd) rfl (by omega) (by omega) (by omega) (by omega) ?_
 intro bv hbv
 simp only [C5v]
 refine ⟨_,_,_,rfl,?_⟩
 have fr:∀ {k x},o k=some x->k≠bv:=by
  rintro k x e rfl
  rw [X.e.t.sep.own k x e] at hbv;cases hbv
 have tv:¬ onT T bv:=by
  obtain ⟨⟨y1,z1⟩,⟨y2,z2⟩,⟨y3,z3⟩⟩:=X.e.t.own
  rintro (rfl|rfl|rfl)
  ·exact fr z1 rfl
  ·exact fr z2 rfl
  ·exact fr z3 rfl
 have nbe:be≠bv:=by obtain ⟨e,he⟩:=X.e.hd;exact fr he
 have nbl:bl≠bv:=by obtain ⟨xs,⟨e,he⟩,_⟩:=X.l;exact fr he
 have nbd:bd≠bv:=by obtain ⟨xs,⟨e,he⟩,_⟩:=X.d;exact fr he
 have Y0:Lv _ g _ be bl bd bv T E n k M w (fun _=>0):=⟨X.off (X.e.t.sep.new hbv (.cells ((C5s n Cd).flatMap enc).toArray E8)) tv nbe nbl nbd (fun y hy=>B8 _ _ hy),⟨_,RowX.mk,C5z,fun i hi=>⟨Cd,by rw [C6g,if_pos hi],RQ.zero⟩⟩,tv,nbe,nbl,nbd⟩
 rw [show B5m E8 h bv (C5s n Cd)=h.put bv (.cells ((C5s n Cd).flatMap enc).toArray E8) from rfl]
 generalize (h.put bv (.cells ((C5s n Cd).flatMap enc).toArray E8))=h0 at *
 generalize (o.put bv (.cells ((C5s n Cd).flatMap enc).toArray E8))=o0 at *
 clear X
 have ewm:B5 ((k:Int)-1)=(k:Int)-1:=by rw [B7]<;>omega
 rw [ewm]
 have tot1:ns (fun i=>if i<k then 0 else 2*Q+1+1) n+(2*Q+2)<=2^(k-k)*A3u n k Q:=by
  have:=C1d (f:=fun i=>if i<k then 0 else 2*Q+1+1) (a:=2*Q+2) (b:=2*Q+2) (k:=k) (fun i hi=>if_pos hi) n hk (by rw [if_neg (C64 k)];omega) (fun i h1 _=>by rw [if_neg (by omega)];omega)
  have e:(n-k)*(2*Q+2)=(n-k-1)*(2*Q+2)+(2*Q+2):=by rw [<- Nat.succ_mul];congr 1;omega
  rw [Nat.sub_self,Nat.pow_zero,C6b]
  unfold A3u
  omega
 have one:∀ (J:Heap->Prop),(∀ (hp g' o':Heap) (v:Nat->Rat) (s:Nat->Nat),g.le g'->Lv hp g' o' be bl bd bv T E n k M w v->Wv E n k Q k v s->J hp)->∀ {h1 g1:Heap},Sep h1 g1 o0->g.le g1->ldA (mtx E n) k k k<0->FCall prog Bo #[I (1:Int)] h1 (fun r11 hp14=>∃ (t590:Bool) (t591A:Option Addr) (t591n:Nat) (t591c:Nat) (t592:Bool) (t593A:Option Addr) (t593n:Nat) (t593c:Nat),r11= .agg #[.bool t590,.slice t591A t591n t591c,.bool t592,.slice t593A t593n t593c]/\∃ a4,some (⟨bv,0,none⟩:Addr)=some a4/\0<=(k:Int)/\(k:Int)<((n:Nat):Int)/\wpH prog (C65 E8 (.pointer (some (C5u a4 (((k:Int)).toNat*4)))) (.agg #[.bool t590,.slice t591A t591n t591c,.bool t592,.slice t593A t593n t593c])) (fun _ hp15=>J hp15) hp14):=by
  intro J hJ h1 g1 s1 l1 hneg
  refine s1.call (Cg (by omega) ?_)
  intro w2 g2 l2 i2 h2 s2
  refine ⟨_,_,_,_,_,_,_,_,rfl,_,rfl,by omega,by omega,?_⟩
  refine (Y0.next s2 (B0 l1 l2)).store hk (z:=1) i2 ?_
  intro h3 o3 Y3
  refine hJ h3 g2 o3 _ (fun _=>1) (B0 l1 l2) Y3 ⟨.inl ⟨if_pos rfl,fun i a _=>if_neg (by omega),hneg⟩,fun i hi=>if_neg (by omega),fun m a b=>by omega,fun i hi=>?_,tot1⟩
  split
  ·exact Vd
  ·exact Sz.zero (C5q 1)
 refine ⟨fun L hp=>L=[]/\∃ (g' o':Heap) (v:Nat->Rat) (s:Nat->Nat),g.le g'/\Lv hp g' o' be bl bd bv T E n k M w v/\Wv E n k Q k v s,?_,?_⟩
 ·refine FCall.mono (Y0.x.partner F hk (by omega)) ?_
  rintro r h1 ⟨rfl,a,b,rfl,hb1,hb0⟩
  refine ⟨_,_,rfl,?_⟩
  have neg0:(b=false->ldA (mtx E n) k k k<0)/\(ldA (mtx E n) k k k≠0->ldA (mtx E n) k k k<0):=by
   refine ⟨fun e=>?_,fun e=>?_⟩
   ·refine C5w fun hn=>hno ⟨by grind,fun _ j c1 c2=>hb0 e j c1 c2⟩
   ·refine C5w fun hn=>hno ⟨by grind,fun x=>absurd x e⟩
  cases b with
  | false=>
   show FCall _ _ _ _ _
   exact one _ (fun hp g' o' v s a b c=>⟨rfl,g',o',v,s,a,b,c⟩) Y0.x.e.t.sep (B4 _) (neg0.1 rfl)
  | true=>
   obtain ⟨b1,b2,b3⟩:=hb1 rfl
   show FCall _ _ _ _ _
   refine Y0.x.at gl F (C5q _) hk hk hQ1 (by omega) ?_
   intro w1 h1 g1 l1 s1 _ i1
   refine ⟨_,_,_,_,_,_,_,_,rfl,?_⟩
   refine Cx (I7 _ _ _ _ s1.le i1) ⟨_,rfl,B6 (fun e0=>?_) (fun ne0=>?_)⟩
   rotate_left
   ·exact one _ (fun hp g' o' v s a b c=>⟨rfl,g',o',v,s,a,b,c⟩) s1 l1 (neg0.2 ne0)
   have Y1:=Y0.next s1 l1
   refine Y1.x.at (gl.mono l1) F (by omega) b2 hk hQ1 (by omega) ?_
   intro w2 h2 g2 l2 s2 _ i2
   refine ⟨_,_,_,_,_,_,_,_,rfl,?_⟩
   have Y2:=Y1.next s2 l2
   have l02:=B0 l1 l2
   refine Y2.x.at (gl.mono l02) F (by omega) b2 b2 hQ1 (by omega) ?_
   intro w3 h3 g3 l3 s3 _ i3
   refine ⟨_,_,_,_,_,_,_,_,rfl,?_⟩
   refine s3.call (Cg (by omega) ?_)
   intro w4 g4 l4 i4 h4 s4
   have l04:=B0 l02 (B0 l3 l4)
   refine ⟨_,_,_,_,_,_,_,_,rfl,_,rfl,by omega,by omega,?_⟩
   refine ((Y2.next s3 l3).next s4 l4).store b2 (z:=1) i4 ?_
   intro h5 o5 Y5
   refine Y5.x.e.t.sep.call (Cg (by omega) ?_)
   intro w6 g6 l6 i6 h6 s6
   refine ⟨_,_,_,_,_,_,_,_,rfl,Y5.x.e.t.sep.le_le s6 l6,?_⟩
   have l36:=B0 l4 l6
   have za:=F.zA a a (by omega) b2 b2
   have zb:=F.zA a k (by omega) b2 hk
   refine s6.call (Wr (m:=Q) (gl.mono (B0 l04 l6)).tz (I7 _ _ _ _ l36 i3) i6 za (Vd.mono hQ1) (by omega) ?_)
   intro w7 g7 l7 i7 h7 s7
   refine ⟨_,_,_,_,_,_,_,_,rfl,s6.le_le s7 l7,?_⟩
   refine s7.call (Cg (by omega) ?_)
   intro w8 g8 l8 i8 h8 s8
   refine ⟨_,_,_,_,_,_,_,_,rfl,s7.le_le s8 l8,?_⟩
   have em2:((-2:Int):Rat)= -2:=by decide +kernel
   rw [em2] at i8
   have s2z:Sz 2 (-2:Rat):=⟨by unfold ZB;decide +kernel,by unfold ZB;decide +kernel⟩
   have l48:=B0 l6 (B0 l7 l8)
   refine s8.call (Jb (m:=Q+2) (gl.mono (B0 l04 l48)).tz (I7 _ _ _ _ (B0 l3 (B0 l4 l48)) i2) i8 (zb.mono (by omega)) (s2z.mono (by omega)) (by omega) ?_)
   intro w9 g9 l9 i9 h9 s9
   refine ⟨_,_,_,_,_,_,_,_,rfl,s8.le_le s9 l9,?_⟩
   have zn:Sz (Q+2) (ldA (mtx E n) k a a+((1:Int):Rat)):=(za.add Vd).mono (by omega)
   have zd:Sz (Q+2) (ldA (mtx E n) k a k * -2):=zb.mul s2z
   refine s9.call (Dy (m:=Q+2) (gl.mono (B0 l04 (B0 l48 l9))).tz (I7 _ _ _ _ (B0 l8 l9) i7) i9 zn zd (by omega) (by omega) ?_)
   intro w10 g10 l10 i10 h10 s10
   refine ⟨_,_,_,_,_,_,_,_,rfl,s9.le_le s10 l10,_,rfl,by omega,by omega,?_⟩
   have l510:=B0 l48 (B0 l9 l10)
   refine ((((((Y5.next s6 l6).next s7 l7).next s8 l8).next s9 l9).next s10 l10)).store hk i10 ?_
   intro h11 o11 Y11
   refine ⟨rfl,g10,o11,_,fun i=>if i=k then 2*Q+4 else 1,B0 l04 l510,Y11,.inr ⟨a,b1,b2,?_,fun i c1 c2 c3=>?_,e0,b3,if_pos rfl⟩,fun i hi=>?_,fun m c1 c2=>by omega,fun i hi=>?_,?_⟩
   ·try dsimp only
    rw [if_neg (by omega),if_pos rfl]
   ·try dsimp only
    rw [if_neg (by omega),if_neg c3]
   ·try dsimp only
    rw [if_neg (by omega),if_neg (by omega)]
   ·try dsimp only
    by_cases c:i=k
    ·rw [if_pos c,if_pos c]
     exact (zn.div zd (by omega)).mono (by omega)
    ·rw [if_neg c,if_neg c]
     split
     ·exact Vd
     ·exact Sz.zero (C5q 1)
   ·have:=C1d (f:=fun i=>if i<k then 0 else 2*Q+1+if i=k then 2*Q+4 else 1) (a:=4*Q+5) (b:=2*Q+2) (k:=k) (fun i hi=>if_pos hi) n hk (by rw [if_neg (C64 k),if_pos rfl];omega) (fun i c1 _=>by rw [if_neg (by omega),if_neg (by omega)];omega)
    have e:(n-k)*(2*Q+2)=(n-k-1)*(2*Q+2)+(2*Q+2):=by rw [<- Nat.succ_mul];congr 1;omega
    rw [Nat.sub_self,Nat.pow_zero,C6b]
    unfold A3u
    omega
 rintro hq ⟨_,g1,o1,v0,s0,lg,Y,V⟩
 refine ⟨fun L hp=>∃ (t:Nat) (g' o':Heap) (v:Nat->Rat) (s:Nat->Nat),t<=k/\L=[I ((t:Int)-1)]/\g.le g'/\Lv hp g' o' be bl bd bv T E n k M w v/\Wv E n k Q t v s,fun L _=>(iAt L 0+1).toNat,⟨k,g1,o1,v0,s0,C5q _,rfl,lg,Y,V⟩,?_⟩
 clear Y V Y0 one tot1
 rintro z hp ⟨t,g2,o2,v,s,ht,eL,lg2,Y2,V2⟩
 obtain rfl:z=(t:Int)-1:=by simpa using eL
 have htW:ns (fun i=>if i<t then 0 else 2*Q+1+s i) n+(2*Q+2)<=W:=C6h V2.tot (C6h (C5r _ (C6t (by decide) (by omega))) hW)
 refine B6 (fun hge=>?_) (fun hlt=>?_)
 rotate_left
 ·have t0:t=0:=by omega
  subst t0
  refine hK hp v bv (B0 lg2 Y2.x.e.t.sep.le) (Y2.q.rowV Y2.x.e.t.sep) (fun i hi=>(V2.sz i hi).mono ?_) (V2.seed.neg sy hk ok fun m hm=>V2.zero m (C70 _) hm)
  have:=C1c (fun i=>if i<0 then 0 else 2*Q+1+s i) hi
  rw [if_neg (by omega)] at this
  omega
 obtain ⟨j,rfl⟩:∃ j,t=j+1:=⟨t-1,by omega⟩
 have ej:((j+1:Nat):Int)-1=(j:Int):=by omega
 rw [ej]
 have hjn:j<n:=by omega
 have ewj:B5 ((j:Int)+1)=((j+1:Nat):Int):=by rw [B7]<;>omega
 rw [ewj]
 have hv0:=V2.low j (by omega)
 generalize hf:(fun i=>if i<j+1 then 0 else 2*Q+1+s i)=f at *
 have hfi:∀ i,j<i->f i=2*Q+1+s i:=fun i hi=>by rw [<- hf];dsimp only;rw [if_neg (by omega)]
 have hfj:f j=0:=by rw [<- hf];dsimp only;rw [if_pos (by omega)]
 have hnn:n*n<=64*64:=C5y hn hn
 refine ⟨fun L hx=>∃ (i:Nat) (g3 o3:Heap) (r:Rat),j<i/\i<=n/\L=[I (i:Int)]/\g2.le g3/\Lv hx g3 o3 be bl bd bv T E n k M w (fun a=>if a=j then r else v a)/\r= - sm i (fun a=>if a<=j then 0 else ldL (mtx E n) a j*v a)/\Sz (1+ns f i) r,fun L _=>n-(iAt L 0).toNat,⟨j+1,g2,o2,0,by omega,by omega,rfl,B4 _,Y2.congr (fun i _=>by
  by_cases c:i=j
  ·rw [if_pos c,c,hv0]
  ·rw [if_neg c]),by rw [S8 fun i hi=>if_pos (by omega)];grind,Sz.zero (by omega)⟩,?_⟩
 rintro z2 hx ⟨i,g3,o3,r,hi1,hi2,eL,l3,Y3,er,sr⟩
 obtain rfl:=sI1 eL
 have lg3:=B0 lg2 l3
 refine B6 (fun hlti=>?_) (fun hgei=>?_)
 ·have hin:i<n:=by omega
  have hij:=L0 hin hjn
  have ix:B5 (B5 ((i:Int)*(n:Int))+(j:Int))=((i*n+j:Nat):Int):=by
   rw [<- C60,K7 (by omega)]
   exact K7 (n:=i*n+j) (by omega)
  obtain ⟨wj,iwj,a0,a1,a2,a3⟩:=Y3.q.at hjn
  rw [if_pos rfl] at iwj
  obtain ⟨wl,iwl,b0,b1,b2,b3⟩:=Y3.x.l.at hij
  obtain ⟨d1,d2⟩:=Ai (i:=i) hjn
  have elow:Ow (mtx E n) n k (i*n+j)=ldL (mtx E n) i j:=by unfold Ow;rw [d1,d2,if_pos (by omega)]
  rw [elow] at iwl
  obtain ⟨wi,iwi,c0,c1,c2,c3⟩:=Y3.q.at hin
  rw [if_neg (by omega)] at iwi
  have sp:=Y3.x.e.t.sep
  refine ⟨_,rfl,by omega,by omega,_,_,_,_,_,_,_,_,sp.cell a0,sp.cell a1,sp.cell a2,sp.cell a3,_,rfl,_,_,_,Y3.x.e.c5,_,rfl,?_⟩
  rw [ix]
  refine ⟨by omega,by omega,_,_,_,_,_,_,_,_,sp.cell b0,sp.cell b1,sp.cell b2,sp.cell b3,_,rfl,by omega,by omega,_,_,_,_,_,_,_,_,sp.cell c0,sp.cell c1,sp.cell c2,sp.cell c3,?_⟩
  have hmi:=B0h f n (i+1) hin
  have emi:ns f (i+1)=ns f i+(2*Q+1+s i):=by rw [ns,hfi i hi1]
  have sl:=B0w (hF j (by omega)) hjn hQ1 hin
  have sv:=V2.sz i hin
  refine sp.call (Jb (m:=W) (gl.mono lg3).tz iwl iwi (sl.mono (by omega)) (sv.mono (by omega)) (by omega) ?_)
  intro w4 g4 l4 i4 h4 s4
  refine ⟨_,_,_,_,_,_,_,_,rfl,sp.le_le s4 l4,?_⟩
  have spr:Sz (2*Q+s i) (ldL (mtx E n) i j*v i):=sl.mul sv
  refine s4.call (A7g (m:=W) (gl.mono (B0 lg3 l4)).tz (I7 _ _ _ _ l4 iwj) i4 (sr.mono (by omega)) (spr.mono (by omega)) (by omega) ?_)
  intro w5 g5 l5 i5 h5 s5
  refine ⟨_,_,_,_,_,_,_,_,rfl,s4.le_le s5 l5,_,rfl,by omega,by omega,?_⟩
  refine ((Y3.next s4 l4).next s5 l5).store hjn i5 ?_
  intro h6 o6 Y6
  rw [wiS i (by omega)]
  refine ⟨⟨i+1,g5,o6,r-ldL (mtx E n) i j*v i,by omega,by omega,rfl,B0 l3 (B0 l4 l5),Y6.congr (fun a _=>?_),?_,?_⟩,by simp only [Dm];omega⟩
  ·by_cases c:a=j
   ·rw [if_pos c,if_pos c]
   ·rw [if_neg c,if_neg c,if_neg c]
  ·rw [sm,if_neg (by omega),er];grind
  ·exact (sr.sub spr).mono (by omega)
 ·have ein:i=n:=by omega
  subst ein
  have ewj2:B5 ((j:Int)-1)=(j:Int)-1:=by rw [B7]<;>omega
  rw [ewj2]
  refine ⟨⟨j,g3,o3,fun a=>if a=j then r else v a,fun a=>if a=j then 1+ns f i else s a,by omega,rfl,lg3,Y3,⟨V2.seed.congr (fun a ha _=>by rw [if_neg (by omega)]) hk,fun a ha=>by rw [if_neg (by omega)];exact V2.low a (by omega),fun m hm hmk=>?_,fun a ha=>?_,?_⟩⟩,?_⟩
  ·by_cases c:m=j
   ·rw [c]
    have e:sm i (fun a=>ldL (mtx E i) a j*if a=j then r else v a)=sm i (fun a=>(if a=j then r else 0)+if a<=j then 0 else ldL (mtx E i) a j*v a):=by
     refine C9 fun a ha=>?_
     by_cases c1:a=j
     ·rw [if_pos c1,if_pos c1,if_pos (by omega),c1,Zf,Rat.one_mul,C66]
     ·rw [if_neg c1,if_neg c1]
      by_cases c2:a<=j
      ·rw [if_pos c2,Tc (show a<j by omega),C62,C66]
      ·rw [if_neg c2,Rat.zero_add]
    rw [e,S4,Ch hjn fun a _ c=>if_neg c,if_pos rfl,er]
    grind
   ·rw [<- V2.zero m (by omega) hmk]
    refine C9 fun a ha=>?_
    by_cases c1:a=j
    ·rw [c1,Tc (show j<m by omega),C62,C62]
    ·rw [if_neg c1]
  ·by_cases c:a=j
   ·rw [if_pos c,if_pos c];exact sr
   ·rw [if_neg c,if_neg c];exact V2.sz a ha
  ·rw [B4z (f:=f) (f':=fun a=>if a<j then 0 else 2*Q+1+if a=j then 1+ns f i else s a) hfj (fun a ha=>by
    by_cases c:a<j
    ·rw [if_pos c,<- hf];dsimp only;rw [if_pos (by omega)]
    ·rw [if_neg c,if_neg ha,hfi a (by omega)]) i hjn,if_neg (C64 j),if_pos rfl]
   have h1:=V2.tot
   rw [hf] at h1
   have h2:2^(k-j)*A3u i k Q=2*(2^(k-(j+1))*A3u i k Q):=by
    rw [show k-j=(k-(j+1))+1 by omega,Nat.pow_succ,C61 _ 2,Nat.mul_assoc]
   rw [h2]
   omega
  ·show ((j:Int)-1+1).toNat<((j:Int)+1).toNat
   omega
end
def SymT(q:Nat)(ls:Nat->List UInt8):Prop:=∀ i j,i<q->j<i->ls (i*q+j)=ls (j*q+i)
def B41(r c:Int)(n:Nat)(ls:Nat->List UInt8)(q:Nat):Prop:=MOk r c n ls q q/\SymT q ls
def SqE(r c:Int)(n:Nat)(ls:Nat->List UInt8)(e:Int):Prop:=(¬ Mx r c n ls/\e=1)\/(Mx r c n ls/\(¬ ∃ q,B41 r c n ls q)/\e=4)
theorem SymT.symm{q:Nat}{ls:Nat->List UInt8}(h:SymT q ls):Ve q (mtx (rvs ls) q):=fun i j hi hj=>by
 show rv (ls (i*q+j))=rv (ls (j*q+i))
 rcases Nat.lt_trichotomy i j with c|c|c
 ·rw [h j i hj c]
 ·rw [c]
 ·rw [h i j hi c]
section
variable {h:Heap} {K:VP} {A:Option Addr} {n cap m:Nat} {r c:Int} {ls:Nat->List UInt8}
theorem MOk.sq{q q':Nat}(mk:MOk r c n ls q q')(e:r=c):q=q':=by have:=mk.er;have:=mk.ec;omega
theorem Ph(gl:Gl h)(rv':RowV SSr h A n ls)(hn:n<=1000000)(hl:∀ i,i<n->(ls i).length<=100000000)
 (hK1:∀ q,B41 r c n ls q->∀ b h',Own RQr h h' b (q*q) (rvs ls)->K (.tuple #[.slice (some ⟨b,0,none⟩) (q*q) (q*q),I 0]) h')
 (hK0:∀ e,SqE r c n ls e->∀ h',h.le h'->K (.tuple #[.slice none 0 0,I e]) h'):FCall prog Tv #[Qd r c A n cap] h K:=by
 refine B6g _ _ _ _ _ ?_
 unfold C2s
 refine Ec gl rv' hn hl ?_ (fun hno h1 l1=>⟨_,_,_,_,rfl,hK0 1 (.inl ⟨hno,rfl⟩) h1 l1⟩)
 intro q q' mk b h1 own
 refine ⟨_,_,_,_,rfl,?_⟩
 show Br _ _ _
 refine G9 (fun hne=>hK0 4 (.inr ⟨⟨_,_,mk⟩,(fun ⟨a,x,_⟩=>hne (by have:=x.er;have:=x.ec;omega)),rfl⟩) h1 own.le) (fun heq=>?_)
 obtain rfl:=mk.sq heq
 have:=mk.r2
 obtain ⟨rfl,rfl,_,_,_,_,rfl,hnum⟩:=id mk
 have sv:RowV SSr h1 A (q*q) ls:=rv'.mono P7 own.le
 have hqq:q*q<=64*64:=C5y (by omega) (by omega)
 have ix:∀ {i j:Nat},i<q->j<q->B5 (B5 ((i:Int)*(q:Int))+(j:Int))=((i*q+j:Nat):Int):=fun {i j} hi hj=>by
  have:=L0 hi hj
  rw [<- C60,K7 (by omega)]
  exact K7 (n:=i*q+j) (by omega)
 have bad:∀ {i j:Nat},i<q->j<i->ls (i*q+j)≠ls (j*q+i)->¬ ∃ a,B41 (q:Int) (q:Int) (q*q) ls a:=by
  rintro i j hi hj hne ⟨a,x,y⟩
  obtain rfl:a=q:=by have:=x.er;omega
  exact hne (y i j hi hj)
 refine ⟨fun L hp=>∃ i:Nat,i<=q/\L=[I (i:Int)]/\hp=h1/\∀ a b,a<i->b<a->ls (a*q+b)=ls (b*q+a),fun L _=>q-(iAt L 0).toNat,⟨0,by omega,rfl,rfl,fun a b ha=>by omega⟩,?_⟩
 rintro z hp ⟨i,hi,eL,rfl,hh⟩
 obtain rfl:=sI1 eL
 refine B6 (fun hlt=>?_) (fun hge=>hK1 q ⟨mk,fun a b ha hb=>hh a b (by omega) hb⟩ b hp own)
 have hiq:i<q:=by omega
 refine ⟨fun L hx=>∃ j:Nat,j<=i/\L=[I (j:Int)]/\hx=hp/\∀ b,b<j->ls (i*q+b)=ls (b*q+i),fun L _=>i-(iAt L 0).toNat,⟨0,by omega,rfl,rfl,fun b hb=>by omega⟩,?_⟩
 rintro z2 hx ⟨j,hj,eL,rfl,hg⟩
 obtain rfl:=sI1 eL
 refine B6 (fun hlt2=>?_) (fun hge2=>?_)
 ·have hji:j<i:=by omega
  have i1:=L0 hiq (show j<q by omega)
  have i2:=L0 (show j<q by omega) hiq
  obtain ⟨u,rfl,hc⟩:=sv.sat i1
  obtain ⟨u',eu,hd⟩:=sv.sat i2
  simp only [Option.some.injEq] at eu
  subst eu
  rw [ix hiq (show j<q by omega),ix (show j<q by omega) hiq]
  refine ⟨_,rfl,by omega,by omega,_,hc,_,rfl,by omega,by omega,_,hd,?_⟩
  rw [Jy]
  refine Br.not (B6 (fun e=>?_) (fun e=>hK0 4 (.inr ⟨⟨_,_,mk⟩,bad hiq hji e,rfl⟩) hx own.le))
  rw [wiS j (by omega)]
  refine ⟨⟨j+1,by omega,rfl,rfl,fun b hb=>?_⟩,by simp only [Dm];omega⟩
  by_cases c:b=j
  ·rw [c];exact e
  ·exact hg b (by omega)
 ·rw [wiS i (by omega)]
  refine ⟨⟨i+1,by omega,rfl,rfl,fun a b ha hb=>?_⟩,by simp only [Dm];omega⟩
  by_cases c:a=i
  ·rw [c];exact hg b (by omega)
  ·exact hh a b (by omega) hb
structure FacV (h:Heap) (q:Nat) (A1:Option Addr) (A2:Option Addr) (E:Nat->Rat):Prop where
 l:RowV SSr h A1 (q*q) (fun t=>K3 (Ow (mtx E q) q q t))
 d:RowV SSr h A2 q (fun t=>K3 (Rv (mtx E q) q t))
theorem Ic{Q:Nat}(gl:Gl h)(rv':RowV SSr h A n ls)(hn:n<=1000000)(hl:∀ i,i<n->(ls i).length<=100000000)(hs:∀ i,i<n->Sz m (rv (ls i)))(hb:∀ q,MOk r c n ls q q->3^q*bnd q m+bnd q m<=Q)(hQ:Q<=20000000)
 (hK1:∀ q,B41 r c n ls q->(∀ k,k<q->Js (mtx (rvs ls) q) q k)->∀ b1 b2 h',h.le h'->FacV h' q (some ⟨b1,0,none⟩) (some ⟨b2,0,none⟩) (rvs ls)->K (.tuple #[.agg #[I r,I c,.slice (some ⟨b1,0,none⟩) (q*q) (q*q),.slice (some ⟨b2,0,none⟩) q q],.bool true,I 0]) h')
 (hK2:∀ q,B41 r c n ls q->(¬ ∀ k,k<q->Js (mtx (rvs ls) q) q k)->∀ h',h.le h'->K (.tuple #[.agg #[I 0,I 0,.slice none 0 0,.slice none 0 0],.bool false,I 0]) h')
 (hK0:∀ e,SqE r c n ls e->∀ h',h.le h'->K (.tuple #[.agg #[I 0,I 0,.slice none 0 0,.slice none 0 0],.bool false,I e]) h'):FCall prog Hy #[Qd r c A n cap] h K:=by
 refine A8r _ _ _ _ _ ?_
 unfold B3o
 refine Ph gl rv' hn hl ?_ (fun e he h1 l1=>⟨_,_,_,_,rfl,G9 (fun _=>hK0 e he h1 l1) (fun e0=>by rcases he with ⟨_,x⟩|⟨_,_,x⟩<;>omega)⟩)
 intro q sq b h1 own
 obtain ⟨mk,st⟩:=id sq
 have hbq:=hb q mk
 have:=mk.r1;have:=mk.r2
 obtain ⟨rfl,rfl,_,_,_,_,rfl,hnum⟩:=id mk
 refine ⟨_,_,_,_,rfl,G9 (fun hne=>absurd rfl hne) (fun _=>?_)⟩
 refine Jv (Q:=Q) (gl.mono own.le) (own.vis I7) (C5q _) (by omega) (by omega) st.symm hs hbq (by omega) ?_ ?_
 ·intro ok h2 g2 o2 be bl bd T M w lh lg X
  have hqq:q*q<=64*64:=C5y (by omega) (by omega)
  have hQp:1<=Q:=by unfold bnd at hbq;omega
  have F:=fun k (hk:k<=q)=>ldF hs hbq st.symm hk fun m hm=>ok m (by omega)
  have g02:Gl g2:=gl.mono (B0 own.le lg)
  refine ⟨_,_,rfl,?_⟩
  show Br false _ _
  refine ⟨_,rfl,_,_,_,X.e.c5,?_⟩
  have gh2:Gl h2:=gl.mono (B0 own.le lh)
  refine Ac (m:=2*Q) gh2 (X.l.rowV X.e.t.sep) (by omega) (fun i hi=>?_) (by omega) ?_
  ·unfold Ow
   have hm:i%q<q:=C6e _ (by omega)
   rw [if_pos hm]
   exact B0w (F _ (by omega)) hm hQp (C5x hi)
  intro b3 h3 own3
  refine ⟨_,_,_,rfl,own3.le,_,rfl,_,_,_,B9 own3.le X.e.c6,?_⟩
  refine Ac (m:=Q) (gh2.mono own3.le) ((X.d.rowV X.e.t.sep).mono I7 own3.le) (by omega) (fun i hi=>?_) (by omega) ?_
  ·unfold Rv ldD
   rw [if_pos hi]
   exact (F i (by omega)).zA i i (C5q _) hi hi
  intro b4 h4 own4
  exact ⟨_,_,_,rfl,own4.le,hK1 q sq ok b3 b4 h4 (B0 (B0 own.le lh) (B0 own3.le own4.le)) ⟨(own3.vis P7).mono P7 own4.le,own4.vis P7⟩⟩
 ·intro k hk ok hno h2 g2 o2 be bl bd T M w lh lg X
  refine ⟨_,_,rfl,?_⟩
  show Br true _ _
  exact hK2 q sq (fun x=>hno (x k hk)) h2 (B0 own.le lh)
theorem A09{Q:Nat}(gl:Gl h)(rv':RowV SSr h A n ls)(hn:n<=1000000)(hl:∀ i,i<n->(ls i).length<=100000000)(hs:∀ i,i<n->Sz m (rv (ls i)))(hb:∀ q,MOk r c n ls q q->3^q*bnd q m+bnd q m<=Q){W:Nat}(hW:∀ q k,MOk r c n ls q q->k<q->2^k*A3u q k Q<=W)(hW2:W<=40000000)
 (hK1:∀ q,B41 r c n ls q->(¬ ∀ k,k<q->Js (mtx (rvs ls) q) q k)->∀ v b h',h.le h'->RowV SSr h' (some ⟨b,0,none⟩) q (fun i=>K3 (v i))->(∀ i,i<q->Sz W (v i))->qf q (mtx (rvs ls) q) v<0->K (.tuple #[.slice (some ⟨b,0,none⟩) q q,.bool true,I 0]) h')
 (hK2:∀ q,B41 r c n ls q->(∀ k,k<q->Js (mtx (rvs ls) q) q k)->∀ h',h.le h'->K (.tuple #[.slice none 0 0,.bool false,I 0]) h')
 (hK0:∀ e,SqE r c n ls e->∀ h',h.le h'->K (.tuple #[.slice none 0 0,.bool false,I e]) h'):FCall prog Jk #[Qd r c A n cap] h K:=by
 refine A5k _ _ _ _ _ ?_
 unfold A75
 refine Ph gl rv' hn hl ?_ (fun e he h1 l1=>⟨_,_,_,_,rfl,G9 (fun _=>hK0 e he h1 l1) (fun e0=>by rcases he with ⟨_,x⟩|⟨_,_,x⟩<;>omega)⟩)
 intro q sq b h1 own
 obtain ⟨mk,st⟩:=id sq
 have hbq:=hb q mk
 have hWq:=hW q
 have:=mk.r1;have:=mk.r2
 obtain ⟨rfl,rfl,_,_,_,_,rfl,hnum⟩:=id mk
 have hQp:1<=Q:=by unfold bnd at hbq;omega
 have hQW:4*Q+10<=W:=by
  have:=hWq 0 mk (by omega)
  unfold A3u at this
  omega
 refine ⟨_,_,_,_,rfl,G9 (fun hne=>absurd rfl hne) (fun _=>?_)⟩
 refine Jv (Q:=Q) (gl.mono own.le) (own.vis I7) (C5q _) (by omega) (by omega) st.symm hs hbq (by omega) ?_ ?_
 ·intro ok h2 g2 o2 be bl bd T M w lh lg X
  refine ⟨_,_,rfl,?_⟩
  show Br true _ _
  exact hK2 q sq ok h2 (B0 own.le lh)
 ·intro k hk ok hno h2 g2 o2 be bl bd T M w lh lg X
  refine ⟨_,_,rfl,?_⟩
  show Br false _ _
  have l02:h.le g2:=B0 own.le lg
  refine A19 (Q:=Q) (W:=W) X (gl.mono l02) (fun m hm=>ldF hs hbq st.symm (by omega) fun k' hk'=>ok k' (by omega)) hk (by omega) st.symm ok hno hQp (hWq k mk hk) (by omega) ?_
  intro h3 v bv l3 rq sz neg
  refine ⟨_,_,_,rfl,?_⟩
  have l03:=B0 l02 l3
  refine Ac (m:=W) (gl.mono l03) rq (by omega) sz hW2 ?_
  intro b4 h4 own4
  exact ⟨_,_,_,rfl,hK1 q sq (fun x=>hno (x k hk)) v b4 h4 (B0 l03 own4.le) (own4.vis P7) sz neg⟩
end
theorem Oc{X Y:Prop}(x:X):Br true X Y:=x
theorem Br.no{X Y:Prop}(y:Y):Br false X Y:=y
theorem C2v:K3 0=[48]:=A98
theorem C5i:K3 (1/2)=[49,47,50]:=by
 have e1:N4 1=[49]:=by decide +kernel
 have e2:N4 2=[50]:=by decide +kernel
 have h1:(1/2:Rat).den=2:=by decide +kernel
 have h2:(1/2:Rat).num=1:=by decide +kernel
 simp [K3,Kf,e1,e2,h1,h2]
abbrev E4:Nat->Rat:=fun i=>([4,2,2,1]:List Rat).getD i 0
abbrev E0:Nat->Rat:=fun i=>([0,1,1,0]:List Rat).getD i 0
theorem aw4:ldA (mtx E4 2) 0 0 0=4/\ldA (mtx E4 2) 1 1 1=0:=by decide +kernel
theorem aw5:∀ t,t<4->Ow (mtx E4 2) 2 2 t=([1,0,1/2,1]:List Rat).getD t 0:=by decide +kernel
theorem aw6:∀ t,t<2->Rv (mtx E4 2) 2 t=([4,0]:List Rat).getD t 0:=by decide +kernel
theorem aw7:ldA (mtx E0 2) 0 0 0=0/\ldA (mtx E0 2) 0 1 0≠0:=by decide +kernel
theorem C48:∀ k,k<2->Js (mtx E4 2) 2 k:=by
 intro k hk
 have h:=aw4
 by_cases c:k=0
 ·subst c
  exact ⟨by rw [h.1];decide +kernel,fun e=>by rw [h.1] at e;exact absurd e (by decide +kernel)⟩
 ·have:k=1:=by omega
  subst this
  exact ⟨by rw [h.2];exact Rat.le_refl,fun _ i h1 h2=>by omega⟩
theorem C49:¬ ∀ k,k<2->Js (mtx E0 2) 2 k:=fun x=>aw7.2 ((x 0 (by omega)).2 aw7.1 1 (by omega) (by omega))
theorem B0u(l:List Rat)(hl:∀ q∈l,(K3 q).length<=1){i:Nat}(hi:i<(l.map K3).length):((l.map K3).getD i []).length<=1:=by
 rw [C6k,C6o hi]
 have hi':i<l.length:=by simpa using hi
 simp only [List.getElem_map,Option.getD_some]
 exact hl _ (List.getElem_mem hi')
theorem Ta(l:List Rat){i:Nat}(hi:i<l.length):(l.map K3).getD i []=K3 (l.getD i 0):=by
 rw [C6k,C6k,List.getElem?_map,C6o hi]
 rfl
theorem C4j(l:List Rat)(hl:l.length=4):MOk 2 2 4 (fun i=>(l.map K3).getD i []) 2 2:=by
 refine MOk.of (r:=2) (c:=2) ⟨by omega,by omega,by omega,by omega,by omega⟩ fun i hi=>⟨l.getD i 0,Ta l (by omega)⟩
theorem C0x(l:List Rat)(hl:l.length=4)(e:l.getD 2 0=l.getD 1 0):SymT 2 (fun i=>(l.map K3).getD i []):=fun i j hi hj=>by
 have h1:i=1:=by omega
 have h2:j=0:=by omega
 subst h1
 subst h2
 show (l.map K3).getD 2 []=(l.map K3).getD 1 []
 rw [Ta l (by omega),Ta l (by omega),e]
theorem A53{h:Heap}{K:VP}(gl:Gl h)(hK:∀ h',h.le h'->K (.bool true) h'):FCall prog Jh #[] h K:=by
 refine B30 ?_
 unfold B7q
 have b4:∀ q,MOk 2 2 4 (fun i=>(([4,2,2,1]:List Rat).map K3).getD i []) q q->3^q*bnd q 4+bnd q 4<=1000:=fun q mk=>by
  have:=mk.er
  have:q=2:=by omega
  subst this
  decide
 have b0:∀ q,MOk 2 2 4 (fun i=>(([0,1,1,0]:List Rat).map K3).getD i []) q q->3^q*bnd q 4+bnd q 4<=1000:=fun q mk=>by
  have:=mk.er
  have:q=2:=by omega
  subst this
  decide
 have mk4:=C4j [4,2,2,1] rfl
 have mk0:=C4j [0,1,1,0] rfl
 have st4:=C0x [4,2,2,1] rfl rfl
 have st0:=C0x [0,1,1,0] rfl rfl
 have ne4:∀ e,¬ SqE 2 2 4 (fun i=>(([4,2,2,1]:List Rat).map K3).getD i []) e:=fun e x=>by
  rcases x with ⟨x,_⟩|⟨_,x,_⟩
  ·exact x ⟨_,_,mk4⟩
  ·exact x ⟨2,mk4,st4⟩
 have ne0:∀ e,¬ SqE 2 2 4 (fun i=>(([0,1,1,0]:List Rat).map K3).getD i []) e:=fun e x=>by
  rcases x with ⟨x,_⟩|⟨_,x,_⟩
  ·exact x ⟨_,_,mk0⟩
  ·exact x ⟨2,mk0,st0⟩
 have z4:∀ {i:Nat},i<4->((([4,2,2,1]:List Rat).map K3).getD i []).length<=1:=fun {i} hi=>B0u _ (by simp [C0u,C4g,C3e]) (by simpa using hi)
 have z0:∀ {i:Nat},i<4->((([0,1,1,0]:List Rat).map K3).getD i []).length<=1:=fun {i} hi=>B0u _ (by simp [C0u,C2v]) (by simpa using hi)
 refine Ze Bi (ls:=[4,2,2,1].map K3) rfl (by simp) (by rw [show ([4,2,2,1]:List Rat).map K3=[[52],[50],[50],[49]] by simp [C0u,C4g,C3e]];rfl) ?_
 intro b1 h1 l1 s1
 have r1:=Hi s1
 refine ⟨_,_,_,rfl,?_⟩
 refine Ic (m:=4) (Q:=1000) (gl.mono l1) r1 (by simp) (fun i hi=>C6h (z4 (by simpa using hi)) (by omega)) (fun i hi=>A9w (k:=1) (z4 (by simpa using hi)) (by omega)) b4 (by omega) ?_ (fun q sq hno _ _=>?_) (fun e he _ _=>absurd he (ne4 e))
 rotate_left
 ·obtain rfl:q=2:=by have:=sq.1.er;omega
  rw [Yt] at hno
  exact absurd C48 hno
 intro q sq ok1 c1 c2 h2 l2 fv
 obtain rfl:q=2:=by have:=sq.1.er;omega
 have fl:=fv.l
 have fd:=fv.d
 rw [Yt] at fl fd
 refine ⟨_,_,_,_,_,_,_,_,_,_,rfl,?_⟩
 refine Ze Bi (ls:=[0,1,1,0].map K3) rfl (by simp) (by rw [show ([0,1,1,0]:List Rat).map K3=[[48],[49],[49],[48]] by simp [C0u,C2v]];rfl) ?_
 intro b3 h3 l3 s3
 have r3:=Hi s3
 have l13:=B0 l1 (B0 l2 l3)
 refine ⟨_,_,_,rfl,?_⟩
 refine Ic (m:=4) (Q:=1000) (gl.mono l13) r3 (by simp) (fun i hi=>C6h (z0 (by simpa using hi)) (by omega)) (fun i hi=>A9w (k:=1) (z0 (by simpa using hi)) (by omega)) b0 (by omega) (fun q sq ok _ _ _ _ _=>?_) ?_ (fun e he _ _=>absurd he (ne0 e))
 ·obtain rfl:q=2:=by have:=sq.1.er;omega
  rw [Yt] at ok
  exact absurd ok C49
 intro q sq0 _ h4 l4
 refine ⟨_,_,_,_,_,_,_,_,_,_,rfl,Oc (Oc ?_)⟩
 refine Ze Bi (ls:=[4,0].map K3) rfl (by simp) (by rw [show ([4,0]:List Rat).map K3=[[52],[48]] by simp [C3e,C2v]];rfl) ?_
 intro b5 h5 l5 s5
 have r5:=Hi s5
 refine ⟨_,_,_,rfl,?_⟩
 have l25:=B0 l3 (B0 l4 l5)
 refine Fn (fd.mono P7 l25) r5 (by omega) (fun _ _=>⟨_,rfl,Oc ?_⟩) (fun hno=>absurd ⟨by simp,fun i hi=>?_⟩ hno)
 rotate_left
 ·rw [Ta _ (by simpa using hi),aw6 i hi]
 refine Ze Bi (ls:=[1,0,1/2,1].map K3) rfl (by simp) (by rw [show ([1,0,1/2,1]:List Rat).map K3=[[49],[48],[49,47,50],[49]] by simp only [List.map_cons,List.map_nil,C0u,C2v,C5i]];rfl) ?_
 intro b6 h6 l6 s6
 have r6:=Hi s6
 refine ⟨_,_,_,rfl,?_⟩
 refine Fn (fl.mono P7 (B0 l25 l6)) r6 (by omega) (fun _ _=>⟨_,rfl,Oc (Oc ?_)⟩) (fun hno=>absurd ⟨by simp,fun i hi=>?_⟩ hno)
 rotate_left
 ·rw [Ta _ (by simpa using hi),aw5 i hi]
 exact hK h6 (B0 l13 (B0 l4 (B0 l5 l6)))
section
variable {h:Heap} {A:Option Addr} {n cap:Nat} {r c:Int} {ls:Nat->List UInt8}
end
section
variable {h:Heap} {K:VP} {A:Option Addr} {n cap m w:Nat} {r c:Int} {ls:Nat->List UInt8} {R:Nat->Nat->Rat}
theorem Tk(hn:n<=10000)(hw:w<=10000)
 (hK:∀ h' g' o' bo rb,h.le g'->Mt h' g' o' bo rb n w (fun _ _=>0)->K (.slice (some ⟨bo,0,none⟩) n n) h'):FCall prog Rq #[I (n:Int),I (w:Int)] h K:=by
 refine B3n _ _ ?_
 unfold B83
 refine R1 C4h (zx:=(⟨none,0,0⟩:HV)) rfl (by omega) (by omega) (by omega) (by omega) ?_
 intro bo hbo
 simp only [C5v]
 refine ⟨_,_,_,rfl,fun L hp=>∃ (k:Nat) (g o:Heap) (hd:List HV) (rb:Nat->Nat),k<=n/\L=[I (k:Int)]/\h.le g/\Sep hp g o/\RowX o bo hd/\hd.length=n/\(∀ i,i<k->hd[i]? = some ⟨some ⟨rb i,0,none⟩,w,w⟩)/\(∀ i,i<k->rb i≠bo)/\(∀ i j,i<k->j<k->rb i=rb j->i=j)/\(∀ i,i<k->RowX o (rb i) (C5s w Cd)),fun L _=>n-(iAt L 0).toNat,
  ⟨0,h,Gq.put bo _,C5s n ⟨none,0,0⟩,fun _=>0,by omega,rfl,B4 _,Ew hbo,RowX.mk,C5z,fun i hi=>by omega,fun i hi=>by omega,fun i j hi=>by omega,fun i hi=>by omega⟩,?_⟩
 rintro z hp ⟨k,g,o,hd,rb,hk,eL,lg,s,rx,hl,h1,h2,h3,h4⟩
 obtain rfl:=sI1 eL
 refine B6 (fun hlt=>?_) (fun hge=>?_)
 ·have hkn:k<n:=by omega
  refine R1 C0w (zx:=Cd) rfl (by omega) (by omega) (by omega) (by omega) ?_
  intro b2 hb2
  simp only [C5v]
  have ob2:∀ q x,o q=some x->q≠b2:=by
   rintro q x e rfl
   rw [s.own q x e] at hb2;cases hb2
  have nbo:bo≠b2:=by obtain ⟨e,he⟩:=rx;exact ob2 _ _ he
  have nrb:∀ i,i<k->rb i≠b2:=fun i hi=>by obtain ⟨e,he⟩:=h4 i hi;exact ob2 _ _ he
  refine ⟨_,_,_,rfl,_,rfl,by omega,by omega,?_⟩
  refine Ev B4i (y:=(⟨some ⟨b2,0,none⟩,w,w⟩:HV)) rfl (s.new hb2 _) (rx.other nbo _) (i:=k) (by omega) ?_
  intro h5 o5 x5 eo5 s5 rx5
  rw [wiS k (by omega)]
  refine ⟨⟨k+1,g,o5,_,fun i=>if i=k then b2 else rb i,by omega,rfl,lg,s5,rx5,by rw [C6q];exact hl,fun i hi=>?_,fun i hi=>?_,fun i j hi hj e=>?_,fun i hi=>?_⟩,by simp only [Dm];omega⟩
  ·show (hd.set k _)[i]? = some (⟨some ⟨if i=k then b2 else rb i,0,none⟩,w,w⟩:HV)
   by_cases e:i=k
   ·subst e
    rw [if_pos rfl,List.getElem?_set_self (by omega)]
   ·rw [if_neg e,List.getElem?_set_ne (fun x=>e x.symm)]
    exact h1 i (by omega)
  ·show (if i=k then b2 else rb i)≠bo
   by_cases e:i=k
   ·rw [if_pos e];exact nbo.symm
   ·rw [if_neg e];exact h2 i (by omega)
  ·change (if i=k then b2 else rb i)=(if j=k then b2 else rb j) at e
   by_cases e1:i=k
   ·by_cases e2:j=k
    ·omega
    ·rw [if_pos e1,if_neg e2] at e
     exact absurd e.symm (nrb j (by omega))
   ·by_cases e2:j=k
    ·rw [if_neg e1,if_pos e2] at e
     exact absurd e (nrb i (by omega))
    ·rw [if_neg e1,if_neg e2] at e
     exact h3 i j (by omega) (by omega) e
  ·show RowX o5 (if i=k then b2 else rb i) _
   by_cases e:i=k
   ·rw [if_pos e,eo5]
    exact RowX.mk.other nbo.symm _
   ·rw [if_neg e,eo5]
    exact ((h4 i (by omega)).other (nrb i (by omega)) _).other (h2 i (by omega)) _
 ·have:k=n:=by omega
  subst this
  refine hK hp g o bo rb lg ⟨s,⟨hd,rx.rowB,hl,fun i hi=>⟨w,h1 i hi,C5q _⟩⟩,h2,h3,fun i hi=>⟨_,(h4 i hi).rowB,C5z,fun j hj=>⟨Cd,by rw [C6g,if_pos hj],NQ.zero⟩⟩⟩
def A77(R:Nat->Nat->Rat)(i k:Nat):Nat->Nat->Rat:=fun a b=>if b<i\/(b=i/\a<k) then R b a else 0
theorem A7x(rs:RowsV h A n w R)(hn1:1<=n)(hn:n<=10000)(hw:w<=10000)
 (hK:∀ bo h',h.le h'->RowsV h' (some ⟨bo,0,none⟩) w n (fun a b=>R b a)->K (.slice (some ⟨bo,0,none⟩) w w) h'):FCall prog A4t #[.slice A n cap] h K:=by
 refine B6e _ _ _ ?_
 unfold C2p
 obtain ⟨a,sv,ea,e1,e2,hc,_⟩:=rs.at (i:=0) (by omega)
 refine ⟨a,ea,by omega,by omega,_,_,_,hc,?_⟩
 rw [e1]
 refine Tk hw hn ?_
 intro h1 g1 o1 bo rb l1 t1
 refine ⟨_,_,_,rfl,fun L hp=>∃ (i:Nat) (g o:Heap),i<=n/\L=[I (i:Int)]/\h.le g/\Mt hp g o bo rb w n (A77 R i 0),fun L _=>n-(iAt L 0).toNat,⟨0,g1,o1,by omega,rfl,l1,t1.congr fun a b _ _=>by unfold A77;rw [if_neg (by omega)]⟩,?_⟩
 rintro z hp ⟨i,g,o,hi,eL,lg,t⟩
 obtain rfl:=sI1 eL
 refine B6 (fun hlt=>?_) (fun hge=>?_)
 ·have hin:i<n:=by omega
  obtain ⟨a1,s1,ea1,f1,f2,hc1,row⟩:=rs.at hin
  refine ⟨fun L hp=>∃ (k:Nat) (g o:Heap),k<=w/\L=[I (k:Int)]/\h.le g/\Mt hp g o bo rb w n (A77 R i k),fun L _=>w-(iAt L 0).toNat,⟨0,g,o,by omega,rfl,lg,t⟩,?_⟩
  rintro z hp2 ⟨k,g2,o2,hk,eL2,lg2,t2⟩
  obtain rfl:=sI1 eL2
  have lhp:=B0 lg2 t2.sep.le
  refine ⟨a1,ea1,by omega,by omega,_,_,_,B9 lhp hc1,?_⟩
  rw [f1]
  refine B6 (fun hlt2=>?_) (fun hge2=>?_)
  ·have hkw:k<w:=by omega
   obtain ⟨cc,hcc,hh⟩:=t2.head hkw
   obtain ⟨a5,w5,e5,n5,c0,c1,c2',c3⟩:=(row.mono Su lg2).qat hkw
   refine ⟨_,rfl,by omega,by omega,_,_,_,t2.sep.cell hh,a1,ea1,by omega,by omega,_,_,_,B9 lhp hc1,a5,e5,by omega,by omega,_,_,_,_,_,_,_,_,B9 t2.sep.le c0,B9 t2.sep.le c1,B9 t2.sep.le c2',B9 t2.sep.le c3,_,rfl,by omega,by omega,?_⟩
   refine t2.store hkw hin n5 ?_
   intro h6 o6 t6 _
   rw [wiS k (by omega)]
   refine ⟨⟨k+1,g2,o6,by omega,rfl,lg2,t6.congr fun a b _ _=>?_⟩,by simp only [Dm];omega⟩
   unfold B8d A77
   by_cases e:a=k/\b=i
   ·rw [if_pos e,if_pos (by omega),e.1,e.2]
   ·rw [if_neg e]
    by_cases e3:b<i\/(b=i/\a<k)
    ·rw [if_pos e3,if_pos (by omega)]
    ·rw [if_neg e3,if_neg (by omega)]
  ·have:k=w:=by omega
   subst this
   rw [wiS i (by omega)]
   refine ⟨⟨i+1,g2,o2,by omega,rfl,lg2,t2.congr fun a b ha _=>?_⟩,by simp only [Dm];omega⟩
   unfold A77
   by_cases e3:b<i\/(b=i/\a<k)
   ·rw [if_pos e3,if_pos (by omega)]
   ·rw [if_neg e3,if_neg (by omega)]
 ·have:i=n:=by omega
  subst this
  exact hK bo hp (B0 lg t.sep.le) ((t.rowsV).congr fun a b _ hb=>by unfold A77;rw [if_pos (.inl hb)])
theorem Pq{α:Type}[E:Enc α]{o:Heap}{b:Nat}{e:TypeId}{c:Nat}{zx:α}:OwnSl (o.put b (.cells ((C5s c zx).flatMap enc).toArray e)) e (some ⟨b,0,none⟩) c ([]:List α):=
 ⟨C70 _,.inr ⟨b,_,rfl,C3 _ _ _,by rw [K8,C5z],by simp⟩⟩
theorem A20{rows cols:Nat}(rv':RowV SSr h A (rows*cols) ls)(hr:rows<=10000)(hc:cols<=10000)
 (hK:∀ A' c' h' g' o' xs,h.le g'->Sep h' g' o'->OwnSl o' L7 A' c' xs->xs.length=rows*cols->Row SSr g' xs (rows*cols) (fun k=>ls (k%rows*cols+k/rows))->K (.slice A' (rows*cols) c') h'):FCall prog Fx #[.slice A (rows*cols) cap,I (rows:Int),I (cols:Int)] h K:=by
 refine Wg _ _ _ _ _ ?_
 unfold Vi
 have hrc:rows*cols<=10000*10000:=C5y hr hc
 refine R1 Bi (zx:=([]:List UInt8)) rfl (by omega) (by omega) (by omega) (by omega) ?_
 intro b hb
 simp only [C5v]
 refine ⟨_,_,_,rfl,fun L hp=>∃ (j:Nat) (g o:Heap) (xs:List (List UInt8)) (A':Option Addr) (c':Nat),j<=cols/\L=[.slice A' (j*rows) c',I (j:Int)]/\h.le g/\Sep hp g o/\OwnSl o L7 A' c' xs/\xs.length=j*rows/\Row SSr g xs (j*rows) (fun k=>ls (k%rows*cols+k/rows)),fun L _=>cols-(iAt L 1).toNat,
  ⟨0,h,Gq.put b _,[],some ⟨b,0,none⟩,rows*cols,by omega,by rw [C6n];rfl,B4 _,Ew hb,Pq,by simp,by rw [C6n];exact Row.nil⟩,?_⟩
 rintro rA rn rc z hp ⟨j,g,o,xs,A',c',hj,eL,lg,s,ow,hxl,rr⟩
 obtain ⟨⟨rfl,rfl,rfl⟩,rfl⟩:=sI2 eL
 refine B6 (fun hlt=>?_) (fun hge=>?_)
 ·have hjc:j<cols:=by omega
  have hj1:(j+1)*rows=j*rows+rows:=by rw [C6c,C6b]
  have hjr:(j+1)*rows<=cols*rows:=C5r _ hjc
  rw [C61 cols rows] at hjr
  refine ⟨fun L hp=>∃ (i:Nat) (g o:Heap) (xs:List (List UInt8)) (A':Option Addr) (c':Nat),i<=rows/\L=[.slice A' (j*rows+i) c',I (i:Int)]/\h.le g/\Sep hp g o/\OwnSl o L7 A' c' xs/\xs.length=j*rows+i/\Row SSr g xs (j*rows+i) (fun k=>ls (k%rows*cols+k/rows)),fun L _=>rows-(iAt L 1).toNat,
   ⟨0,g,o,xs,rA,rc,by omega,rfl,lg,s,ow,hxl,rr⟩,?_⟩
  rintro qA qn qc z hp2 ⟨i,g2,o2,ys,A2,c2,hi,eL,lg2,s2,ow2,hyl,rr2⟩
  obtain ⟨⟨rfl,rfl,rfl⟩,rfl⟩:=sI2 eL
  refine B6 (fun hlt2=>?_) (fun hge2=>?_)
  ·have hir:i<rows:=by omega
   have hidx:=L0 hir hjc
   have ew:B5 (B5 ((i:Int)*(cols:Int))+(j:Int))=((i*cols+j:Nat):Int):=by
    rw [<- C60,K7 (by omega)]
    exact K7 (n:=i*cols+j) (by omega)
   rw [ew]
   obtain ⟨a,ea,hc1⟩:=(rv'.mono P7 (B0 lg2 s2.le)).sat hidx
   refine ⟨a,ea,by omega,by omega,_,hc1,?_⟩
   refine Ct (ty:=Ke) Bi s2 ow2 hyl.symm (y:=ls (i*cols+j)) rfl (by decide) (by rw [hyl];omega) (by rw [hyl];omega) ?_
   intro A3 c3 h3 g3 o3 l3 s3 ow3 _
   rw [hyl,wiS i (by omega)]
   refine ⟨⟨i+1,g3,o3,_,A3,c3,by omega,by rw [Nat.add_assoc],B0 lg2 l3,s3,ow3,by rw [C5t,hyl];rfl,?_⟩,?_⟩
   ·have rB:=Row.push (R:=SSr) (g:=g3) (xs:=ys) (f:=fun k=>ls (k%rows*cols+k/rows)) (by rw [hyl];exact rr2.mono P7 l3) (w:=ls (i*cols+j)) (by
     show ls (i*cols+j)=ls (ys.length%rows*cols+ys.length/rows)
     rw [hyl,C6p (j*rows) i,C63,C68 hir,C67 _ _ (by omega),C69 hir,C6d])
    rw [C5t,hyl] at rB
    exact rB
   ·show rows-((i+1:Nat):Int).toNat<rows-(i:Int).toNat
    omega
  ·have:i=rows:=by omega
   subst this
   rw [wiS j (by omega),<- hj1]
   rw [<- hj1] at hyl rr2
   refine ⟨⟨j+1,g2,o2,ys,qA,qc,by omega,rfl,lg2,s2,ow2,hyl,rr2⟩,?_⟩
   show cols-((j+1:Nat):Int).toNat<cols-(j:Int).toNat
   omega
 ·have:j=cols:=by omega
  subst this
  rw [C61 j rows] at hxl rr ⊢
  exact hK rA rc hp g o xs lg s ow hxl rr
def OwnS(h h':Heap)(A:Option Addr)(c n:Nat)(f:Nat->List UInt8):Prop:=∃ g o xs,h.le g/\Sep h' g o/\OwnSl o L7 A c xs/\xs.length=n/\Row SSr g xs n f
theorem OwnS.le{h h':Heap}{c n:Nat}{f:Nat->List UInt8}(w:OwnS h h' A c n f):h.le h':=by
 obtain ⟨g,o,xs,lg,s,_⟩:=w
 exact B0 lg s.le
theorem OwnS.vis{h h':Heap}{c n:Nat}{f:Nat->List UInt8}(w:OwnS h h' A c n f):RowV SSr h' A n f:=by
 obtain ⟨g,o,xs,lg,s,ow,e,q⟩:=w
 exact ⟨xs,ow.slF s.ole,e,q.mono P7 s.le⟩
theorem St(gl:Gl h)(rv':RowV SSr h A n ls)(hn:n<=1000000)(hl:∀ i,i<n->(ls i).length<=100000000)
 (hK1:∀ rows cols,MOk r c n ls rows cols->∀ h' A' c',OwnS h h' A' c' n (fun k=>ls (k%rows*cols+k/rows))->K (.tuple #[Qd c r A' n c',I 0]) h')
 (hK0:¬ Mx r c n ls->∀ h',h.le h'->K (.tuple #[Qd 0 0 none 0 0,I 1]) h'):FCall prog Ht #[Qd r c A n cap] h K:=by
 refine A0u _ _ _ _ _ ?_
 unfold Xz
 refine A4h gl rv' hn hl (fun hx=>⟨_,rfl,?_⟩) (fun hno=>⟨_,rfl,hK0 hno h (B4 _)⟩)
 obtain ⟨rows,cols,mk⟩:=hx
 have hk:=hK1 rows cols mk
 obtain ⟨rfl,rfl,_,_,_,_,rfl,_⟩:=id mk
 have:=mk.r2;have:=mk.c2
 refine A20 rv' (by omega) (by omega) ?_
 intro A2 c2 h2 g2 o2 xs l2 s2 ow hxl rr
 exact ⟨_,_,_,rfl,B0 l2 s2.le,hk h2 A2 c2 ⟨g2,o2,xs,l2,s2,ow,hxl,rr⟩⟩
end
theorem Br.nt{X Y:Prop}(y:Y):Br (!true) X Y:=y
theorem A3j{X Y:Prop}(x:X):Br (!false) X Y:=x
structure MOut where
 r:Int
 c:Int
 n:Nat
 f:Nat->List UInt8
 e:Int
def noM(e:Int):MOut:=⟨0,0,0,fun _=>[],e⟩
section
variable {h:Heap} {K:VP} {A B:Option Addr} {n n2 cap cap2 m w:Nat} {r c r2 c2:Int} {la lb:Nat->List UInt8}
end
structure VV where
 A:Option Addr
 n:Nat
 c:Nat
 s:Bool
 B:Option Addr
 bn:Nat
 bc:Nat
abbrev VV.v(w:VV):Value:=.agg #[.slice w.A w.n w.c,.bool w.s,.slice w.B w.bn w.bc]
instance:Enc VV:=⟨⟨fun w=>[.slice w.A w.n w.c,.bool w.s,.slice w.B w.bn w.bc],3,fun _=>rfl,fun w v hv=>by
 simp only [C6i,C6a,or_false] at hv
 rcases hv with rfl|rfl|rfl<;>rfl⟩⟩
def VQr(w:Nat):Heap->VV->(Nat->Rat)->Prop:=fun h v f=>v.n=w/\ZI h v.s v.B v.bn v.bc (Be f w:Int)/\RowV ZIr h v.A w (fun j=>scl (f j) (Be f w:Int))
theorem A7r(w:Nat):Mon (VQr w):=fun _ _ _ _ l i=>⟨i.1,i.2.1.mono l,i.2.2.mono Ml l⟩
section
variable {h:Heap} {K:VP} {A B:Option Addr} {n cap m w:Nat} {f f2:Nat->Rat}
theorem A4f(gl:Gl h)(r:RowV RQr h A n f)(hn:n<=10000)(hs:∀ i,i<n->Sz m (f i))(hm:1+n*m+m<=6400000000)
 (hK:∀ v h',h.le h'->VQr n h' v f->K v.v h'):FCall prog Hu #[.slice A n cap] h K:=by
 refine A0v _ _ _ ?_
 unfold Ya
 have hd:=Kn (f:=f) n hs
 refine ⟨?_,?_⟩
 ·refine R1 tZs (zx:=(⟨false,none,0,0⟩:IV)) rfl (by omega) (by omega) (by omega) (by omega) ?_
  intro b hb
  simp only [C5v]
  have s0:=(Sep.refl h).new hb (.cells ((C5s n (⟨false,none,0,0⟩:IV)).flatMap enc).toArray Fd)
  refine ⟨_,_,_,rfl,s0.le,s0.call (Dn gl r (by omega) hs hm ?_)⟩
  intro sd Bd bn bc g1 l1 id h1 s1
  refine ⟨_,_,_,_,rfl,s0.le_le s1 l1,?_⟩
  refine ⟨fun L hp=>∃ (k:Nat) (g o:Heap) (ys:List IV),k<=n/\L=[I (k:Int)]/\g1.le g/\Sep hp g o/\RowX o b ys/\ys.length=n/\Row ZIr g ys k (fun j=>scl (f j) (Be f n:Int)),fun L _=>n-(iAt L 0).toNat,⟨0,g1,_,C5s n ⟨false,none,0,0⟩,by omega,rfl,B4 _,s1,RowX.mk,C5z,Row.nil⟩,?_⟩
  rintro z hp ⟨k,g,o,ys,hk,eL,lg,s,rx,hy,rr⟩
  obtain rfl:=sI1 eL
  refine B6 (fun hlt=>?_) (fun hge=>?_)
  ·have hkn:k<n:=by omega
   obtain ⟨a,w,ea,iw,c0,c1,c2,c3⟩:=(r.mono I7 (B0 l1 lg)).qat hkn
   refine ⟨a,ea,by omega,by omega,_,_,_,_,_,_,_,_,B9 s.le c0,B9 s.le c1,B9 s.le c2,B9 s.le c3,?_⟩
   refine s.call (Ki (m:=1+n*m+m) iw (id.mono lg) ((hs k hkn).mono (by omega)) (hd.mono (by omega)) hm ?_)
   intro s2 A2 n2 c2 g2 l2 i2 h2 sp2
   refine ⟨_,_,_,_,rfl,s.le_le sp2 l2,_,rfl,by omega,by omega,?_⟩
   refine Ev Se (y:=(⟨s2,A2,n2,c2⟩:IV)) rfl sp2 rx (i:=k) (by omega) ?_
   intro h7 o7 x7 eo s7 rx7
   rw [wiS k (by omega)]
   exact ⟨⟨k+1,g2,o7,_,by omega,rfl,B0 lg l2,s7,rx7,by rw [C6q];exact hy,(rr.mono Ml l2).set (by omega) i2⟩,by simp only [Dm];omega⟩
  ·have:k=n:=by omega
   subst this
   exact hK ⟨some ⟨b,0,none⟩,k,k,sd,Bd,bn,bc⟩ hp (B0 l1 (B0 lg s.le)) ⟨rfl,id.mono (B0 lg s.le),ys,rx.rowB.slF s.ole,hy,rr.mono Ml s.le⟩
 ·refine Dn gl r (by omega) hs hm ?_
  intro sd Bd bn bc g1 l1 id
  refine ⟨_,_,_,_,rfl,l1,R1 tZs (zx:=(⟨false,none,0,0⟩:IV)) rfl (by omega) (by omega) (by omega) (by omega) ?_⟩
  intro b hb
  simp only [C5v]
  have s1:=(Sep.refl g1).new hb (.cells ((C5s n (⟨false,none,0,0⟩:IV)).flatMap enc).toArray Fd)
  refine ⟨_,_,_,rfl,s1.le,?_⟩
  refine ⟨fun L hp=>∃ (k:Nat) (g o:Heap) (ys:List IV),k<=n/\L=[I (k:Int)]/\g1.le g/\Sep hp g o/\RowX o b ys/\ys.length=n/\Row ZIr g ys k (fun j=>scl (f j) (Be f n:Int)),fun L _=>n-(iAt L 0).toNat,⟨0,g1,_,C5s n ⟨false,none,0,0⟩,by omega,rfl,B4 _,s1,RowX.mk,C5z,Row.nil⟩,?_⟩
  rintro z hp ⟨k,g,o,ys,hk,eL,lg,s,rx,hy,rr⟩
  obtain rfl:=sI1 eL
  refine B6 (fun hlt=>?_) (fun hge=>?_)
  ·have hkn:k<n:=by omega
   obtain ⟨a,w,ea,iw,c0,c1,c2,c3⟩:=(r.mono I7 (B0 l1 lg)).qat hkn
   refine ⟨a,ea,by omega,by omega,_,_,_,_,_,_,_,_,B9 s.le c0,B9 s.le c1,B9 s.le c2,B9 s.le c3,?_⟩
   refine s.call (Ki (m:=1+n*m+m) iw (id.mono lg) ((hs k hkn).mono (by omega)) (hd.mono (by omega)) hm ?_)
   intro s2 A2 n2 c2 g2 l2 i2 h2 sp2
   refine ⟨_,_,_,_,rfl,s.le_le sp2 l2,_,rfl,by omega,by omega,?_⟩
   refine Ev Se (y:=(⟨s2,A2,n2,c2⟩:IV)) rfl sp2 rx (i:=k) (by omega) ?_
   intro h7 o7 x7 eo s7 rx7
   rw [wiS k (by omega)]
   exact ⟨⟨k+1,g2,o7,_,by omega,rfl,B0 lg l2,s7,rx7,by rw [C6q];exact hy,(rr.mono Ml l2).set (by omega) i2⟩,by simp only [Dm];omega⟩
  ·have:k=n:=by omega
   subst this
   exact hK ⟨some ⟨b,0,none⟩,k,k,sd,Bd,bn,bc⟩ hp (B0 l1 (B0 lg s.le)) ⟨rfl,id.mono (B0 lg s.le),ys,rx.rowB.slF s.ole,hy,rr.mono Ml s.le⟩
def smZ(x y:Nat->Int):Nat->Int
 | 0=>0
 | k+1=>smZ x y k+x k*y k
def smA(x y:Nat->Int):Nat->Int
 | 0=>0
 | k+1=>smA x y k+(x k*y k).natAbs
theorem B6m{x y:Nat->Int}{m w:Nat}(hx:∀ j,j<w->ZB m (x j))(hy:∀ j,j<w->ZB m (y j)):∀ k,k<=w->smA x y k<=k*2^(2*m):=by
 intro k
 induction k with
 | zero=>intro _;simp [smA]
 | succ k ih=>
  intro hk
  have h1:=ih (by omega)
  have h2:=A4b (hx k (by omega)) (hy k (by omega))
  have h3:((k+1:Nat):Int)*2^(2*m)=(k:Int)*2^(2*m)+2^(2*m):=by rw [Int.natCast_add,Int.add_mul];simp
  show smA x y k+((x k*y k).natAbs:Int)<=_
  rw [h3]
  omega
theorem B8m(x y:Nat->Int):∀ k,((smZ x y k).natAbs:Int)<=smA x y k:=by
 intro k
 induction k with
 | zero=>exact Int.le_refl _
 | succ k ih=>
  show ((smZ x y k+x k*y k).natAbs:Int)<=smA x y k+((x k*y k).natAbs:Int)
  omega
theorem C12{x y:Nat->Int}{m w:Nat}(hx:∀ j,j<w->ZB m (x j))(hy:∀ j,j<w->ZB m (y j))(hw:w<=10000):ZB (2*m+14) (smZ x y w):=by
 have h1:=B6m hx hy w (C5q _)
 have h2:=B8m x y w
 have e:(2:Int)^(2*m)=((2^(2*m):Nat):Int):=by simp
 rw [e,<- C60] at h1
 have h3:w*2^(2*m)<=10000*2^(2*m):=C5r _ hw
 have h4:2^(2*m+14)=2^(2*m)*16384:=by rw [Nat.pow_add]
 have h5:0<2^(2*m):=Nat.pow_pos (by decide)
 unfold ZB
 rw [h4]
 omega
theorem C13{p q:Nat->Rat}{x y:Nat->Int}{d e:Int}{w:Nat}(hx:∀ j,j<w->(x j:Rat)=p j*d)(hy:∀ j,j<w->(y j:Rat)=q j*e):∀ k,k<=w->(smZ x y k:Rat)=sm k (fun j=>p j*q j)*((d*e:Int):Rat):=by
 intro k
 induction k with
 | zero=>intro _;show ((0:Int):Rat)=0*_;rw [C62];rfl
 | succ k ih=>
  intro hk
  show ((smZ x y k+x k*y k:Int):Rat)=(sm k (fun j=>p j*q j)+p k*q k)*((d*e:Int):Rat)
  rw [Rat.intCast_add,ih (by omega),Rat.intCast_mul d e,Rat.intCast_mul (x k) (y k),hx k (by omega),hy k (by omega)]
  grind
theorem A7a{v u:VV}(gl:Gl h)(iv:VQr w h v f)(iu:VQr w h u f2)(hw:w<=10000)(hs:∀ i,i<w->Sz m (f i))(hs2:∀ i,i<w->Sz m (f2 i))(hm1:1<=m)(hm:2*(1+w*m+m)+14<=100000000)
 (hK:∀ q h',h.le h'->RQ h' q (sm w (fun j=>f j*f2 j))->K q.v h'):FCall prog Zy #[v.v,u.v] h K:=by
 refine B3e _ _ _ _ _ _ _ _ _ _ _ _ _ _ ?_
 unfold B7w
 obtain ⟨en1,id1,rz1⟩:=iv
 obtain ⟨en2,id2,rz2⟩:=iu
 have hd1:=Kn (f:=f) w hs
 have hd2:=Kn (f:=f2) w hs2
 have hx:∀ j,j<w->ZB (1+w*m+m) (scl (f j) (Be f w:Int)):=fun j hj=>(A9u (hs j hj) hd1).mono (by omega)
 have hy:∀ j,j<w->ZB (1+w*m+m) (scl (f2 j) (Be f2 w:Int)):=fun j hj=>(A9u (hs2 j hj) hd2).mono (by omega)
 refine Gh A5t ?_
 intro bs hbs
 have Z0:SumS (h.put bs (.cells #[.slice none 0 0,.slice none 0 0] Kd)) h bs Kd 200000001 0 0:=SumS.zero hbs
 refine ⟨_,rfl,fun L hp=>∃ (k:Nat) (g:Heap),k<=w/\L=[I (k:Int)]/\h.le g/\SumS hp g bs Kd 200000001 (smA (fun j=>scl (f j) (Be f w:Int)) (fun j=>scl (f2 j) (Be f2 w:Int)) k) (smZ (fun j=>scl (f j) (Be f w:Int)) (fun j=>scl (f2 j) (Be f2 w:Int)) k),fun L _=>w-(iAt L 0).toNat,⟨0,h,by omega,rfl,B4 _,Z0⟩,?_⟩
 rintro z hp ⟨k,g,hk,eL,lg,Z⟩
 obtain rfl:=sI1 eL
 refine B6 (fun hlt=>?_) (fun hge=>?_)
 ·have hkw:k<w:=by omega
  obtain ⟨a,x1,ea,zx,c0,c1⟩:=(rz1.mono Ml lg).zat hkw
  obtain ⟨a2,y1,ea2,zy,d0,d1⟩:=(rz2.mono Ml lg).zat hkw
  refine ⟨a,ea,by omega,by omega,_,_,_,_,B9 Z.le c0,B9 Z.le c1,a2,ea2,by omega,by omega,_,_,_,_,B9 Z.le d0,B9 Z.le d1,?_⟩
  have lx:x1.n<=100000000:=ZI.len zx (hx k hkw) (by omega)
  have ly:y1.n<=100000000:=ZI.len zy (hy k hkw) (by omega)
  have hA:=B6m hx hy (k+1) hkw
  have hbig:=B06 (m:=1+w*m+m) (k:=k+1) (by omega) (by omega)
  refine As Z zx zy (by omega) (by omega) (N1:=1+w*m+m) (by show smA _ _ (k+1)<_;omega) (by omega) ?_
  intro h3 g3 l3 Z3
  rw [wiS k (by omega)]
  exact ⟨rfl,⟨k+1,g3,by omega,rfl,B0 lg l3,Z3⟩,by simp only [Dm];omega⟩
 ·have:k=w:=by omega
  subst this
  refine Lr Z (by omega) ?_
  intro sv Av nv cv h5 l5 z5
  have l05:=B0 lg (B0 Z.le l5)
  refine ⟨_,_,_,_,rfl,l5,?_⟩
  refine L5 (m:=1+k*m+m) (id1.mono l05) (id2.mono l05) (hd1.mono (by omega)) (hd2.mono (by omega)) (by omega) ?_
  intro s6 A6 n6 c6 h6 l6 z6
  refine ⟨_,_,_,_,rfl,l6,?_⟩
  have l06:=B0 l05 l6
  have e1:∀ j,j<k->(scl (f j) (Be f k:Int):Rat)=f j*((Be f k:Int):Rat):=fun j hj=>A9v (Int.natCast_dvd_natCast.2 (Zi f k j hj))
  have e2:∀ j,j<k->(scl (f2 j) (Be f2 k:Int):Rat)=f2 j*((Be f2 k:Int):Rat):=fun j hj=>A9v (Int.natCast_dvd_natCast.2 (Zi f2 k j hj))
  have es:=C13 e1 e2 k (C5q _)
  have hp1:=Zh f k
  have hp2:=Zh f2 k
  have hne:((Be f k:Int)*(Be f2 k:Int))≠0:=Int.mul_ne_zero (by omega) (by omega)
  have zb:ZB (2*(1+k*m+m)+14) (smZ (fun j=>scl (f j) (Be f k:Int)) (fun j=>scl (f2 j) (Be f2 k:Int)) k):=C12 hx hy (by omega)
  refine T9 (m:=2*(1+k*m+m)+14) (gl.mono l06).tz (z5.mono l6) z6 zb ((hd1.mul hd2).mono (by omega)) (by omega) ?_
  intro q h7 l7 i7
  refine ⟨_,_,_,_,_,_,_,_,rfl,l7,hK q h7 (B0 l06 l7) ?_⟩
  have:C71 (smZ (fun j=>scl (f j) (Be f k:Int)) (fun j=>scl (f2 j) (Be f2 k:Int)) k) ((Be f k:Int)*(Be f2 k:Int))=sm k (fun j=>f j*f2 j):=by
   rw [C6x,es]
   exact Rat.mul_div_cancel (J5 hne)
  rw [this] at i7
  exact i7
end
theorem B4m:prog.cellsOf Lk=1/\(prog.info? Lk).isSome=true:=by constructor<;>kernel_rfl
section
variable {h:Heap} {K:VP} {A:Option Addr} {cap m rows cols:Nat} {E:Nat->Rat}
theorem Py(gl:Gl h)(r:RowV RQr h A (rows*cols) E)(hcap:rows*cols<=cap)(hr2:rows<=10000)(hc:1<=cols)(hc2:cols<=10000)(hs:∀ i,i<rows*cols->Sz m (E i))(hm:1+cols*m+m<=6400000000)
 (hK:∀ A' c' h',h.le h'->RowV (VQr cols) h' A' rows (A1q E cols)->K (.slice A' rows c') h'):FCall prog Ji #[.slice A (rows*cols) cap,I (cols:Int)] h K:=by
 refine A5d _ _ _ _ ?_
 unfold A6y
 have hrc:rows*cols<=100000000:=by
  have:rows*cols<=10000*10000:=C5y hr2 hc2
  omega
 refine Gh (z:=.slice none 0 0) (by kernel_rfl) ?_
 intro bp hbp
 refine ⟨_,rfl,?_⟩
 have s0:=(Sep.refl h).new hbp (.cells #[.slice none 0 0] Lk)
 refine s0.call (Xg hc ?_)
 intro v g0 l0 ic hp3 s3
 have bound:∀ k,k<rows->∀ j,j<cols->Sz m (E (k*cols+j)):=fun k hk j hj=>hs _ (L0 hk hj)
 refine ⟨_,rfl,Sm ic hc (by omega) hcap (fun k hp=>∃ (g1 o1:Heap) (vs:List VV) (A1:Option Addr) (c1:Nat),g0.le g1/\Sep hp g1 o1/\(∃ e,o1 bp=some (.cells #[.slice A1 k c1] e))/\OwnSl o1 Wo A1 c1 vs/\A1≠some ⟨bp,0,none⟩/\vs.length=k/\Row (VQr cols) g1 vs k (A1q E cols)) ?_ ?_ ?_ ?_⟩
 ·exact ⟨g0,_,[],none,0,B4 _,s3,⟨_,C3 _ _ _⟩,OwnSl.nil,by simp,rfl,Row.nil⟩
 ·rintro k hp ⟨g1,o1,vs,A1,c1,lg,s1,_⟩
  exact B0 lg s1.le
 ·rintro k hp4 hkr ⟨g1,o1,vs,A1,c1,lg1,s4,⟨e,hbo⟩,ow,ha,hvl,rr⟩
  have bk:=bound k hkr
  have hkc:(k+1)*cols<=rows*cols:=C5r _ hkr
  have hk1:(k+1)*cols=k*cols+cols:=by rw [C6c,C6b]
  have lh1:=B0 l0 lg1
  have row0:RowV RQr h A ((k+1)*cols) E:=by
   have:=r.cut (c:=cap) (l:=0) (k:=(k+1)*cols) (by omega) hcap
   rw [I3] at this
   exact this.congr fun i _=>by rw [C6d]
  have row1:RowV RQr h (K9 A ((k+1)*cols) (k*cols) 4) cols (A1q E cols k):=row0.cut (c:=(k+1)*cols) (l:=k*cols) (k:=cols) (by omega) (C5q _)
  have cp:hp4.cell? ⟨bp,0,none⟩=some (.slice A1 k c1):=s4.cell (by unfold Heap.cell?;simp only [hbo];rfl)
  refine ⟨_,_,_,rfl,_,_,_,cp,s4.call (A4f (gl.mono lh1) (row1.mono I7 lh1) (by omega) bk hm ?_)⟩
  intro w g2 l2 iw hp5 s5
  refine ⟨_,_,_,_,_,_,_,rfl,s4.le_le s5 l2,?_⟩
  subst hvl
  refine OwnSl.push (ty:=Lk) C3h s5 ow (y:=w) (v:=w.v) rfl (by decide) (by omega) (by omega) (K1:=fun hq=>hp5.le hq) (fun _ l=>l) ?_
  intro A3 c3 h6 g6 o6 l6 s6 ow6 kp
  have k2:=kp bp _ hbo ha
  show wpH _ (C65 _ (.pointer (some (C5u ⟨bp,0,none⟩ 0))) _) _ _
  refine A0n B4m rfl rfl s6 k2.1 (by simp) ?_
  intro h7 o7 s7 eo
  exact ⟨g6,o7,vs++[w],A3,c3,B0 lg1 (B0 l2 l6),s7,⟨e,by rw [eo,C3];simp⟩,ow6.keep fun b y hb he=>by rw [eo,B8 _ _ (fun e=>k2.2 (by rw [<- e];exact hb))];exact he,k2.2,by simp,by
   have:=(Row.push (rr.mono (A7r cols) (B0 l2 l6)) (A7r cols _ _ _ _ l6 iw))
   simpa using this⟩
 ·rintro hp4 ⟨g1,o1,vs,A1,c1,lg1,s4,⟨e,hbo⟩,ow,ha,hvl,rr⟩
  have cp:hp4.cell? ⟨bp,0,none⟩=some (.slice A1 rows c1):=s4.cell (by unfold Heap.cell?;simp only [hbo];rfl)
  exact ⟨_,_,_,cp,hK A1 c1 hp4 (B0 l0 (B0 lg1 s4.le)) ⟨vs,ow.slF s4.ole,hvl,rr.mono (A7r cols) s4.le⟩⟩
end
section
variable {h:Heap} {K:VP} {A B:Option Addr} {n n2 cap cap2 m:Nat} {r c r2 c2:Int} {la lb:Nat->List UInt8} {w:QV} {q:Rat}
end
section
variable {h:Heap} {K:VP} {A B:Option Addr} {n w cap cap2 m:Nat} {f f2:Nat->Rat} {R:Nat->Nat->Rat}
theorem C11(hs:∀ i,i<w->Sz m (f i))(hs2:∀ i,i<w->Sz m (f2 i)):∀ k,k<=w->Sz (1+k*(2*m+1)) (sm k (fun j=>f j*f2 j)):=by
 intro k
 induction k with
 | zero=>intro _;exact Sz.zero (by omega)
 | succ k ih=>
  intro hk
  have h1:=ih (by omega)
  have h2:=(hs k (by omega)).mul (hs2 k (by omega))
  have e:1+(k+1)*(2*m+1)=1+k*(2*m+1)+(m+m)+1:=by rw [C6c];omega
  rw [e]
  exact h1.add h2
end
structure VOut where
 n:Nat
 f:Nat->List UInt8
 e:Int
section
variable {h:Heap} {K:VP} {A B:Option Addr} {n n2 cap cap2 m:Nat} {r c:Int} {la lx:Nat->List UInt8}
end
section
variable {h:Heap} {K:VP} {A B:Option Addr} {n n2 cap cap2 m:Nat} {r c:Int} {la lx:Nat->List UInt8}
theorem RowV.vat{w n:Nat}{f:Nat->Nat->Rat}(r:RowV (VQr w) h A n f){i:Nat}(hi:i<n):∃ a v,A=some a/\VQr w h v (f i)/\h.cell? (C5u (C5u a (i*3)) 0)=some (.slice v.A v.n v.c)/\h.cell? (C5u (C5u a (i*3)) 1)=some (.bool v.s)/\h.cell? (C5u (C5u a (i*3)) 2)=some (.slice v.B v.bn v.bc):=by
 obtain ⟨a,v,e,q,hc⟩:=RowV.at (by decide) r hi
 exact ⟨a,v,e,q,hc 0 _ rfl,hc 1 _ rfl,hc 2 _ rfl⟩
end
def MulO(r c:Int)(n:Nat)(la:Nat->List UInt8)(r2 c2:Int)(n2:Nat)(lb:Nat->List UInt8)(o:MOut):Prop:=
 (¬ (Mx r c n la/\Mx r2 c2 n2 lb)/\o=noM 1)\/(Mx r c n la/\Mx r2 c2 n2 lb/\c≠r2/\o=noM 4)\/(∃ rows mid cols,MOk r c n la rows mid/\MOk r2 c2 n2 lb mid cols/\o=⟨r,c2,rows*cols,fun k=>K3 (sm mid (fun j=>mtx (rvs la) mid (k/cols) j*mtx (rvs lb) cols j (k%cols))),0⟩)
theorem A7u{f f':Nat->Rat}: ∀ n,(∀ i,i<n->f i=f' i)->Be f n=Be f' n:=by
 intro n
 induction n with
 | zero=>intro _;rfl
 | succ n ih=>
  intro e
  show Nat.lcm (Be f n) (f n).den=Nat.lcm (Be f' n) (f' n).den
  rw [ih fun i hi=>e i (by omega),e n (by omega)]
theorem VQr.congr{h:Heap}{w:Nat}{v:VV}{f f':Nat->Rat}(x:VQr w h v f)(e:∀ i,i<w->f i=f' i):VQr w h v f':=by
 have hd:Be f w=Be f' w:=A7u w e
 obtain ⟨a,b,c⟩:=x
 rw [hd] at b c
 exact ⟨a,b,c.congr fun j hj=>by rw [e j hj]⟩
section
variable {h:Heap} {K:VP} {A B:Option Addr} {n n2 cap cap2 m:Nat} {r c r2 c2:Int} {la lb:Nat->List UInt8} {E:Nat->Rat}
theorem Zb{rows cols:Nat}(rv':RowV RQr h A (rows*cols) E)(hr:rows<=10000)(hc:cols<=10000)
 (hK:∀ A' c' h' g' o' xs,h.le g'->Sep h' g' o'->OwnSl o' E8 A' c' xs->xs.length=rows*cols->Row RQr g' xs (rows*cols) (fun k=>E (k%rows*cols+k/rows))->K (.slice A' (rows*cols) c') h'):FCall prog Bq #[.slice A (rows*cols) cap,I (rows:Int),I (cols:Int)] h K:=by
 refine Wi _ _ _ _ _ ?_
 unfold Vj
 have hrc:rows*cols<=10000*10000:=C5y hr hc
 refine R1 B4h (zx:=Cd) rfl (by omega) (by omega) (by omega) (by omega) ?_
 intro b hb
 simp only [C5v]
 refine ⟨_,_,_,rfl,fun L hp=>∃ (j:Nat) (g o:Heap) (xs:List QV) (A':Option Addr) (c':Nat),j<=cols/\L=[.slice A' (j*rows) c',I (j:Int)]/\h.le g/\Sep hp g o/\OwnSl o E8 A' c' xs/\xs.length=j*rows/\Row RQr g xs (j*rows) (fun k=>E (k%rows*cols+k/rows)),fun L _=>cols-(iAt L 1).toNat,
  ⟨0,h,Gq.put b _,[],some ⟨b,0,none⟩,rows*cols,by omega,by rw [C6n];rfl,B4 _,Ew hb,Pq,by simp,by rw [C6n];exact Row.nil⟩,?_⟩
 rintro rA rn rc z hp ⟨j,g,o,xs,A',c',hj,eL,lg,s,ow,hxl,rr⟩
 obtain ⟨⟨rfl,rfl,rfl⟩,rfl⟩:=sI2 eL
 refine B6 (fun hlt=>?_) (fun hge=>?_)
 ·have hjc:j<cols:=by omega
  have hj1:(j+1)*rows=j*rows+rows:=by rw [C6c,C6b]
  have hjr:(j+1)*rows<=cols*rows:=C5r _ hjc
  rw [C61 cols rows] at hjr
  refine ⟨fun L hp=>∃ (i:Nat) (g o:Heap) (xs:List QV) (A':Option Addr) (c':Nat),i<=rows/\L=[.slice A' (j*rows+i) c',I (i:Int)]/\h.le g/\Sep hp g o/\OwnSl o E8 A' c' xs/\xs.length=j*rows+i/\Row RQr g xs (j*rows+i) (fun k=>E (k%rows*cols+k/rows)),fun L _=>rows-(iAt L 1).toNat,
   ⟨0,g,o,xs,rA,rc,by omega,rfl,lg,s,ow,hxl,rr⟩,?_⟩
  rintro qA qn qc z hp2 ⟨i,g2,o2,ys,A2,c2,hi,eL,lg2,s2,ow2,hyl,rr2⟩
  obtain ⟨⟨rfl,rfl,rfl⟩,rfl⟩:=sI2 eL
  refine B6 (fun hlt2=>?_) (fun hge2=>?_)
  ·have hir:i<rows:=by omega
   have hidx:=L0 hir hjc
   have ew:B5 (B5 ((i:Int)*(cols:Int))+(j:Int))=((i*cols+j:Nat):Int):=by
    rw [<- C60,K7 (by omega)]
    exact K7 (n:=i*cols+j) (by omega)
   rw [ew]
   obtain ⟨a,w,ea,iw,c0,c1,c2',c3⟩:=(rv'.mono I7 lg2).qat hidx
   refine ⟨a,ea,by omega,by omega,_,_,_,_,_,_,_,_,B9 s2.le c0,B9 s2.le c1,B9 s2.le c2',B9 s2.le c3,?_⟩
   refine Ct (ty:=V6) B4h s2 ow2 hyl.symm (y:=w) rfl (by decide) (by rw [hyl];omega) (by rw [hyl];omega) ?_
   intro A3 c3 h3 g3 o3 l3 s3 ow3 _
   rw [hyl,wiS i (by omega)]
   refine ⟨⟨i+1,g3,o3,_,A3,c3,by omega,by rw [Nat.add_assoc],B0 lg2 l3,s3,ow3,by rw [C5t,hyl];rfl,?_⟩,?_⟩
   ·have rB:=Row.push (R:=RQr) (g:=g3) (xs:=ys) (f:=fun k=>E (k%rows*cols+k/rows)) (by rw [hyl];exact rr2.mono I7 l3) (w:=w) (by
     show RQ g3 w (E (ys.length%rows*cols+ys.length/rows))
     rw [hyl,C6p (j*rows) i,C63,C68 hir,C67 _ _ (by omega),C69 hir,C6d]
     exact I7 _ _ _ _ l3 iw)
    rw [C5t,hyl] at rB
    exact rB
   ·show rows-((i+1:Nat):Int).toNat<rows-(i:Int).toNat
    omega
  ·have:i=rows:=by omega
   subst this
   rw [wiS j (by omega),<- hj1]
   rw [<- hj1] at hyl rr2
   refine ⟨⟨j+1,g2,o2,ys,qA,qc,by omega,rfl,lg2,s2,ow2,hyl,rr2⟩,?_⟩
   show cols-((j+1:Nat):Int).toNat<cols-(j:Int).toNat
   omega
 ·have:j=cols:=by omega
  subst this
  rw [C61 j rows] at hxl rr ⊢
  exact hK rA rc hp g o xs lg s ow hxl rr
theorem A21{rows cols:Nat}(rv':RowV RQr h A (rows*cols) E)(hr:rows<=10000)(hc:cols<=10000)
 (hK:∀ A' c' h',h.le h'->rows*cols<=c'->RowV RQr h' A' (rows*cols) (fun k=>E (k%rows*cols+k/rows))->K (.slice A' (rows*cols) c') h'):FCall prog Bq #[.slice A (rows*cols) cap,I (rows:Int),I (cols:Int)] h K:=
 Zb rv' hr hc fun A' c' h' _ _ xs lg s ow hxl rr=>hK A' c' h' (B0 lg s.le) (by have:=ow.1;omega) ⟨xs,ow.slF s.ole,hxl,rr.mono I7 s.le⟩
theorem A7s{d:Nat}(gl:Gl h)(ra:RowV SSr h A n la)(rb:RowV SSr h B n2 lb)(hn:n<=1000000)(hn2:n2<=1000000)(hl:∀ i,i<n->(la i).length<=100000000)(hl2:∀ i,i<n2->(lb i).length<=100000000)(hs:∀ i,i<n->Sz m (rv (la i)))(hs2:∀ i,i<n2->Sz m (rv (lb i)))(hm1:1<=m)(hd:∀ rows mid,MOk r c n la rows mid->mid<=d)(hm:2*(1+d*(2*m+1)+2*m)+14<=40000000)
 (hK:∀ o,MulO r c n la r2 c2 n2 lb o->∀ A' cap' h',h.le h'->RowV SSr h' A' o.n o.f->K (.tuple #[Qd o.r o.c A' o.n cap',I o.e]) h'):FCall prog B1c #[Qd r c A n cap,Qd r2 c2 B n2 cap2] h K:=by
 refine C0c _ _ _ _ _ _ _ _ _ _ ?_
 unfold C5c
 have bad:¬ (Mx r c n la/\Mx r2 c2 n2 lb)->∀ h',h.le h'->K (.tuple #[Qd 0 0 none 0 0,I 1]) h':=fun hx h' l=>hK (noM 1) (.inl ⟨hx,rfl⟩) none 0 h' l RowV.nil
 refine Ec gl ra hn hl (fun rows mid mk b1 h1 own=>?_) (fun hno h1 l1=>⟨_,_,_,_,rfl,?_⟩)
 ·have l1:=own.le
  refine ⟨_,_,_,_,rfl,Ec (gl.mono l1) (rb.mono P7 l1) hn2 hl2 (fun mid2 cols mk2 b2 h2 own2=>⟨_,_,_,_,rfl,Br.nt (Br.nt ?_)⟩) (fun hno h2 l2=>⟨_,_,_,_,rfl,Br.nt (A3j (bad (fun x=>hno x.2) h2 (B0 l1 l2)))⟩)⟩
  have l2:=own2.le
  have lh2:=B0 l1 l2
  refine G9 (fun e=>hK (noM 4) (.inr (.inl ⟨⟨_,_,mk⟩,⟨_,_,mk2⟩,e,rfl⟩)) none 0 h2 lh2 RowV.nil) (fun e=>?_)
  obtain rfl:mid2=mid:=by have:=mk.ec;have:=mk2.er;omega
  have good:=hK _ (.inr (.inr ⟨rows,mid2,cols,mk,mk2,rfl⟩))
  have:=mk.r1;have:=mk.r2;have:=mk.c1;have:=mk.c2;have:=mk2.c1;have:=mk2.c2
  obtain ⟨rfl,rfl,_,_,_,_,rfl,_⟩:=id mk
  obtain ⟨rfl,rfl,_,_,_,_,rfl,_⟩:=id mk2
  clear e
  have ms:=B6r hs
  have ms2:=B6r hs2
  have hdm:=hd _ _ mk
  have hkm:mid2*(2*m+1)<=d*(2*m+1):=C5r _ hdm
  have hkm2:mid2*m<=d*m:=C5r _ hdm
  have hkm3:d*(2*m+1)=2*(d*m)+d:=by rw [Nat.mul_add,Nat.mul_one,Nat.mul_left_comm]
  have hrc:rows*cols<=64*64:=C5y (by omega) (by omega)
  refine Py (m:=m) (gl.mono lh2) ((own.vis I7).mono I7 l2) (C5q _) (by omega) (by omega) (by omega) hs (by omega) ?_
  intro A3 c3 h3 l3 rv3
  refine ⟨_,_,_,rfl,?_⟩
  refine A21 ((own2.vis I7).mono I7 l3) (by omega) (by omega) ?_
  intro A4 c4 h4 l4 hc4 rv4
  refine ⟨_,_,_,rfl,l4,?_⟩
  have lh4:=B0 lh2 (B0 l3 l4)
  rw [C61 mid2 cols] at rv4 hc4 ⊢
  refine Py (m:=m) (gl.mono lh4) rv4 hc4 (by omega) (by omega) (by omega) (fun i hi=>?_) (by omega) ?_
  ·have hi2:i/mid2<cols:=C5x (by rw [C61];exact hi)
   exact hs2 _ (L0 (C6e i (show 0<mid2 by omega)) hi2)
  intro A5 c5 h5 l5 rv5'
  have rv5:RowV (VQr mid2) h5 A5 cols (fun j i=>mtx (rvs lb) cols i j):=by
   obtain ⟨vs,sv,el,rr⟩:=rv5'
   refine ⟨vs,sv,el,fun j hj=>?_⟩
   obtain ⟨w,e1,hw⟩:=rr j hj
   refine ⟨w,e1,?_⟩
   have:=VQr.congr (f':=fun i=>mtx (rvs lb) cols i j) hw fun i hi=>?_
   ·exact this
   ·show rvs lb ((j*mid2+i)%mid2*cols+(j*mid2+i)/mid2)=rvs lb (i*cols+j)
    rw [C6p (j*mid2) i,C63,C68 hi,C67 _ _ (by omega),C69 hi,C6d]
  clear rv5'
  refine ⟨_,_,_,rfl,l5,?_⟩
  have lh5:=B0 lh4 l5
  have l35:=B0 l4 l5
  have ewm:B5 ((rows:Int)*(cols:Int))=((rows*cols:Nat):Int):=by rw [<- C60];exact K7 (by omega)
  rw [ewm]
  refine R1 B4h (zx:=Cd) rfl (by omega) (by omega) (by omega) (by omega) ?_
  intro b hb
  simp only [C5v]
  have sz:∀ i j,i<rows->j<cols->Sz (1+d*(2*m+1)) (sm mid2 (fun t=>mtx (rvs la) mid2 i t*mtx (rvs lb) cols t j)):=fun i j hi hj=>(C11 (f:=fun t=>mtx (rvs la) mid2 i t) (f2:=fun t=>mtx (rvs lb) cols t j) (fun t ht=>ms i t hi ht) (fun t ht=>ms2 t j ht hj) mid2 (C5q _)).mono (by omega)
  refine ⟨_,_,_,rfl,fun L hp=>∃ (k:Nat) (g o:Heap) (xs:List QV) (A':Option Addr) (c':Nat),k<=rows/\L=[.slice A' (k*cols) c',I (k:Int)]/\h5.le g/\Sep hp g o/\OwnSl o E8 A' c' xs/\xs.length=k*cols/\Row RQr g xs (k*cols) (fun k=>sm mid2 (fun j=>mtx (rvs la) mid2 (k/cols) j*mtx (rvs lb) cols j (k%cols))),fun L _=>rows-(iAt L 1).toNat,
   ⟨0,h5,Gq.put b _,[],some ⟨b,0,none⟩,rows*cols,by omega,by rw [C6n];rfl,B4 _,Ew hb,Pq,by simp,by rw [C6n];exact Row.nil⟩,?_⟩
  rintro rA rn rc z hp ⟨k,g,o,xs,A',c',hk,eL,lg,s,ow,hxl,rr⟩
  obtain ⟨⟨rfl,rfl,rfl⟩,rfl⟩:=sI2 eL
  refine B6 (fun hlt=>?_) (fun hge=>?_)
  ·have hkr:k<rows:=by omega
   have hj1:(k+1)*cols=k*cols+cols:=by rw [C6c,C6b]
   have hjr:(k+1)*cols<=rows*cols:=C5r _ hkr
   obtain ⟨a,v,ea,iv,c0,c1,c2'⟩:=(rv3.mono (A7r mid2) (B0 l35 lg)).vat hkr
   refine ⟨a,ea,by omega,by omega,_,_,_,_,_,_,_,B9 s.le c0,B9 s.le c1,B9 s.le c2',?_⟩
   refine ⟨fun L hp=>∃ (j:Nat) (g' o:Heap) (xs:List QV) (A':Option Addr) (c':Nat),j<=cols/\L=[.slice A' (k*cols+j) c',I (j:Int)]/\g.le g'/\Sep hp g' o/\OwnSl o E8 A' c' xs/\xs.length=k*cols+j/\Row RQr g' xs (k*cols+j) (fun k=>sm mid2 (fun j=>mtx (rvs la) mid2 (k/cols) j*mtx (rvs lb) cols j (k%cols))),fun L _=>cols-(iAt L 1).toNat,
    ⟨0,g,o,xs,rA,rc,by omega,rfl,B4 _,s,ow,hxl,rr⟩,?_⟩
   rintro qA qn qc z hp2 ⟨j,g2,o2,ys,A2,c2,hj,eL,lg2,s2,ow2,hyl,rr2⟩
   obtain ⟨⟨rfl,rfl,rfl⟩,rfl⟩:=sI2 eL
   refine B6 (fun hlt2=>?_) (fun hge2=>?_)
   ·have hjc:j<cols:=by omega
    obtain ⟨a6,u,ea6,iu,d0,d1,d2⟩:=(rv5.mono (A7r mid2) (B0 lg lg2)).vat hjc
    refine ⟨a6,ea6,by omega,by omega,_,_,_,_,_,_,_,B9 s2.le d0,B9 s2.le d1,B9 s2.le d2,?_⟩
    refine s2.call (A7a (m:=m) (v:=v) (u:=u) (gl.mono (B0 lh5 (B0 lg lg2))) (A7r mid2 _ _ _ _ lg2 iv) iu (by omega) (fun t ht=>ms k t hkr ht) (fun t ht=>ms2 t j ht hjc) hm1 (by omega) ?_)
    intro q g7 l7 iq h7 s7
    refine ⟨_,_,_,_,_,_,_,_,rfl,?_⟩
    refine Ct (ty:=V6) B4h s7 ow2 hyl.symm (y:=q) rfl (by decide) (by rw [hyl];omega) (by rw [hyl];omega) ?_
    intro A8 c8 h8 g8 o8 l8 s8 ow8 _
    rw [hyl,wiS j (by omega)]
    refine ⟨⟨j+1,g8,o8,_,A8,c8,by omega,by rw [Nat.add_assoc],B0 lg2 (B0 l7 l8),s8,ow8,by rw [C5t,hyl];rfl,?_⟩,?_⟩
    ·have rB:=Row.push (R:=RQr) (g:=g8) (xs:=ys) (f:=fun k=>sm mid2 (fun j=>mtx (rvs la) mid2 (k/cols) j*mtx (rvs lb) cols j (k%cols))) (by rw [hyl];exact rr2.mono I7 (B0 l7 l8)) (w:=q) (by
      show RQ g8 q (sm mid2 (fun t=>mtx (rvs la) mid2 (ys.length/cols) t*mtx (rvs lb) cols t (ys.length%cols)))
      rw [hyl,C6p (k*cols) j,C63,C68 hjc,C67 _ _ (by omega),C69 hjc,C6d]
      exact I7 _ _ _ _ l8 iq)
     rw [C5t,hyl] at rB
     exact rB
    ·show cols-((j+1:Nat):Int).toNat<cols-(j:Int).toNat
     omega
   ·have:j=cols:=by omega
    subst this
    rw [wiS k (by omega),<- hj1]
    rw [<- hj1] at hyl rr2
    refine ⟨⟨k+1,g2,o2,ys,qA,qc,by omega,rfl,B0 lg lg2,s2,ow2,hyl,rr2⟩,?_⟩
    show rows-((k+1:Nat):Int).toNat<rows-(k:Int).toNat
    omega
  ·have:k=rows:=by omega
   subst this
   have lh6:=B0 lh5 (B0 lg s.le)
   have rq:RowV RQr hp rA (k*cols) (fun t=>sm mid2 (fun j=>mtx (rvs la) mid2 (t/cols) j*mtx (rvs lb) cols j (t%cols))):=⟨xs,ow.slF s.ole,hxl,rr.mono I7 s.le⟩
   refine A4g (m:=1+d*(2*m+1)) (gl.mono lh6) rq (by omega) (fun t ht=>?_) (by omega) ?_
   ·exact sz _ _ (C5x (by rw [C61];exact ht)) (C6e t (show 0<cols by omega))
   intro b9 h9 own9
   exact ⟨_,_,_,_,_,rfl,good _ _ h9 (B0 lh6 own9.le) (own9.vis P7)⟩
 ·refine Ec (gl.mono l1) (rb.mono P7 l1) hn2 hl2 (fun mid2 cols mk2 b2 h2 own2=>⟨_,_,_,_,rfl,A3j (bad (fun x=>hno x.1) h2 (B0 l1 own2.le))⟩) (fun _ h2 l2=>⟨_,_,_,_,rfl,A3j (bad (fun x=>hno x.1) h2 (B0 l1 l2))⟩)
end
def Fk(P Q:Nat->Nat->Rat)(w i k j:Nat):Nat->Nat->Rat:=fun a b=>if a<i then sm w (fun t=>P a t*Q t b) else if a=i then (if b<j then sm (k+1) (fun t=>P a t*Q t b) else sm k (fun t=>P a t*Q t b)) else 0
theorem A4c(P Q:Nat->Nat->Rat)(w a b:Nat):Fk P Q w 0 0 0 a b=0:=by
 unfold Fk
 rw [if_neg (C6j a),if_neg (C6j b)]
 split<;>rfl
theorem A7m(P Q:Nat->Nat->Rat)(w i k j a b:Nat):B8d (Fk P Q w i k j) i j (sm k (fun t=>P i t*Q t j)+P i k*Q k j) a b=Fk P Q w i k (j+1) a b:=by
 unfold B8d Fk
 by_cases e:a=i/\b=j
 ·obtain ⟨rfl,rfl⟩:=e
  rw [if_pos ⟨rfl,rfl⟩,if_neg (C64 a),if_pos rfl,if_pos (Nat.lt_succ_self b)]
  rfl
 ·rw [if_neg e]
  by_cases h1:a<i
  ·rw [if_pos h1,if_pos h1]
  ·rw [if_neg h1,if_neg h1]
   by_cases h2:a=i
   ·rw [if_pos h2,if_pos h2]
    by_cases h3:b<j
    ·rw [if_pos h3,if_pos (by omega)]
    ·rw [if_neg h3,if_neg (by omega)]
   ·rw [if_neg h2,if_neg h2]
theorem A7n(P Q:Nat->Nat->Rat){w i k j c:Nat}(h:j=c\/P i k=0){a b:Nat}(hb:b<c):Fk P Q w i k j a b=Fk P Q w i (k+1) 0 a b:=by
 unfold Fk
 by_cases h1:a<i
 ·rw [if_pos h1,if_pos h1]
 ·rw [if_neg h1,if_neg h1]
  by_cases h2:a=i
  ·subst h2
   rw [if_pos rfl,if_pos rfl,if_neg (C6j b)]
   by_cases h3:b<j
   ·rw [if_pos h3]
   ·rw [if_neg h3]
    rcases h with h|h
    ·omega
    ·show _=sm k (fun t=>P a t*Q t b)+P a k*Q k b
     rw [h,C62,C66]
  ·rw [if_neg h2,if_neg h2]
theorem B05(P Q:Nat->Nat->Rat)(w i a b:Nat):Fk P Q w i w 0 a b=Fk P Q w (i+1) 0 0 a b:=by
 unfold Fk
 by_cases h1:a<i
 ·rw [if_pos h1,if_pos (by omega)]
 ·rw [if_neg h1]
  by_cases h2:a=i
  ·rw [if_pos h2,if_neg (C6j b),if_pos (by omega)]
  ·rw [if_neg h2,if_neg (by omega)]
   split
   ·rw [if_neg (C6j b)];rfl
   ·rfl
section
variable {h:Heap} {K:VP} {A B:Option Addr} {n n2 cap cap2 m w cols:Nat} {r c r2 c2:Int} {la lb:Nat->List UInt8} {P Q:Nat->Nat->Rat}
theorem A2b(ra:RowsV h A n w P)(rb:RowsV h B w cols Q)(hn1:1<=n)(hn:n<=10000)(hw1:1<=w)(hw:w<=10000)(hc1:1<=cols)(hc:cols<=10000)(hs:∀ i j,i<n->j<w->Sz m (P i j))(hs2:∀ i j,i<w->j<cols->Sz m (Q i j))(hm:1+w*(2*m+1)+2*m<=400000000)
 (hK:∀ h' g' o' bo rb,h.le g'->Mt h' g' o' bo rb n cols (fun a b=>sm w (fun t=>P a t*Q t b))->K (.slice (some ⟨bo,0,none⟩) n n) h'):FCall prog A02 #[.slice A n cap,.slice B w cap2] h K:=by
 refine B3l _ _ _ _ _ _ ?_
 unfold B82
 obtain ⟨aB,sB,eB,fB1,fB2,hcB,_⟩:=rb.at (i:=0) (by omega)
 refine ⟨aB,eB,by omega,by omega,_,_,_,hcB,?_⟩
 rw [fB1]
 refine Tk hn hc ?_
 intro h1 g1 o1 bo rbo l1 t1
 refine ⟨_,_,_,rfl,fun L hp=>∃ (i:Nat) (g o:Heap),i<=n/\L=[I (i:Int)]/\h.le g/\Mt hp g o bo rbo n cols (Fk P Q w i 0 0),fun L _=>n-(iAt L 0).toNat,⟨0,g1,o1,by omega,rfl,l1,t1.congr fun a b _ _=>(A4c P Q w a b).symm⟩,?_⟩
 rintro z hp ⟨i,g,o,hi,eL,lg,t⟩
 obtain rfl:=sI1 eL
 refine B6 (fun hlt=>?_) (fun hge=>?_)
 ·have hin:i<n:=by omega
  obtain ⟨a1,s1,ea1,f1,f2,hc1,row1⟩:=ra.at hin
  refine ⟨fun L hp=>∃ (k:Nat) (g o:Heap),k<=w/\L=[I (k:Int)]/\h.le g/\Mt hp g o bo rbo n cols (Fk P Q w i k 0),fun L _=>w-(iAt L 0).toNat,⟨0,g,o,by omega,rfl,lg,t⟩,?_⟩
  rintro z hp2 ⟨k,g2,o2,hk,eL2,lg2,t2⟩
  obtain rfl:=sI1 eL2
  refine B6 (fun hlt2=>?_) (fun hge2=>?_)
  ·have hkw:k<w:=by omega
   obtain ⟨a2,s2,ea2,f3,f4,hc2,row2⟩:=rb.at hkw
   refine ⟨fun L hp=>∃ (j:Nat) (g o:Heap),j<=cols/\L=[I (j:Int)]/\h.le g/\Mt hp g o bo rbo n cols (Fk P Q w i k j),fun L _=>cols-(iAt L 0).toNat,⟨0,g2,o2,by omega,rfl,lg2,t2⟩,?_⟩
   rintro z hp3 ⟨j,g3,o3,hj,eL3,lg3,t3⟩
   obtain rfl:=sI1 eL3
   have lhp:=B0 lg3 t3.sep.le
   have next:(j=cols\/P i k=0)->((∃ (k':Nat) (g o:Heap),k'<=w/\[I (B5 ((k:Int)+1))]=[I (k':Int)]/\h.le g/\Mt hp3 g o bo rbo n cols (Fk P Q w i k' 0))/\w-(iAt [I (B5 ((k:Int)+1))] 0).toNat<w-(iAt [I (k:Int)] 0).toNat):=by
    intro hx
    rw [wiS k (by omega)]
    exact ⟨⟨k+1,g3,o3,by omega,rfl,lg3,t3.congr fun a b _ hb=>A7n P Q hx hb⟩,by simp only [Dm];omega⟩
   refine ⟨aB,eB,by omega,by omega,_,_,_,B9 lhp hcB,?_⟩
   rw [fB1]
   refine B6 (fun hlt3=>?_) (fun hge3=>next (.inl (by omega)))
   have hjc:j<cols:=by omega
   obtain ⟨a5,w5,e5,n5,c0,c1,c2',c3⟩:=(row1.mono Su lg3).qat hkw
   obtain ⟨a6,w6,e6,n6,d0,d1,d2,d3⟩:=(row2.mono Su lg3).qat hjc
   obtain ⟨cc,hcc,hh⟩:=t3.head hin
   obtain ⟨x,ix,x0,x1,x2,x3⟩:=t3.elem hin hjc
   refine ⟨a1,ea1,by omega,by omega,_,_,_,B9 lhp hc1,a5,e5,by omega,by omega,_,_,_,_,_,_,_,_,B9 t3.sep.le c0,B9 t3.sep.le c1,B9 t3.sep.le c2',B9 t3.sep.le c3,?_⟩
   refine A7h (NQ.mono t3.sep.le n5) ⟨_,rfl,G9 (fun hne=>?_) (fun he=>next (.inr (by rw [Int.sign_eq_zero_iff_zero] at he;exact Rat.num_eq_zero.1 he)))⟩
   refine ⟨_,rfl,by omega,by omega,_,_,_,t3.sep.cell hh,_,rfl,by omega,by omega,_,_,_,t3.sep.cell hh,_,rfl,by omega,by omega,_,_,_,_,_,_,_,_,t3.sep.cell x0,t3.sep.cell x1,t3.sep.cell x2,t3.sep.cell x3,a1,ea1,by omega,by omega,_,_,_,B9 lhp hc1,a5,e5,by omega,by omega,_,_,_,_,_,_,_,_,B9 t3.sep.le c0,B9 t3.sep.le c1,B9 t3.sep.le c2',B9 t3.sep.le c3,a2,ea2,by omega,by omega,_,_,_,B9 lhp hc2,a6,e6,by omega,by omega,_,_,_,_,_,_,_,_,B9 t3.sep.le d0,B9 t3.sep.le d1,B9 t3.sep.le d2,B9 t3.sep.le d3,?_⟩
   refine t3.sep.call (A9z (a:=w5) (b:=w6) n5 n6 (hs i k hin hkw) (hs2 k j hkw hjc) (by omega) ?_)
   intro w7 g7 l7 i7 h7 s7
   refine ⟨_,_,_,_,_,_,_,_,rfl,t3.sep.le_le s7 l7,?_⟩
   have ev:Fk P Q w i k j i j=sm k (fun t=>P i t*Q t j):=by
    unfold Fk
    rw [if_neg (C64 i),if_pos rfl,if_neg (C64 j)]
   rw [ev] at ix
   have hkm:k*(2*m+1)<=w*(2*m+1):=C5r _ hk
   refine s7.call (A1t (a:=x) (b:=w7) (m:=1+k*(2*m+1)+2*m) (NQ.mono l7 ix) i7 ((C11 (f:=fun t=>P i t) (f2:=fun t=>Q t j) (fun t ht=>hs i t hin ht) (fun t ht=>hs2 t j ht hjc) k hk).mono (by omega)) (((hs i k hin hkw).mul (hs2 k j hkw hjc)).mono (by omega)) (by omega) ?_)
   intro w8 g8 l8 i8 h8 s8
   have t8:Mt h8 g8 o3 bo rbo n cols (Fk P Q w i k j):=t3.next s8 (B0 l7 l8)
   refine ⟨_,_,_,_,_,_,_,_,rfl,s7.le_le s8 l8,_,rfl,by omega,by omega,?_⟩
   refine t8.store hin hjc i8 ?_
   intro h9 o9 t9 _
   rw [wiS j (by omega)]
   exact ⟨⟨j+1,g8,o9,by omega,rfl,B0 lg3 (B0 l7 l8),t9.congr fun a b _ _=>A7m P Q w i k j a b⟩,by simp only [Dm];omega⟩
  ·have:k=w:=by omega
   subst this
   rw [wiS i (by omega)]
   exact ⟨⟨i+1,g2,o2,by omega,rfl,lg2,t2.congr fun a b _ _=>B05 P Q k i a b⟩,by simp only [Dm];omega⟩
 ·have:i=n:=by omega
  subst this
  exact hK hp g o bo rbo lg (t.congr fun a b ha _=>by unfold Fk;rw [if_pos ha])
end
def inR(bo:Nat)(rb:Nat->Nat)(n x:Nat):Prop:=x=bo\/∃ i,i<n/\x=rb i
section
variable {h:Heap} {K:VP} {n:Nat}
end
structure Gd (h g o:Heap) (ba:Nat) (ra:Nat->Nat) (bl:Nat) (rl:Nat->Nat) (n:Nat) (P L:Nat->Nat->Rat) (A:Option Addr) (c k:Nat) (D:Nat->Rat):Prop where
 a:Mt h g o ba ra n n P
 l:Mt h g o bl rl n n L
 d:∃ xs:List QV,OwnSl o V7 A c xs/\xs.length=k/\Row NQr g xs k D
 al:∀ x,inR ba ra n x->¬ inR bl rl n x
 ad:∀ x,A=some ⟨x,0,none⟩->¬ inR ba ra n x/\¬ inR bl rl n x
section
variable {h g o:Heap} {ba bl n c k:Nat} {ra rl:Nat->Nat} {P L:Nat->Nat->Rat} {A:Option Addr} {D:Nat->Rat}
end
section
variable {h:Heap} {K:VP} {A:Option Addr} {n cap Q:Nat} {E:Nat->Rat}
end
end Go.Proofs.YtajkakhfcokljaaGreatDoor
namespace Go.Proofs.YtajkakhfcokljaaGreatDoor
set_option maxRecDepth 20000
structure LUS where
 R:Nat->Nat->Rat
 L:Nat->Nat->Rat
 p:Nat->Nat
def C18(n c:Nat)(s:LUS):Nat:=fnd (fun i=>decide (s.R i c≠0)) (n-c) c
def C3j(R:Nat->Nat->Rat)(c:Nat):Nat->Nat->Rat:=fun i j=>if i<=c\/j<c then R i j else R i j-R i c/R c c*R c j
def C3l(R L:Nat->Nat->Rat)(c:Nat):Nat->Nat->Rat:=fun i j=>if j=c then (if i=c then 1 else if c<i then R i c/R c c else 0) else L i j
def C3k(n c:Nat)(s:LUS):LUS:=
 { R:=C3j (fun i=>s.R (xch c (C18 n c s) i)) c
   L:=C3l (fun i=>s.R (xch c (C18 n c s) i)) (fun i=>s.L (xch c (C18 n c s) i)) c
   p:=fun i=>s.p (xch c (C18 n c s) i) }
def C3m(n:Nat)(M:Nat->Nat->Rat):Nat->LUS
 | 0=>⟨M,fun _ _=>0,fun i=>i⟩
 | c+1=>C3k n c (C3m n M c)
structure LuI (n c m:Nat) (M:Nat->Nat->Rat) (s:LUS):Prop where
 zero:∀ i j,i<n->c<=i->j<c->s.R i j=0
 lz:∀ i j,c<=j->s.L i j=0
 szR:∀ i j,i<n->j<n->Sz (7^c*m) (s.R i j)
 szL:∀ i j,i<n->j<n->Sz (7^c*m) (s.L i j)
 len:(B8q n ⟨M,[],1⟩ c).cs.length=c
 sync:∀ i j,i<n->c<=i->(B8q n ⟨M,[],1⟩ c).R i j=s.R i j
def inM(bo:Nat)(rb:Nat->Nat)(n x:Nat):Prop:=x=bo\/∃ i,i<n/\x=rb i
structure Lu3 (h g o:Heap) (bu:Nat) (ru:Nat->Nat) (bl:Nat) (rl:Nat->Nat) (bp n:Nat) (U L:Nat->Nat->Rat) (p:Nat->Nat):Prop where
 u:Mt h g o bu ru n n U
 l:Mt h g o bl rl n n L
 p:∃ ps:List Int,RowB o bp ps/\ps.length=n/\∀ i,i<n->ps[i]? = some ((p i:Nat):Int)
 ul:∀ x,inM bu ru n x->¬ inM bl rl n x
 pu:¬ inM bu ru n bp
 pl:¬ inM bl rl n bp
section
variable {h g o:Heap} {bu bl bp n:Nat} {ru rl:Nat->Nat} {U L:Nat->Nat->Rat} {p:Nat->Nat}
end
structure LOut where
 d:Int
 n:Nat
 q:Nat
 p:Nat->Nat
 l:Nat->List UInt8
 u:Nat->List UInt8
 e:Int
section
variable {h:Heap} {K:VP} {A:Option Addr} {n cap m:Nat} {r c:Int} {la:Nat->List UInt8}
end
def QM(g o:Heap)(b n:Nat)(L:Nat->Nat->Rat):Prop:=∃ xs:List QV,RowX o b xs/\xs.length=n*n/\∀ i j,i<n->j<n->∃ w,xs[i*n+j]? = some w/\RQ g w (L i j)
def inT(T:Tb)(x:Nat):Prop:=x=T.bt\/x=T.bE\/x=T.bS
section
variable {g o:Heap} {b n:Nat} {L:Nat->Nat->Rat}
end
structure LuT (h g o:Heap) (T:Tb) (M:Nat->Nat->Int) (S:Nat->Rat) (bp bl bu n:Nat) (p:Nat->Nat) (L U:Nat->Nat->Rat):Prop where
 t:Tab h g o T M S
 p:∃ ps:List Int,RowB o bp ps/\ps.length=n/\∀ i,i<n->ps[i]? = some ((p i:Nat):Int)
 l:QM g o bl n L
 u:QM g o bu n U
 tp:¬ inT T bp
 tl:¬ inT T bl
 tu:¬ inT T bu
 pl:bp≠bl
 pu:bp≠bu
 lu:bl≠bu
section
variable {h g o:Heap} {T:Tb} {M:Nat->Nat->Int} {S:Nat->Rat} {bp bl bu n:Nat} {p:Nat->Nat} {L U:Nat->Nat->Rat}
end
theorem fr2{l si ri sk rk:Rat}(hl:l≠0)(hi:si≠0)(hk:sk≠0):l*(si*ri)/(l*(sk*rk))*sk/si=ri/rk:=by
 have h1:=C6f _ hl
 have h2:=C6f _ hi
 have h3:=C6f _ hk
 rw [C6v,C6v,C6v,Rat.inv_mul_rev,Rat.inv_mul_rev]
 grind
structure LuF (E:Nat->Rat) (n k m:Nat):Prop where
 row:A5w n k (elP E n n k)=C18 n k (C3m n (mtx E n) k)
 val:∀ i j,i<n->k<=i->j<n->((elP E n n k).M i j:Rat)=(elP E n n k).last*((elP E n n k).S i*(C3m n (mtx E n) k).R i j)
 last:(elP E n n k).last≠0
 S:∀ i,i<n->(elP E n n k).S i≠0
 len:(elP E n n k).cs.length=k
 zM:∀ a b,a<n->b<n->ZB (3^k*bnd n m) ((elP E n n k).M a b)
 zl:ZB (3^k*bnd n m) (elP E n n k).last
 zS:∀ a,a<n->Sz (bnd n m) ((elP E n n k).S a)
section
variable {h:Heap} {K:VP} {A:Option Addr} {n cap m:Nat} {r c:Int} {la:Nat->List UInt8}
end
section
variable {h:Heap} {K:VP} {A B:Option Addr} {n n2 cap cap2 m:Nat} {r c r2 c2:Int} {la lb:Nat->List UInt8}
end
def C3n(la:Nat->List UInt8)(mid:Nat)(lb:Nat->List UInt8)(cols:Nat):Nat->List UInt8:=fun k=>K3 (sm mid (fun j=>mtx (rvs la) mid (k/cols) j*mtx (rvs lb) cols j (k%cols)))
def B49(la:Nat->List UInt8)(rows cols:Nat):Nat->List UInt8:=fun k=>la (k%rows*cols+k/rows)
theorem B1q{i j c:Nat}(hj:j<c):(i*c+j)/c=i/\(i*c+j)%c=j:=by
 rw [C6p,C63,C68 hj,C67 _ _ (by omega),C69 hj,C6d]
 exact ⟨rfl,rfl⟩
theorem A9b(la:Nat->List UInt8){rows cols i j:Nat}(hj:j<rows):mtx (rvs (B49 la rows cols)) rows i j=mtx (rvs la) cols j i:=by
 obtain ⟨e1,e2⟩:=B1q (i:=i) hj
 show rv (la ((i*rows+j)%rows*cols+(i*rows+j)/rows))=_
 rw [e1,e2]
 rfl
section
variable {r c r2 c2:Int} {n n2 m rows mid mid2 cols:Nat} {la lb:Nat->List UInt8} {o:MOut}
theorem MOk.turn(ma:MOk r c n la rows cols):MOk c r n (B49 la rows cols) cols rows:=by
 refine ⟨ma.ec,ma.er,ma.c1,ma.c2,ma.r1,ma.r2,by rw [ma.len,C61],fun i hi=>ma.num _ ?_⟩
 have e:=ma.len
 have hr:=ma.r1
 rw [e] at hi ⊢
 exact L0 (C6e i (by omega)) (C5x hi)
theorem MOk.uniq{rows2 cols2:Nat}(ma:MOk r c n la rows cols)(mb:MOk r c n la rows2 cols2):rows2=rows/\cols2=cols:=by
 have:=ma.er;have:=ma.ec;have:=mb.er;have:=mb.ec
 omega
theorem MulO.ok(ma:MOk r c n la rows mid)(mb:MOk r2 c2 n2 lb mid2 cols)(ho:MulO r c n la r2 c2 n2 lb o):(mid=mid2/\c=r2/\o=⟨r,c2,rows*cols,C3n la mid lb cols,0⟩)\/(mid≠mid2/\c≠r2/\o=noM 4):=by
 rcases ho with ⟨h1,_⟩|⟨_,_,h3,rfl⟩|⟨a1,b1,c1,h1,h2,rfl⟩
 ·exact absurd ⟨⟨_,_,ma⟩,⟨_,_,mb⟩⟩ h1
 ·exact .inr ⟨by rintro rfl;exact h3 (by rw [ma.ec,mb.er]),h3,rfl⟩
 ·obtain ⟨rfl,rfl⟩:=ma.uniq h1
  obtain ⟨rfl,rfl⟩:=mb.uniq h2
  exact .inl ⟨rfl,by rw [h1.ec,h2.er],rfl⟩
end
section
variable {h:Heap} {K:VP} {A:Option Addr} {n cap m:Nat} {r c:Int} {la:Nat->List UInt8}
end
section
variable {h g o:Heap} {wA B:Option Addr} {wc be m d:Nat} {hd:List HV} {xs ys:List QV}
end
section
variable {h:Heap} {K:VP} {A B:Option Addr} {n cap m:Nat} {r c:Int} {la:Nat->List UInt8} {E:Nat->Rat}
end
set_option maxRecDepth 20000
section
variable {h:Heap} {K:VP} {A:Option Addr} {n ac N cap:Nat} {r c:Int} {la:Nat->List UInt8}
end
section
variable {h:Heap} {A:Option Addr} {n cap:Nat} {r c:Int} {ls:Nat->List UInt8}
end
theorem B5b{M:Nat->Nat->Rat}{q:Nat}{r:Int}(hr:r=q)(h1:1<=q)(h2:q<=64):MOk r r (q*q) (Ef M q) q q:=⟨hr,hr,h1,h2,h1,h2,rfl,fun _ _=>⟨_,rfl⟩⟩
theorem B5a{M:Nat->Nat->Rat}{q m:Nat}(hq:1<=q)(hs:∀ i j,i<q->j<q->Sz m (M i j)):∀ i,i<q*q->Sz m (rv (Ef M q i)):=by
 intro i hi
 show Sz m (rv (K3 _))
 rw [Gn]
 exact hs _ _ (C5x hi) (C6e i (by omega))
theorem B15{M:Nat->Nat->Rat}{q m:Nat}(hq:1<=q)(hs:∀ i j,i<q->j<q->Sz m (M i j)):∀ i,i<q*q->(Ef M q i).length<=2*m+4:=by
 intro i hi
 exact Ri (hs _ _ (C5x hi) (C6e i (by omega)))
section
variable {h:Heap} {K:VP} {A:Option Addr} {n cap m:Nat} {r c:Int} {la:Nat->List UInt8}
end
def bvF(ls:Nat->List UInt8)(ln:Nat):Nat->Rat:=fun t=>if t<ln then rv (ls t) else 0
def C0g(E:Nat->Rat)(q:Nat):Nat->Nat->Rat:=fun a b=>sm q fun t=>mtx E q t a*mtx E q t b
def A7e(ls:Nat->List UInt8)(ln:Nat)(cs:Nat->List UInt8)(cn q:Nat):Nat->Nat->Rat:=fun a b=>C0g (bvF ls ln) q a b-if a=b/\a<cn then rv (cs a) else 0
theorem A9o(ls:Nat->List UInt8)(ln:Nat)(cs:Nat->List UInt8)(cn q a b:Nat):A7e ls ln cs cn q a b=A7e ls ln cs cn q b a:=by
 unfold A7e C0g
 rw [C9 fun t _=>C6y _ _]
 congr 1
 by_cases e:a=b
 ·rw [e]
 ·rw [if_neg (fun x=>e x.1),if_neg (fun x=>e x.1.symm)]
theorem C10{w m m2:Nat}{f f2:Nat->Rat}(hs:∀ i,i<w->Sz m (f i))(hs2:∀ i,i<w->Sz m2 (f2 i)):∀ k,k<=w->Sz (1+k*(m+m2+1)) (sm k (fun j=>f j*f2 j)):=by
 intro k
 induction k with
 | zero=>intro _;exact Sz.zero (by omega)
 | succ k ih=>
  intro hk
  have h1:=ih (by omega)
  have h2:=(hs k (by omega)).mul (hs2 k (by omega))
  have e:1+(k+1)*(m+m2+1)=1+k*(m+m2+1)+(m+m2)+1:=by rw [C6c];omega
  rw [e]
  exact h1.add h2
theorem B7b{ls:Nat->List UInt8}{ln:Nat}(hl:∀ i,i<ln->(ls i).length<=8)(t:Nat):Sz 32 (bvF ls ln t):=by
 unfold bvF
 split
 ·exact A9w (k:=8) (hl t (by assumption)) (by omega)
 ·exact Sz.zero (by omega)
theorem A9m{E:Nat->Rat}{q:Nat}(hE:∀ t,Sz 32 (E t))(hq:q<=4)(a b:Nat):Sz 261 (C0g E q a b):=by
 have:=C10 (w:=q) (f:=fun t=>mtx E q t a) (f2:=fun t=>mtx E q t b) (fun t _=>hE _) (fun t _=>hE _) q (C5q _)
 exact this.mono (by omega)
theorem A9n{ls cs:Nat->List UInt8}{ln cn q:Nat}(hl:∀ i,i<ln->(ls i).length<=8)(hc:∀ i,i<cn->(cs i).length<=8)(hq:q<=4)(a b:Nat):Sz 294 (A7e ls ln cs cn q a b):=by
 refine ((A9m (B7b hl) hq a b).sub (n:=32) ?_).mono (by omega)
 split
 ·rename_i e;exact A9w (k:=8) (hc a e.2) (by omega)
 ·exact Sz.zero (by omega)
theorem C0z(ls:Nat->List UInt8)(ln:Nat)(cs:Nat->List UInt8)(cn:Nat){q:Nat}:SymT q (Ef (A7e ls ln cs cn q) q):=fun i j hi hj=>by
 have hjq:j<q:=by omega
 unfold Ef
 obtain ⟨d1,d2⟩:=Ai (i:=i) hjq
 obtain ⟨d3,d4⟩:=Ai (i:=j) hi
 rw [d1,d2,d3,d4,A9o]
theorem C0y(ls:Nat->List UInt8)(ln:Nat)(cs:Nat->List UInt8)(cn:Nat){q:Nat}(h1:1<=q)(h2:q<=64):B41 (q:Int) (q:Int) (q*q) (Ef (A7e ls ln cs cn q) q) q:=⟨B5b rfl h1 h2,C0z ls ln cs cn⟩
section
variable {h:Heap} {K:VP} {A B lA cA:Option Addr} {n ln lc cn cc cap cap2 m m2:Nat} {ls cs:Nat->List UInt8} {R:Nat->Nat->Rat} {f:Nat->Rat}
theorem A7v{n:Int}(hK:∀ k:Nat,k<4->K (I (k:Int)) h):FCall prog B1d #[I n,I 4] h K:=by
 refine C0d _ _ ?_
 unfold C5e
 have h1:=Int.tmod_lt_of_pos n (show (0:Int)<4 by decide)
 have h2: -4<C6w n 4:=by
  have:=Int.lt_tmod_of_pos n (show (0:Int)<4 by decide)
  omega
 refine B6 (fun e=>by omega) (fun _=>B6 (fun hneg=>?_) (fun hpos=>?_))
 ·have:=hK (C6w n 4+4).toNat (by omega)
  rw [show B5 (C6w n 4+4)=(((C6w n 4+4).toNat:Nat):Int) by rw [B7]<;>omega]
  exact this
 ·have:=hK (C6w n 4).toNat (by omega)
  rw [show ((C6w n 4).toNat:Int)=C6w n 4 by omega] at this
  exact this
theorem Sw{n:Int}(rl:RowV SSr h lA ln ls)(rc:RowV SSr h cA cn cs)(hl:∀ i,i<ln->(ls i).length<=8)(hc:∀ i,i<cn->(cs i).length<=8)
 (hK:∀ q,1<=q->q<=4->∀ A' c' h',h.le h'->q*q<=c'->RowV SSr h' A' (q*q) (Ef (A7e ls ln cs cn q) q)->K (Qd q q A' (q*q) c') h'):FCall prog Hw #[.slice lA ln lc,I n,.slice cA cn cc] h K:=by
 refine A0x _ _ _ _ _ _ _ ?_
 unfold Yb
 refine A7v ?_
 intro k hk
 refine ⟨_,rfl,?_⟩
 rw [wiS k (by omega)]
 have hq1:1<=k+1:=by omega
 have hq4:k+1<=4:=by omega
 generalize k+1=q at *
 have hqq:q*q<=4*4:=C5y hq4 hq4
 rw [wiM q q (by omega)]
 have sE:=B7b hl
 refine ⟨fun L hp=>∃ (k:Nat) (g o:Heap) (xs:List QV) (A':Option Addr) (c':Nat),k<=q*q/\L=[.slice A' k c',I (k:Int)]/\h.le g/\Sep hp g o/\OwnSl o V7 A' c' xs/\xs.length=k/\Row NQr g xs k (bvF ls ln),fun L _=>q*q-(iAt L 1).toNat,⟨0,h,Gq,[],none,0,by omega,rfl,B4 _,Sep.refl h,OwnSl.nil,rfl,Row.nil⟩,?_⟩
 rintro bA bn bc z hp ⟨k,g,o,xs,A',c',hk,eL,lg,s,ow,hxl,rr⟩
 obtain ⟨⟨rfl,rfl,rfl⟩,rfl⟩:=sI2 eL
 have lhp:=B0 lg s.le
 refine B6 (fun hlt=>?_) (fun hge=>?_)
 ·have hkq:bn<q*q:=by omega
  have ew:B5 ((bn:Int)+1)=((bn+1:Nat):Int):=by rw [B7]<;>omega
  have step:∀ {h1 g1:Heap} (w:QV),Sep h1 g1 o->g.le g1->NQ g1 w (bvF ls ln bn)->wpH prog (Instr.buildSlice Ll 1 #[(0,w.v)]) (fun v' hp=>∃ (B:Option Addr) (m d:Nat),v'= .slice B m d/\wpH prog (Builtin.append_ #[Ll,Ll] Ll #[.slice bA bn bc,.slice B m d]) (fun v1 hp1=>∃ (A':Option Addr) (n' c':Nat),v1= .slice A' n' c'/\(∃ (k:Nat) (g o:Heap) (xs:List QV) (A2:Option Addr) (c2:Nat),k<=q*q/\[.slice A' n' c',I (B5 ((bn:Int)+1))]=[.slice A2 k c2,I (k:Int)]/\h.le g/\Sep hp1 g o/\OwnSl o V7 A2 c2 xs/\xs.length=k/\Row NQr g xs k (bvF ls ln))/\q*q-(iAt [.slice A' n' c',I (B5 ((bn:Int)+1))] 1).toNat<q*q-(iAt [.slice bA bn bc,I (bn:Int)] 1).toNat) hp) h1:=by
   intro h1 g1 w s1 l1 iw
   refine Ct (n:=bn) C0w s1 ow hxl.symm (y:=w) rfl (by decide) (by omega) (by omega) ?_
   intro A3 c3 h3 g3 o3 l3 s3 ow3 _
   rw [hxl,ew]
   refine ⟨⟨bn+1,g3,o3,_,A3,c3,by omega,rfl,B0 lg (B0 l1 l3),s3,ow3,by rw [C5t,hxl];rfl,?_⟩,?_⟩
   ·have r:=Row.push (R:=NQr) (g:=g3) (xs:=xs) (f:=bvF ls ln) (w:=w) (by rw [hxl];exact rr.mono Su (B0 l1 l3)) (by rw [hxl];exact NQ.mono l3 iw)
    rw [C5t,hxl] at r
    exact r
   ·show q*q-((bn+1:Nat):Int).toNat<q*q-((bn:Nat):Int).toNat
    omega
  refine B6 (fun hln=>?_) (fun hln=>?_)
  ·have hbl:bn<ln:=by omega
   obtain ⟨u,eu,hcu⟩:=(rl.mono P7 lhp).sat hbl
   refine ⟨u,eu,by omega,by omega,_,hcu,?_⟩
   refine s.call (A63 (by have:=hl bn hbl;omega) ?_)
   intro w g1 l1 iw h1 s1
   refine ⟨_,_,_,_,_,_,_,_,rfl,?_⟩
   refine step w s1 l1 ?_
   unfold bvF
   rw [if_pos hbl]
   exact iw
  ·refine step Cd s (B4 _) ?_
   unfold bvF
   rw [if_neg (by omega)]
   exact NQ.zero
 ·have hkq:bn=q*q:=by omega
  subst hkq
  have rb:RowV NQr hp bA (q*q) (bvF ls ln):=⟨xs,ow.slF s.ole,hxl,rr.mono Su s.le⟩
  have hbc:q*q<=bc:=by have:=ow.1;omega
  clear s ow rr lg
  refine ⟨fun L hx=>∃ (k:Nat) (g o:Heap) (hd:List HV) (A':Option Addr) (c':Nat),k<=q/\L=[.slice A' k c',I (k:Int)]/\hp.le g/\Sep hx g o/\OwnSl o Lm A' c' hd/\hd.length=k/\∀ i,i<k->∃ s,hd[i]? = some s/\s.n=q/\q<=s.c/\RowV NQr hp s.A q (mtx (bvF ls ln) q i),fun L _=>q-(iAt L 1).toNat,⟨0,hp,Gq,[],none,0,by omega,rfl,B4 _,Sep.refl hp,OwnSl.nil,rfl,fun i hi=>by omega⟩,?_⟩
  rintro rA rn rcp z hx ⟨k,g,o,hd,A',c',hk,eL,lg,s,ow,hhd,rows⟩
  obtain ⟨⟨rfl,rfl,rfl⟩,rfl⟩:=sI2 eL
  have lhx:=B0 lhp (B0 lg s.le)
  refine B6 (fun hlt=>?_) (fun hge=>?_)
  ·have hkr:rn<q:=by omega
   have h2:(rn+1)*q<=q*q:=C5r _ hkr
   have h3:(rn+1)*q=rn*q+q:=by rw [C6c,C6b]
   have e0:B5 ((rn:Int)+1)=((rn+1:Nat):Int):=B7 (by omega) (by omega)
   have e1:B5 ((rn:Int)*(q:Int))=((rn*q:Nat):Int):=by rw [<- C60];exact K7 (by omega)
   have e2:B5 (B5 ((rn:Int)+1)*(q:Int))=(((rn+1)*q:Nat):Int):=by rw [e0,<- C60];exact K7 (by omega)
   rw [e1,e2,e0]
   refine ⟨⟨by omega,by omega⟩,⟨by omega,by simp only [C5v];omega⟩,?_⟩
   simp only [C5v]
   have e5:(rn+1)*q-rn*q=q:=by omega
   rw [e5]
   have row:RowV NQr hp (K9 bA bc (rn*q) 4) q (mtx (bvF ls ln) q rn):=rb.cut (c:=bc) (l:=rn*q) (k:=q) (by omega) hbc
   refine Ct (ty:=A95) (n:=rn) C4h s ow hhd.symm (y:=(⟨K9 bA bc (rn*q) 4,q,bc-rn*q⟩:HV)) rfl (by decide) (by omega) (by omega) ?_
   intro A3 c3 h3 g3 o3 l3 s3 ow3 _
   rw [hhd]
   refine ⟨⟨rn+1,g3,o3,_,A3,c3,by omega,rfl,B0 lg l3,s3,ow3,by rw [C5t,hhd];rfl,fun i hi=>?_⟩,?_⟩
   ·by_cases e:i=rn
    ·subst e
     exact ⟨_,by rw [List.getElem?_append_right (by omega),hhd,Nat.sub_self];rfl,rfl,by show q<=bc-i*q;omega,row⟩
    ·obtain ⟨u,f1,f2,f3,f4⟩:=rows i (by omega)
     exact ⟨u,by rw [List.getElem?_append_left (by omega)];exact f1,f2,f3,f4⟩
   ·show q-((rn+1:Nat):Int).toNat<q-((rn:Nat):Int).toNat
    omega
  ·have hrq:rn=q:=by omega
   subst hrq
   have rs:RowsV hx rA rn rn (mtx (bvF ls ln) rn):=⟨hd,ow.slF s.ole,hhd,fun i hi=>by
    obtain ⟨u,f1,f2,f3,f4⟩:=rows i hi
    exact ⟨u,f1,f2,f3,f4.mono Su (B0 lg s.le)⟩⟩
   clear s ow lg
   refine A7x rs hq1 (by omega) (by omega) ?_
   intro b1 h1 l1 rt
   refine ⟨_,_,_,rfl,?_⟩
   refine A2b (m:=32) rt (rs.mono l1) hq1 (by omega) hq1 (by omega) hq1 (by omega) (fun i j _ _=>sE _) (fun i j _ _=>sE _) (by omega) ?_
   intro h2 g2 o2 bo ro l2 t2
   refine ⟨_,_,_,rfl,fun L hy=>∃ (k:Nat) (g o:Heap),k<=rn/\k<=cn/\L=[I (k:Int)]/\h.le g/\Mt hy g o bo ro rn rn (fun a b=>C0g (bvF ls ln) rn a b-if a=b/\a<k then rv (cs a) else 0),fun L _=>rn-(iAt L 0).toNat,⟨0,g2,o2,by omega,by omega,rfl,B0 lhx (B0 l1 l2),t2.congr fun a b _ _=>by rw [if_neg (by omega),C6l,Rat.neg_zero,C66];rfl⟩,?_⟩
   clear t2
   rintro z3 hy ⟨k,g,o,hk1,hk2,eL,lg,t⟩
   obtain rfl:=sI1 eL
   have fin:(k=rn\/k=cn)->FCall prog Tu #[.slice (some ⟨bo,0,none⟩) rn rn] hy (fun r6 hp16=>∃ (t900:Int) (t901:Int) (t902A:Option Addr) (t902n:Nat) (t902c:Nat),r6= .agg #[I t900,I t901,.slice t902A t902n t902c]/\K (.agg #[I t900,I t901,.slice t902A t902n t902c]) hp16):=fun hx=>by
    have rM:RowsV hy (some ⟨bo,0,none⟩) rn rn (A7e ls ln cs cn rn):=t.rowsV.congr fun a b ha _=>by
     unfold A7e
     congr 1
     by_cases e:a=b/\a<cn
     ·rw [if_pos e,if_pos ⟨e.1,by omega⟩]
     ·rw [if_neg e,if_neg (fun x=>e ⟨x.1,by omega⟩)]
    refine A7y (m:=294) rM (by omega) hq1 (by omega) hq1 (fun i j _ _=>A9n hl hc hq4 i j) (by omega) ?_
    intro A9 c9 h9 l9 hc9 r9
    exact ⟨_,_,_,_,_,rfl,hK rn hq1 hq4 A9 c9 h9 (B0 lg (B0 t.sep.le l9)) hc9 r9⟩
   refine B6 (fun hlt=>?_) (fun hge=>fin (.inl (by omega)))
   refine B6 (fun hlt2=>?_) (fun hge=>fin (.inr (by omega)))
   have hkr:k<rn:=by omega
   have hkc:k<cn:=by omega
   obtain ⟨ch,hch,hh⟩:=t.head hkr
   obtain ⟨x,ix,x0,x1,x2,x3⟩:=t.elem hkr hkr
   rw [if_neg (by omega)] at ix
   have sp:=t.sep
   have lhy:=B0 lg sp.le
   obtain ⟨u,eu,hcu⟩:=(rc.mono P7 lhy).sat hkc
   refine ⟨_,rfl,by omega,by omega,_,_,_,sp.cell hh,_,rfl,by omega,by omega,_,_,_,sp.cell hh,_,rfl,by omega,by omega,_,_,_,_,_,_,_,_,sp.cell x0,sp.cell x1,sp.cell x2,sp.cell x3,u,eu,by omega,by omega,_,hcu,?_⟩
   refine sp.call (A63 (by have:=hc k hkc;omega) ?_)
   intro w7 g7 l7 i7 h7 s7
   refine ⟨_,_,_,_,_,_,_,_,rfl,sp.le_le s7 l7,?_⟩
   have z1:Sz 300 (C0g (bvF ls ln) rn k k-0):=((A9m sE hq4 k k).sub (Sz.zero (m:=1) (C5q 1))).mono (by omega)
   refine s7.call (A9x (m:=300) (NQ.mono l7 ix) i7 z1 ((A9w (k:=8) (hc k hkc) (by omega)).mono (by omega)) (by omega) ?_)
   intro w8 g8 l8 i8 h8 s8
   refine ⟨_,_,_,_,_,_,_,_,rfl,s7.le_le s8 l8,_,rfl,by omega,by omega,?_⟩
   refine ((t.next s7 l7).next s8 l8).store hkr hkr i8 ?_
   intro h9 o9 t9 _
   rw [wiS k (by omega)]
   refine ⟨⟨k+1,g8,o9,by omega,by omega,rfl,B0 lg (B0 l7 l8),t9.congr fun a b _ _=>?_⟩,by simp only [Dm];omega⟩
   unfold B8d
   by_cases e:a=k/\b=k
   ·rw [if_pos e,e.1,e.2,if_pos ⟨rfl,by omega⟩,C6l (C0g _ _ _ _) 0,Rat.neg_zero,C66]
   ·rw [if_neg e]
    dsimp only
    by_cases e2:a=b/\a<k
    ·rw [if_pos e2,if_pos ⟨e2.1,by omega⟩]
    ·rw [if_neg e2,if_neg (by omega)]
theorem A4k(rl:RowV SSr h lA ln ls)(rc:RowV SSr h cA cn cs)(hK1:ln<=20->cn<=8->(∀ i,i<ln->(ls i).length<=8)->(∀ i,i<cn->(cs i).length<=8)->K (.bool true) h)(hK0:K (.bool false) h):FCall prog A00 #[.slice lA ln lc,.slice cA cn cc] h K:=by
 refine B3i _ _ _ _ _ _ ?_
 unfold B7z
 refine B6 (fun h1=>?_) (fun _=>hK0)
 refine B6 (fun h2=>?_) (fun _=>hK0)
 refine Td rl (by omega) (fun h3=>⟨_,rfl,Oc ?_⟩) (fun _=>⟨_,rfl,Br.no hK0⟩)
 refine Td rc (by omega) (fun h4=>⟨_,rfl,hK1 (by omega) (by omega) (fun i hi=>by have:=h3 i hi;omega) (fun i hi=>by have:=h4 i hi;omega)⟩) (fun _=>⟨_,rfl,hK0⟩)
theorem A9l{q:Nat}(h:q<=4):3^q*bnd q 294+bnd q 294<=121000:=by
 have h1:bnd q 294<=1471:=by unfold bnd;omega
 have h2:3^q*bnd q 294<=3^4*1471:=C5y (C6t (show 3>0 by decide) h) h1
 have h3:3^4*1471=119151:=by decide
 omega
theorem B8i{q k:Nat}(h:q<=4)(hk:k<q):2^k*A3u q k 121000<=6000000:=by
 have key:∀ q,q<5->∀ k,k<q->2^k*A3u q k 121000<=6000000:=by
  unfold A3u
  decide
 exact key q (by omega) k hk
end
def C5d(q:Nat)(L:Nat->Nat->Rat):Prop:=∀ i,i<q->L i i=1/\∀ j,i<j->j<q->L i j=0
def C0n(q:Nat)(L:Nat->Nat->Rat)(d:Nat->Rat):Nat->Nat->Rat:=fun a b=>sm q fun t=>L a t*d t*L b t
structure ExpK (r c:Int) (n:Nat) (ls:Nat->List UInt8) (dn:Nat) (ds:Nat->List UInt8) (q:Nat):Prop where
 mok:MOk r c n ls q q
 num:∀ i,i<dn->IsNum (ds i)
 dn:dn=q
 low:C5d q (mtx (rvs ls) q)
def ExpO(r c:Int)(n:Nat)(ls:Nat->List UInt8)(dn:Nat)(ds:Nat->List UInt8)(o:MOut):Prop:=
 (¬ (Mx r c n ls/\∀ i,i<dn->IsNum (ds i))/\o=noM 1)\/((Mx r c n ls/\∀ i,i<dn->IsNum (ds i))/\(¬ ∃ q,ExpK r c n ls dn ds q)/\o=noM 4)\/∃ q,ExpK r c n ls dn ds q/\o=⟨(q:Int),(q:Int),q*q,Ef (C0n q (mtx (rvs ls) q) (rvs ds)) q,0⟩
theorem ExpK.uniq{r c:Int}{n dn:Nat}{ls ds:Nat->List UInt8}{q q':Nat}(x:ExpK r c n ls dn ds q)(y:ExpK r c n ls dn ds q'):q=q':=by have:=x.dn;have:=y.dn;omega
theorem ExpO.eq{r c:Int}{n dn:Nat}{ls ds:Nat->List UInt8}{o p:MOut}(x:ExpO r c n ls dn ds o)(y:ExpO r c n ls dn ds p):o=p:=by
 rcases x with ⟨x1,rfl⟩|⟨x1,x2,rfl⟩|⟨q,x1,rfl⟩<;>rcases y with ⟨y1,rfl⟩|⟨y1,y2,rfl⟩|⟨q',y1,rfl⟩
 ·rfl
 ·exact absurd y1 x1
 ·exact absurd ⟨⟨_,_,y1.mok⟩,y1.num⟩ x1
 ·exact absurd x1 y1
 ·rfl
 ·exact absurd ⟨_,y1⟩ x2
 ·exact absurd ⟨⟨_,_,x1.mok⟩,x1.num⟩ y1
 ·exact absurd ⟨_,x1⟩ y2
 ·obtain rfl:=x1.uniq y1;rfl
theorem ExpO.n_le{r c:Int}{n dn:Nat}{ls ds:Nat->List UInt8}{o:MOut}(x:ExpO r c n ls dn ds o):o.n<=4096:=by
 rcases x with ⟨_,rfl⟩|⟨_,_,rfl⟩|⟨q,x,rfl⟩
 ·exact C70 _
 ·exact C70 _
 ·have:=x.mok.r2
  exact C5y this this
theorem B96{q i j:Nat}(h:q<=64)(hi:i<q)(hj:j<q):B5 (B5 ((i:Int)*(q:Int))+(j:Int))=((i*q+j:Nat):Int):=by
 have:=L0 hi hj
 have hqq:q*q<=64*64:=C5y h h
 rw [<- C60,K7 (by omega)]
 exact K7 (n:=i*q+j) (by omega)
section
variable {h:Heap} {K:VP} {A B:Option Addr} {n cap cap2 dn m d:Nat} {r c:Int} {ls ds:Nat->List UInt8}
theorem A45{w:QV}{q:Rat}(i:RQ h w q)(hK:K (.bool (decide (q=1))) h):FCall prog Zq #[w.v] h K:=by
 refine B2x _ _ _ _ _ _ _ _ ?_
 unfold B7n
 have e1:q=1↔q.num=1/\q.den=1:=⟨fun e=>by rw [e];exact ⟨rfl,rfl⟩,fun ⟨a,b⟩=>Rat.ext a b⟩
 have hd:=q.den_nz
 refine F1 i.den ⟨_,rfl,B6 (fun h1=>?_) (fun h1=>?_)⟩
 ·have h2:q.den=1:=by
   by_cases c:q.den=1
   ·exact c
   ·rw [if_neg c] at h1;omega
  refine N9 i.num ⟨_,rfl,?_⟩
  rw [show decide (q.num=1)=decide (q=1) from decide_eq_decide.2 (by rw [e1];exact ⟨fun a=>⟨a,h2⟩,fun a=>a.1⟩)]
  exact hK
 ·rw [decide_eq_false fun e=>h1 (by rw [if_pos (e1.1 e).2])] at hK
  exact hK
theorem Qm(gl:Gl h)(rl:RowV SSr h A n ls)(rd:RowV SSr h B dn ds)(hn:n<=1000000)(hdn:dn<=1000000)(hl:∀ i,i<n->(ls i).length<=100000000)(hl2:∀ i,i<dn->(ds i).length<=100000000)(hs:∀ i,i<n->Sz m (rv (ls i)))(hs2:∀ i,i<dn->Sz m (rv (ds i)))(hm1:1<=m)(hd:∀ q,MOk r c n ls q q->q<=d)(hm:2*(1+d*(4*m+1)+4*m)+14<=40000000)
 (hK:∀ o,ExpO r c n ls dn ds o->∀ A' cap' h',h.le h'->RowV SSr h' A' o.n o.f->K (.tuple #[Qd o.r o.c A' o.n cap',I o.e]) h'):FCall prog Nj #[.agg #[I r,I c,.slice A n cap,.slice B dn cap2]] h K:=by
 refine A8s _ _ _ _ _ _ _ _ ?_
 unfold B3p
 have bad:¬ (Mx r c n ls/\∀ i,i<dn->IsNum (ds i))->∀ h',h.le h'->K (.tuple #[Qd 0 0 none 0 0,I 1]) h':=fun hx h' l=>hK (noM 1) (.inl ⟨hx,rfl⟩) none 0 h' l RowV.nil
 refine Ec gl rl hn hl (fun rows cols mk b1 h1 own=>?_) (fun hno h1 l1=>⟨_,_,_,_,rfl,Hj (gl.mono l1) (rd.mono P7 l1) hdn hl2 (fun _ b2 h2 own2=>⟨_,_,_,_,rfl,A3j (bad (fun x=>hno x.1) h2 (B0 l1 own2.le))⟩) (fun _ h2 l2=>⟨_,_,_,_,rfl,A3j (bad (fun x=>hno x.1) h2 (B0 l1 l2))⟩)⟩)
 obtain ⟨g1,o1,xs,lg1,s1,rx,hx,rr⟩:=own.ex
 refine ⟨_,_,_,_,rfl,s1.call (Hj (gl.mono lg1) (rd.mono P7 lg1) hdn hl2 ?_ (fun hno g2 l2 h2 s2=>⟨_,_,_,_,rfl,Br.nt (A3j (bad (fun x=>hno x.2) h2 (B0 lg1 (B0 l2 s2.le))))⟩))⟩
 intro hnum b2 g2 own2 h2 s2
 refine ⟨_,_,_,_,rfl,Br.nt (Br.nt ?_)⟩
 have l12:=own2.le
 have lg2:=B0 lg1 l12
 have lh2:=B0 lg2 s2.le
 have ov:=own2.vis I7
 have bad4:(¬ ∃ q,ExpK r c n ls dn ds q)->K (.tuple #[Qd 0 0 none 0 0,I 4]) h2:=fun hx=>hK (noM 4) (.inr (.inl ⟨⟨⟨_,_,mk⟩,hnum⟩,hx,rfl⟩)) none 0 h2 lh2 RowV.nil
 have er:=mk.er
 have ec:=mk.ec
 refine G9 (fun e=>bad4 fun ⟨q,x⟩=>e (by have:=x.mok.er;have:=x.mok.ec;omega)) (fun e1=>G9 (fun e=>bad4 fun ⟨q,x⟩=>e (by have:=x.mok.er;have:=x.dn;omega)) (fun e2=>?_))
 obtain rfl:rows=cols:=by omega
 obtain rfl:dn=rows:=by omega
 have q64:=mk.r2
 have q1:=mk.r1
 have hqd:=hd dn mk
 have lowOf:∀ q,ExpK r c n ls dn ds q->C5d dn (mtx (rvs ls) dn):=fun q x=>by have e:=x.dn;rw [e];exact x.low
 obtain ⟨rfl,rfl,_,_,_,_,rfl,hln⟩:=id mk
 have qb:QB g2 o1 b1 (dn*dn) (rvs ls):=⟨xs,rx,hx,rr.mono I7 l12⟩
 clear rr rx hx
 have hqq:dn*dn<=64*64:=C5y q64 q64
 have ew:∀ {j:Nat},j<dn->B5 ((j:Int)+1)=((j+1:Nat):Int):=fun {j} hj=>by rw [B7]<;>omega
 refine ⟨fun L hp=>∃ i:Nat,i<=dn/\L=[I (i:Int),I 0,I 0,.slice none 0 0]/\hp=h2/\∀ a,a<i->mtx (rvs ls) dn a a=1/\∀ j,a<j->j<dn->mtx (rvs ls) dn a j=0,fun L _=>dn-(iAt L 0).toNat,⟨0,by omega,rfl,rfl,fun a ha=>by omega⟩,?_⟩
 rintro z0 z1 z2 zA zn zc hp ⟨i,hi,eL,rfl,hlow⟩
 simp only [C6s,C6z,Value.slice.injEq,true_and,and_true] at eL
 obtain ⟨rfl,rfl,rfl,rfl,rfl,rfl⟩:=eL
 refine B6 (fun hlt=>?_) (fun hge=>?_)
 ·have hin:i<dn:=by omega
  obtain ⟨w,iw,c0,c1,c2,c3⟩:=qb.at (L0 hin hin)
  rw [B96 q64 hin hin]
  have hix:=L0 hin hin
  refine ⟨_,rfl,by omega,by omega,_,_,_,_,_,_,_,_,s2.cell c0,s2.cell c1,s2.cell c2,s2.cell c3,?_⟩
  refine A45 (I7 _ _ _ _ s2.le iw) ⟨_,rfl,Br.not (B6 (fun eone=>?_) (fun hno=>bad4 fun ⟨q,x⟩=>hno (lowOf q x i hin).1))⟩
  rw [ew hin]
  refine ⟨fun L hy=>∃ j:Nat,i<j/\j<=dn/\L=[I (j:Int),I 0,I 0,.slice none 0 0]/\hy=hp/\∀ t,i<t->t<j->mtx (rvs ls) dn i t=0,fun L _=>dn-(iAt L 0).toNat,⟨i+1,by omega,by omega,rfl,rfl,fun t h1 h2=>by omega⟩,?_⟩
  rintro y0 y1 y2 yA yn yc hy ⟨j,hj1,hj2,eL,rfl,hz⟩
  simp only [C6s,C6z,Value.slice.injEq,true_and,and_true] at eL
  obtain ⟨rfl,rfl,rfl,rfl,rfl,rfl⟩:=eL
  refine B6 (fun hlt2=>?_) (fun hge2=>?_)
  ·have hjn:j<dn:=by omega
   obtain ⟨w,iw,c0,c1,c2,c3⟩:=qb.at (L0 hin hjn)
   have hix:=L0 hin hjn
   rw [B96 q64 hin hjn,ew hjn]
   refine ⟨_,rfl,by omega,by omega,_,_,_,_,_,_,_,_,s2.cell c0,s2.cell c1,s2.cell c2,s2.cell c3,?_⟩
   refine Cx (I7 _ _ _ _ s2.le iw) ⟨_,rfl,Br.not (B6 (fun e0=>?_) (fun hno=>bad4 fun ⟨q,x⟩=>hno ((lowOf q x i hin).2 j hj1 hjn)))⟩
   refine ⟨⟨j+1,by omega,by omega,rfl,rfl,fun t h1 h2=>?_⟩,by simp only [Dm];omega⟩
   by_cases e:t=j
   ·rw [e];exact e0
   ·exact hz t h1 (by omega)
  ·refine ⟨⟨i+1,by omega,rfl,rfl,fun a ha=>?_⟩,by simp only [Dm];omega⟩
   by_cases e:a=i
   ·rw [e];exact ⟨eone,fun t h1 h2=>hz t h1 (by omega)⟩
   ·exact hlow a (by omega)
 obtain rfl:i=dn:=by omega
 have good:∀ o:MOut,o=⟨(i:Int),(i:Int),i*i,Ef (C0n i (mtx (rvs ls) i) (rvs ds)) i,0⟩->∀ A' cap' h',h.le h'->RowV SSr h' A' o.n o.f->K (.tuple #[Qd o.r o.c A' o.n cap',I o.e]) h':=fun o eo=>hK o (.inr (.inr ⟨i,⟨mk,hnum,rfl,hlow⟩,eo⟩))
 refine ⟨fun L hx=>∃ (a:Nat) (g o:Heap),a<=i/\L=[I (a:Int)]/\g2.le g/\Sep hx g o/\QB g o b1 (i*i) (fun t=>if t<a*i then rvs ls t*rvs ds (t%i) else rvs ls t),fun L _=>i-(iAt L 0).toNat,⟨0,g2,o1,by omega,rfl,B4 _,s2,qb.congr fun t _=>by rw [if_neg (by omega)]⟩,?_⟩
 clear qb s2
 rintro z hx ⟨a,g,o,ha,eL,lg,s,qb⟩
 obtain rfl:=sI1 eL
 refine B6 (fun hlt=>?_) (fun hge=>?_)
 ·have hai:a<i:=by omega
  have ha1:(a+1)*i=a*i+i:=by rw [C6c,C6b]
  refine ⟨fun L hy=>∃ (j:Nat) (g o:Heap),j<=i/\L=[I (j:Int)]/\g2.le g/\Sep hy g o/\QB g o b1 (i*i) (fun t=>if t<a*i+j then rvs ls t*rvs ds (t%i) else rvs ls t),fun L _=>i-(iAt L 0).toNat,⟨0,g,o,by omega,rfl,lg,s,qb⟩,?_⟩
  clear qb s lg
  rintro z3 hy ⟨j,g,o,hj,eL,lg,s,qb⟩
  obtain rfl:=sI1 eL
  refine B6 (fun hlt2=>?_) (fun hge2=>?_)
  ·have hji:j<i:=by omega
   have hix:=L0 hai hji
   obtain ⟨w,iw,c0,c1,c2,c3⟩:=qb.at hix
   rw [if_neg (C64 _)] at iw
   obtain ⟨a2,w2,e2',i2,d0,d1,d2,d3⟩:=(ov.mono I7 lg).qat hji
   rw [B96 q64 hai hji,ew hji]
   refine ⟨_,rfl,by omega,by omega,_,_,_,_,_,_,_,_,s.cell c0,s.cell c1,s.cell c2,s.cell c3,a2,e2',by omega,by omega,_,_,_,_,_,_,_,_,B9 s.le d0,B9 s.le d1,B9 s.le d2,B9 s.le d3,?_⟩
   refine s.call (Jb (a:=w) (b:=w2) (gl.mono (B0 lg2 lg)).tz iw i2 (hs _ hix) (hs2 j hji) (by omega) ?_)
   intro w6 g6 l6 i6 h6 s6
   refine ⟨_,_,_,_,_,_,_,_,rfl,s.le_le s6 l6,_,rfl,by omega,by omega,?_⟩
   refine (qb.ko l6 rfl).store s6 hix i6 ?_
   intro h7 o7 s7 q7 _
   refine ⟨⟨j+1,g6,o7,by omega,rfl,B0 lg l6,s7,q7.congr fun t _=>?_⟩,by simp only [Dm];omega⟩
   by_cases e:t=a*i+j
   ·rw [if_pos e,if_pos (by omega),e,(Ai (n:=i) (i:=a) hji).2]
   ·rw [if_neg e]
    by_cases e3:t<a*i+j
    ·rw [if_pos e3,if_pos (by omega)]
    ·rw [if_neg e3,if_neg (by omega)]
  ·obtain rfl:j=i:=by omega
   rw [ew hai]
   exact ⟨⟨a+1,g,o,by omega,rfl,lg,s,qb.congr fun t _=>by rw [ha1]⟩,by simp only [Dm];omega⟩
 obtain rfl:a=i:=by omega
 have lx:=B0 lg2 (B0 lg s.le)
 have rq:RowV RQr hx (some ⟨b1,0,none⟩) (a*a) (fun t=>rvs ls t*rvs ds (t%a)):=(qb.rowV s).congr fun t ht=>by rw [if_pos ht]
 refine St (gl.mono lx) (rl.mono P7 lx) hn hl ?_ (fun hno=>absurd ⟨_,_,mk⟩ hno)
 intro r3 c3 mk3 h3 A3 cp3 own3
 obtain rfl:a=r3:=(mk.uniq mk3).1.symm
 obtain rfl:a=c3:=(mk.uniq mk3).2.symm
 refine ⟨_,_,_,_,_,_,rfl,?_⟩
 have l03:=B0 lx own3.le
 have rt:RowV SSr h3 A3 (a*a) (B49 ls a a):=own3.vis
 have zm:∀ t,t<a*a->Sz (2*m) (rvs ls t*rvs ds (t%a)):=fun t ht=>((hs t ht).mul (hs2 _ (C6e t (by omega)))).mono (by omega)
 refine Ac (m:=2*m) (gl.mono l03) (rq.mono I7 own3.le) hn zm (by omega) ?_
 intro b4 h4 own4
 refine ⟨_,_,_,rfl,own4.le,?_⟩
 have l04:=B0 l03 own4.le
 have mk4:MOk (a:Int) (a:Int) (a*a) (fun t=>K3 (rvs ls t*rvs ds (t%a))) a a:=⟨rfl,rfl,q1,q64,q1,q64,rfl,fun _ _=>⟨_,rfl⟩⟩
 have mkt:=mk.turn
 have hda:a*(4*m+1)<=d*(4*m+1):=C5r _ hqd
 refine A7s (m:=2*m) (d:=a) (gl.mono l04) (own4.vis P7) (rt.mono P7 own4.le) hn hn (fun t ht=>C6h (Ri (zm t ht)) (by omega)) (fun t ht=>hl _ (L0 (C6e t (by omega)) (C5x ht))) (fun t ht=>by rw [Gn];exact zm t ht) (fun t ht=>(hs _ (L0 (C6e t (by omega)) (C5x ht))).mono (by omega)) (by omega) (fun x y mk'=>by obtain ⟨_,rfl⟩:=mk4.uniq mk';omega) (by rw [show 2*(2*m)=4*m by omega];omega) ?_
 intro o5 ho5 A5 c5 h5 l5 r5
 rcases MulO.ok mk4 mkt ho5 with ⟨_,_,rfl⟩|⟨hne,_⟩
 rotate_left
 ·exact absurd rfl hne
 refine ⟨_,_,_,_,_,_,rfl,l5,good _ rfl A5 c5 h5 (B0 l04 l5) (r5.congr fun t ht=>?_)⟩
 have hj:=C6e t (show 0<a by omega)
 show K3 (sm a fun j=>mtx (rvs fun t=>K3 (rvs ls t*rvs ds (t%a))) a (t/a) j*mtx (rvs (B49 ls a a)) a j (t%a))=K3 (sm a fun j=>mtx (rvs ls) a (t/a) j*rvs ds j*mtx (rvs ls) a (t%a) j)
 congr 1
 refine C9 fun j hjk=>?_
 rw [A9b _ hj]
 congr 1
 show rv (K3 (rvs ls (t/a*a+j)*rvs ds ((t/a*a+j)%a)))=_
 rw [Gn,(Ai (n:=a) (i:=t/a) hjk).2]
 rfl
end
end Go.Proofs.YtajkakhfcokljaaGreatDoor
namespace Go.Proofs.YtajkakhfcokljaaGreatDoor
set_option maxRecDepth 20000
theorem B4l{k a:Nat}(ha:a<=k)(t:Nat->Rat):sm (k+1) t=t a+sm k (fun i=>t (rhx a i)):=by
 rw [B6l ha]
 have e:sm (k+1) t=sm (k+1) (fun i=>if i=a then t a else 0)+sm (k+1) (fun i=>if i=a then 0 else t i):=by
  rw [<- S4]
  refine C9 fun i _=>?_
  by_cases c:i=a
  ·rw [if_pos c,if_pos c,c,C66]
  ·rw [if_neg c,if_neg c,Rat.zero_add]
 rw [e,Ch (show a<k+1 by omega) fun i _ c=>if_neg c,if_pos rfl]
theorem B8z:∀ (L:List (Nat->Rat)) (n:Nat),L.length<n->∃ x:Nat->Rat,(∃ j,j<n/\x j≠0)/\∀ f∈L,sm n (fun j=>f j*x j)=0:=by
 intro L
 generalize hm:L.length=m
 induction m generalizing L with
 | zero=>
  intro n hn
  have:L=[]:=List.length_eq_zero_iff.1 hm
  subst this
  exact ⟨fun _=>1,⟨0,hn,by decide +kernel⟩,fun f hf=>by cases hf⟩
 | succ m ih=>
  intro n hn
  match L,hm with
  | f::L,hm=>
   have hl:L.length=m:=by simpa using hm
   by_cases h:∀ j,j<n->f j=0
   ·obtain ⟨x,h1,h2⟩:=ih L hl n (by omega)
    refine ⟨x,h1,fun g hg=>?_⟩
    rcases List.mem_cons.1 hg with e|e
    ·rw [e];exact S8 fun j hj=>by rw [h j hj,C62]
    ·exact h2 g e
   ·have:∃ a,a<n/\f a≠0:=C5w fun c=>h fun j hj=>C5w fun c'=>c ⟨j,hj,c'⟩
    obtain ⟨a,ha,hne⟩:=this
    obtain ⟨k,rfl⟩:∃ k,n=k+1:=⟨n-1,by omega⟩
    obtain ⟨y,⟨j,hj,hy⟩,h2⟩:=ih (L.map fun g=>fun j=>g (rhx a j)-g a/f a*f (rhx a j)) (by simpa using hl) k (by omega)
    have unr:∀ i,(if rhx a i<a then rhx a i else rhx a i-1)=i:=fun i=>by unfold rhx;repeat' split
                                                                         all_goals omega
    refine ⟨fun b=>if b=a then-(sm k (fun i=>f (rhx a i)*y i)/f a) else y (if b<a then b else b-1),⟨rhx a j,A1r hj,?_⟩,fun g hg=>?_⟩
    ·show (if rhx a j=a then _ else _)≠(0:Rat)
     rw [if_neg (B00 a j),unr];exact hy
    ·rw [B4l (show a<=k by omega)]
     have e9:sm k (fun i=>g (rhx a i)*(if rhx a i=a then-(sm k (fun i=>f (rhx a i)*y i)/f a) else y (if rhx a i<a then rhx a i else rhx a i-1)))=sm k (fun i=>g (rhx a i)*y i):=C9 fun i _=>by rw [if_neg (B00 a i),unr]
     show g a*(if a=a then _ else _)+sm k (fun i=>g (rhx a i)*(if rhx a i=a then _ else _))=0
     rw [if_pos rfl,e9]
     rcases List.mem_cons.1 hg with e|e
     ·rw [e]
      generalize sm k (fun i=>f (rhx a i)*y i)=q
      clear e9 h ih h2
      grind
     ·have h3:=h2 _ (List.mem_map.2 ⟨g,e,rfl⟩)
      have h4:sm k (fun i=>(g (rhx a i)-g a/f a*f (rhx a i))*y i)=sm k (fun i=>g (rhx a i)*y i)-g a/f a*sm k (fun i=>f (rhx a i)*y i):=by
       rw [C6l,<- Ci,<- Lu,<- S4]
       exact C9 fun i _=>by grind
      rw [h4] at h3
      generalize sm k (fun i=>f (rhx a i)*y i)=q at *
      generalize sm k (fun i=>g (rhx a i)*y i)=q' at *
      clear e9 h ih h2 h4
      grind
theorem Sh{n:Nat}{f:Nat->Rat}(h:∀ i,i<n->0<=f i):0<=sm n f:=by
 induction n with
 | zero=>exact Rat.le_refl
 | succ n ih=>
  show 0<=sm n f+f n
  have h1:=ih fun i hi=>h i (by omega)
  have h2:=h n (by omega)
  grind
theorem Vn{n:Nat}{f:Nat->Rat}(h:∀ i,i<n->0<=f i)(hz:sm n f<=0):∀ i,i<n->f i=0:=by
 induction n with
 | zero=>intro i hi;omega
 | succ n ih=>
  have e:sm (n+1) f=sm n f+f n:=rfl
  rw [e] at hz
  have h1:=Sh fun i (hi:i<n)=>h i (by omega)
  have h2:=h n (by omega)
  intro i hi
  by_cases c:i=n
  ·rw [c];grind
  ·exact ih (fun i hi=>h i (by omega)) (by grind) i (by omega)
theorem Sg(q:Rat):0<=q*q:=by
 rcases Rat.le_total (a:=0) (b:=q) with h|h
 ·exact C6u h h
 ·have h2:0 <= -q:=by grind
  have:=C6u h2 h2
  grind
theorem B8k{q:Rat}(h:q*q=0):q=0:=by
 rcases Rat.mul_eq_zero.1 h with e|e<;>exact e
def ev(n:Nat)(f x:Nat->Rat):Rat:=sm n fun j=>f j*x j
structure Diag (n:Nat) (A:Nat->Nat->Rat) (d:Nat->Rat) (F:Nat->Nat->Rat):Prop where
 val:∀ x,qf n A x=sm n fun m=>d m*(ev n (F m) x*ev n (F m) x)
 inj:∀ x,(∀ m,m<n->ev n (F m) x=0)->∀ j,j<n->x j=0
def Cv(d:Nat->Rat):Nat->Nat
 | 0=>0
 | n+1=>Cv d n+if 0<d n then 1 else 0
def Fa(d:Nat->Rat):Nat->Nat
 | 0=>0
 | n+1=>Fa d n+if d n<0 then 1 else 0
def B3x(d:Nat->Rat):Nat->Nat
 | 0=>0
 | n+1=>B3x d n+if d n=0 then 1 else 0
theorem C1b(d:Nat->Rat):∀ n,Cv d n+B3x d n+Fa d n=n:=by
 intro n
 induction n with
 | zero=>rfl
 | succ n ih=>
  show Cv d n+(if 0<d n then 1 else 0)+(B3x d n+if d n=0 then 1 else 0)+(Fa d n+if d n<0 then 1 else 0)=n+1
  have:(if 0<d n then 1 else 0)+(if d n=0 then 1 else 0)+(if d n<0 then 1 else 0)=1:=by
   by_cases a:0<d n
   ·rw [if_pos a,if_neg (by grind),if_neg (by grind)]
   ·by_cases b:d n=0
    ·rw [if_neg a,if_pos b,if_neg (by grind)]
    ·rw [if_neg a,if_neg b,if_pos (by grind)]
  omega
theorem B0j(d:Nat->Rat):∀ n,Fa d n=Cv (fun m=> - d m) n:=by
 intro n
 induction n with
 | zero=>rfl
 | succ n ih=>
  show Fa d n+(if d n<0 then 1 else 0)=Cv (fun m=> - d m) n+if 0 < - d n then 1 else 0
  rw [ih]
  congr 1
  by_cases a:d n<0
  ·rw [if_pos a,if_pos (by grind)]
  ·rw [if_neg a,if_neg (by grind)]
theorem A6a(d:Nat->Rat):∀ n,((C72 n).filter fun m=>decide (0<d m)).length=Cv d n/\((C72 n).filter fun m=>decide (¬ 0<d m)).length+Cv d n=n:=by
 intro n
 induction n with
 | zero=>exact ⟨rfl,rfl⟩
 | succ n ih=>
  rw [List.range_succ,List.filter_append,List.filter_append,C5t,C5t]
  show _=Cv d n+(if 0<d n then 1 else 0)/\_+(Cv d n+if 0<d n then 1 else 0)=n+1
  by_cases a:0<d n
  ·simp only [List.filter_cons,a,decide_true,not_true_eq_false,decide_false,List.filter_nil,if_true,List.length_cons,C6r]
   simp only [Bool.false_eq_true,if_false,C6r]
   omega
  ·simp only [List.filter_cons,a,decide_false,not_false_eq_true,decide_true,List.filter_nil,if_true,List.length_cons,C6r]
   simp only [Bool.false_eq_true,if_false,C6r]
   omega
theorem Diag.pos_le{n:Nat}{A:Nat->Nat->Rat}{d d':Nat->Rat}{F F':Nat->Nat->Rat}(D:Diag n A d F)(D':Diag n A d' F'):Cv d n<=Cv d' n:=by
 refine C5w fun hlt=>?_
 have f1:=(A6a d n).2
 have f2:=(A6a d' n).1
 obtain ⟨x,⟨j,hj,hx⟩,h⟩:=B8z (((C72 n).filter fun m=>decide (¬ 0<d m)).map F++((C72 n).filter fun m=>decide (0<d' m)).map F') n (by
  rw [C5t,List.length_map,List.length_map];omega)
 have g1:∀ m,m<n->¬ 0<d m->ev n (F m) x=0:=fun m hm hd=>h (F m) (List.mem_append.2 (.inl (List.mem_map.2 ⟨m,List.mem_filter.2 ⟨List.mem_range.2 hm,decide_eq_true hd⟩,rfl⟩)))
 have g2:∀ m,m<n->0<d' m->ev n (F' m) x=0:=fun m hm hd=>h (F' m) (List.mem_append.2 (.inr (List.mem_map.2 ⟨m,List.mem_filter.2 ⟨List.mem_range.2 hm,decide_eq_true hd⟩,rfl⟩)))
 have p1:∀ m,m<n->0<=d m*(ev n (F m) x*ev n (F m) x):=fun m hm=>by
  by_cases c:0<d m
  ·exact C6u (by grind) (Sg _)
  ·rw [g1 m hm c];grind
 have p2:qf n A x<=0:=by
  rw [D'.val]
  have:0<=sm n fun m=> - (d' m*(ev n (F' m) x*ev n (F' m) x)):=Sh fun m hm=>by
   by_cases c:0<d' m
   ·rw [g2 m hm c];grind
   ·have:=C6u (show 0 <= - d' m by grind) (Sg (ev n (F' m) x))
    grind
  rw [Lu] at this
  grind
 rw [D.val] at p2
 have z:=Vn p1 p2
 refine hx (D.inj x (fun m hm=>?_) j hj)
 by_cases c:0<d m
 ·refine B8k ?_
  rcases Rat.mul_eq_zero.1 (z m hm) with e|e
  ·rw [e] at c;exact absurd c (by decide +kernel)
  ·exact e
 ·exact g1 m hm c
theorem Diag.neg{n:Nat}{A:Nat->Nat->Rat}{d:Nat->Rat}{F:Nat->Nat->Rat}(D:Diag n A d F):Diag n (fun i j=> - A i j) (fun m=> - d m) F:=by
 refine ⟨fun x=>?_,D.inj⟩
 have e:qf n (fun i j=> - A i j) x= - qf n A x:=by
  unfold qf
  rw [<- Lu]
  refine C9 fun i _=>?_
  rw [show (sm n fun j=> - A i j*x j)= - sm n (fun j=>A i j*x j) by rw [<- Lu];exact C9 fun j _=>by grind]
  grind
 rw [e,D.val,<- Lu]
 exact C9 fun m _=>by grind
theorem Diag.same{n:Nat}{A:Nat->Nat->Rat}{d d':Nat->Rat}{F F':Nat->Nat->Rat}(D:Diag n A d F)(D':Diag n A d' F'):Cv d n=Cv d' n/\B3x d n=B3x d' n/\Fa d n=Fa d' n:=by
 have h1:=Nat.le_antisymm (D.pos_le D') (D'.pos_le D)
 have h2:=Nat.le_antisymm (D.neg.pos_le D'.neg) (D'.neg.pos_le D.neg)
 rw [<- B0j,<- B0j] at h2
 have:=C1b d n
 have:=C1b d' n
 omega
structure PD (n k:Nat) (A0:Nat->Nat->Rat) (d:Nat->Rat) (F A:Nat->Nat->Rat):Prop where
 val:∀ x,qf n A0 x=sm k (fun m=>d m*(ev n (F m) x*ev n (F m) x))+qf n A (fun i=>ev n (F i) x)
 inj:∀ x,(∀ m,m<n->ev n (F m) x=0)->∀ j,j<n->x j=0
 zero:∀ i j,i<n->j<n->i<k\/j<k->A i j=0
 symm:Ve n A
theorem B1h{n:Nat}{i:Nat}(hi:i<n)(x:Nat->Rat):ev n (fun j=>if j=i then 1 else 0) x=x i:=by
 show (sm n fun j=>(if j=i then (1:Rat) else 0)*x j)=x i
 rw [Ch hi fun j _ c=>by rw [if_neg c,C62],if_pos rfl,Rat.one_mul]
theorem PD.start{n:Nat}{A:Nat->Nat->Rat}(d:Nat->Rat)(hs:Ve n A):PD n 0 A d (fun i j=>if j=i then 1 else 0) A:=by
 refine ⟨fun x=>?_,fun x h j hj=>?_,fun i j _ _ h=>by omega,hs⟩
 ·show _=0+_
  rw [Rat.zero_add]
  exact B4u (fun _ _ _ _=>rfl) fun i hi=>(B1h hi x).symm
 ·have:=h j hj
  rwa [B1h hj] at this
theorem PD.adv{n k:Nat}{A0 F A:Nat->Nat->Rat}{d:Nat->Rat}(h:PD n k A0 d F A)(hk:k<n)(hne:A k k≠0):
 PD n (k+1) A0 (fun m=>if m=k then A k k else d m) (fun m=>if m=k then (fun j=>sm n fun i=>A i k/A k k*F i j) else F m) (fun i j=>A i j-A i k*(A k j/A k k)):=by
 have evk:∀ x,ev n (fun j=>sm n fun i=>A i k/A k k*F i j) x=sm n fun i=>A i k/A k k*ev n (F i) x:=fun x=>by
  unfold ev
  rw [C9 (n:=n) (f:=fun i=>A i k/A k k*sm n fun j=>F i j*x j) fun i _=>(Ci n _ _).symm,Yq]
  refine C9 fun j _=>?_
  rw [C6y,<- Ci]
  exact C9 fun i _=>by grind
 refine ⟨fun x=>?_,fun x hx j hj=>?_,fun i j hi hj c=>?_,fun i j hi hj=>?_⟩
 ·rw [h.val x]
  show _=sm k (fun m=>(if m=k then A k k else d m)*(ev n (if m=k then _ else F m) x*ev n (if m=k then _ else F m) x))+(if k=k then A k k else d k)*(ev n (if k=k then _ else F k) x*ev n (if k=k then _ else F k) x)+qf n _ (fun i=>ev n (if i=k then _ else F i) x)
  rw [if_pos rfl,if_pos rfl,evk x,Rat.add_assoc]
  have e0:sm k (fun m=>d m*(ev n (F m) x*ev n (F m) x))=sm k (fun m=>(if m=k then A k k else d m)*(ev n (if m=k then (fun j=>sm n fun i=>A i k/A k k*F i j) else F m) x*ev n (if m=k then (fun j=>sm n fun i=>A i k/A k k*F i j) else F m) x)):=C9 fun m hm=>by rw [if_neg (show m≠k by omega),if_neg (show m≠k by omega)]
  rw [<- e0]
  congr 1
  have row0:∀ i,i<n->A i k-A i k*(A k k/A k k)=0:=fun i _=>by grind
  have col0:∀ j,j<n->A k j-A k k*(A k j/A k k)=0:=fun j _=>by grind
  have e1:qf n (fun i j=>A i j-A i k*(A k j/A k k)) (fun i=>ev n (if i=k then (fun j=>sm n fun i=>A i k/A k k*F i j) else F i) x)=qf n (fun i j=>A i j-A i k*(A k j/A k k)) (fun i=>ev n (F i) x):=by
   unfold qf
   refine C9 fun i hi=>?_
   have inner:(sm n fun j=>(A i j-A i k*(A k j/A k k))*ev n (if j=k then (fun j=>sm n fun i=>A i k/A k k*F i j) else F j) x)=sm n fun j=>(A i j-A i k*(A k j/A k k))*ev n (F j) x:=by
    refine C9 fun j hj=>?_
    by_cases c:j=k
    ·rw [c,row0 i hi,C62,C62]
    ·rw [if_neg c]
   rw [inner]
   by_cases c:i=k
   ·have e5:(sm n fun j=>(A k j-A k k*(A k j/A k k))*ev n (F j) x)=0:=S8 fun j hj=>by rw [col0 j hj,C62]
    rw [c]
    show _*(sm n fun j=>(A k j-A k k*(A k j/A k k))*ev n (F j) x)=_*(sm n fun j=>(A k j-A k k*(A k j/A k k))*ev n (F j) x)
    rw [e5,C6m,C6m]
   ·show ev n (if i=k then _ else F i) x*_=ev n (F i) x*_
    rw [if_neg c]
  rw [e1]
  have main:∀ T:Nat->Rat,qf n A T=A k k*((sm n fun i=>A i k/A k k*T i)*sm n fun i=>A i k/A k k*T i)+qf n (fun i j=>A i j-A i k*(A k j/A k k)) T:=fun T=>by
   unfold qf
   have e2:(sm n fun i=>T i*sm n fun j=>A i j*T j)=sm n fun i=>(T i*A i k)*(sm n fun j=>A k j/A k k*T j)+T i*sm n fun j=>(A i j-A i k*(A k j/A k k))*T j:=by
    refine C9 fun i hi=>?_
    have:(sm n fun j=>A i j*T j)=A i k*(sm n fun j=>A k j/A k k*T j)+sm n fun j=>(A i j-A i k*(A k j/A k k))*T j:=by
     rw [<- Ci,<- S4]
     exact C9 fun j _=>by grind
    rw [this,Rat.mul_add]
    congr 1
    grind
   rw [e2,S4]
   congr 1
   have e3:(sm n fun j=>A k j/A k k*T j)=sm n fun i=>A i k/A k k*T i:=C9 fun j hj=>by rw [h.symm k j hk hj]
   rw [e3]
   have e4:∀ q,(sm n fun i=>T i*A i k*q)=A k k*(q*sm n fun i=>A i k/A k k*T i):=fun q=>by
    rw [<- Rat.mul_assoc,<- Ci]
    exact C9 fun i _=>by grind
   exact e4 _
  exact main _
 ·refine h.inj x (fun m hm=>?_) j hj
  have hother:∀ m,m<n->m≠k->ev n (F m) x=0:=fun m hm c=>by
   have:=hx m hm
   rwa [if_neg c] at this
  by_cases c:m=k
  ·have:=hx k hk
   rw [if_pos rfl,evk,Ch hk fun i hi c=>by rw [hother i hi c,C6m]] at this
   rw [c]
   grind
  ·exact hother m hm c
 ·by_cases e:i=k
  ·rw [e];grind
  ·by_cases e':j=k
   ·rw [e'];grind
   ·rw [h.zero i j hi hj (by omega)]
    by_cases c':i<k
    ·rw [h.zero i k hi hk (.inl c')];grind
    ·rw [h.zero k j hk hj (.inr (by omega))];grind
 ·rw [h.symm i j hi hj,h.symm i k hi hk,h.symm k j hk hj];grind
theorem PD.done{n k:Nat}{A0 F A:Nat->Nat->Rat}{d:Nat->Rat}(h:PD n k A0 d F A)(hk:k<=n)(hz:∀ i j,i<n->j<n->A i j=0):Diag n A0 (fun m=>if m<k then d m else 0) F:=by
 refine ⟨fun x=>?_,h.inj⟩
 rw [h.val x]
 have e1:qf n A (fun i=>ev n (F i) x)=0:=S8 fun i hi=>by
  rw [S8 fun j hj=>by rw [hz i j hi hj,C62],C6m]
 rw [e1,C66]
 have e2:∀ j,k+j<=n->sm k (fun m=>d m*(ev n (F m) x*ev n (F m) x))=sm (k+j) fun m=>(if m<k then d m else 0)*(ev n (F m) x*ev n (F m) x):=by
  intro j
  induction j with
  | zero=>exact fun _=>C9 fun m hm=>by rw [if_pos hm]
  | succ j ih=>
   intro hj
   rw [ih (by omega)]
   show _=sm (k+j) _+(if k+j<k then d (k+j) else 0)*_
   rw [if_neg (by omega),C62,C66]
 have:=e2 (n-k) (by omega)
 rwa [show k+(n-k)=n by omega] at this
theorem B6j{n a b:Nat}(ha:a<n)(hb:b<n)(f:Nat->Rat):sm n (fun i=>f (xch a b i))=sm n f:=by
 by_cases hab:a=b
 ·refine C9 fun i _=>?_
  unfold xch
  split
  ·rename_i c;rw [c,hab]
  ·split
   ·rename_i c;rw [c,hab]
   ·rfl
 ·have e:sm n (fun i=>f (xch a b i))=sm n (fun i=>f i+((if i=a then f b-f a else 0)+if i=b then f a-f b else 0)):=by
   refine C9 fun i _=>?_
   unfold xch
   by_cases c:i=a
   ·rw [if_pos c,if_pos c,if_neg (by omega),c];grind
   ·rw [if_neg c,if_neg c]
    by_cases c':i=b
    ·rw [if_pos c',if_pos c',c'];grind
    ·rw [if_neg c',if_neg c'];grind
  rw [e,S4,S4,Ch ha fun i _ c=>if_neg c,Ch hb fun i _ c=>if_neg c,if_pos rfl,if_pos rfl]
  grind
theorem PD.swap{n k a b:Nat}{A0 F A:Nat->Nat->Rat}{d:Nat->Rat}(h:PD n k A0 d F A)(ha:a<n)(hb:b<n)(hka:k<=a)(hkb:k<=b):PD n k A0 d (fun m=>F (xch a b m)) (fun i j=>A (xch a b i) (xch a b j)):=by
 have fix:∀ m,m<k->xch a b m=m:=fun m hm=>by unfold xch;rw [if_neg (by omega),if_neg (by omega)]
 refine ⟨fun x=>?_,fun x hx j hj=>h.inj x (fun m hm=>?_) j hj,fun i j hi hj c=>h.zero _ _ (Ce ha hb hi) (Ce ha hb hj) ?_,fun i j hi hj=>h.symm _ _ (Ce ha hb hi) (Ce ha hb hj)⟩
 ·have e0:sm k (fun m=>d m*(ev n (F m) x*ev n (F m) x))=sm k (fun m=>d m*(ev n (F (xch a b m)) x*ev n (F (xch a b m)) x)):=C9 fun m hm=>by rw [fix m hm]
  rw [h.val x,e0]
  congr 1
  unfold qf
  rw [<- B6j ha hb (fun i=>ev n (F i) x*sm n fun j=>A i j*ev n (F j) x)]
  refine C9 fun i _=>?_
  show _=_*sm n fun j=>A (xch a b i) (xch a b j)*ev n (F (xch a b j)) x
  rw [B6j ha hb (fun j=>A (xch a b i) j*ev n (F j) x)]
 ·have:=hx (xch a b m) (Ce ha hb hm)
  rwa [B8b] at this
 ·rcases c with c|c
  ·rw [fix i c];exact .inl c
  ·rw [fix j c];exact .inr c
def Jz(a b:Nat)(A:Nat->Nat->Rat):Nat->Nat->Rat:=fun i j=>A i j+(if i=a then A b j else 0)+(if j=a then A i b+(if i=a then A b b else 0) else 0)
theorem PD.merge{n k a b:Nat}{A0 F A:Nat->Nat->Rat}{d:Nat->Rat}(h:PD n k A0 d F A)(ha:a<n)(hb:b<n)(hka:k<=a)(hkb:k<=b)(hab:a≠b):PD n k A0 d (fun m=>if m=b then (fun j=>F b j-F a j) else F m) (Jz a b A):=by
 have evb:∀ x,ev n (fun j=>F b j-F a j) x=ev n (F b) x-ev n (F a) x:=fun x=>by
  unfold ev
  rw [C6l,<- Lu,<- S4]
  exact C9 fun j _=>by grind
 have key:∀ (T:Nat->Rat) (c:Nat->Rat),(sm n fun j=>(c j+if j=a then c b else 0)*(if j=b then T b-T a else T j))=sm n fun j=>c j*T j:=fun T c=>by
  have e:(sm n fun j=>(c j+if j=a then c b else 0)*(if j=b then T b-T a else T j))=sm n (fun j=>c j*T j+((if j=a then c b*T a else 0)+if j=b then-(c b*T a) else 0)):=by
   refine C9 fun j _=>?_
   by_cases e1:j=a
   ·rw [if_pos e1,if_neg (by omega),if_pos e1,if_neg (by omega),e1];grind
   ·rw [if_neg e1,if_neg e1]
    by_cases e2:j=b
    ·rw [if_pos e2,if_pos e2,e2];grind
    ·rw [if_neg e2,if_neg e2];grind
  rw [e,S4,S4,Ch ha fun i _ c=>if_neg c,Ch hb fun i _ c=>if_neg c,if_pos rfl,if_pos rfl]
  grind
 refine ⟨fun x=>?_,fun x hx j hj=>h.inj x (fun m hm=>?_) j hj,fun i j hi hj c=>?_,fun i j hi hj=>?_⟩
 ·have e0:sm k (fun m=>d m*(ev n (F m) x*ev n (F m) x))=sm k (fun m=>d m*(ev n (if m=b then (fun j=>F b j-F a j) else F m) x*ev n (if m=b then (fun j=>F b j-F a j) else F m) x)):=C9 fun m hm=>by rw [if_neg (show m≠b by omega)]
  rw [h.val x,e0]
  congr 1
  have e1:(fun i=>ev n (if i=b then (fun j=>F b j-F a j) else F i) x)=fun i=>if i=b then ev n (F b) x-ev n (F a) x else ev n (F i) x:=by
   funext i
   by_cases c:i=b
   ·rw [if_pos c,if_pos c,evb]
   ·rw [if_neg c,if_neg c]
  rw [e1]
  have hT:∀ T:Nat->Rat,qf n A T=qf n (Jz a b A) (fun i=>if i=b then T b-T a else T i):=fun T=>by
   unfold qf
   have r1:∀ i,(sm n fun j=>Jz a b A i j*(if j=b then T b-T a else T j))=sm n fun j=>(A i j+if i=a then A b j else 0)*T j:=fun i=>by
    rw [<- key T (fun j=>A i j+if i=a then A b j else 0)]
    refine C9 fun j _=>?_
    unfold Jz
    rfl
   have r2:(sm n fun i=>(if i=b then T b-T a else T i)*sm n fun j=>Jz a b A i j*(if j=b then T b-T a else T j))=sm n fun i=>((sm n fun j=>A i j*T j)+if i=a then (sm n fun j=>A b j*T j) else 0)*(if i=b then T b-T a else T i):=by
    refine C9 fun i _=>?_
    rw [r1,C6y]
    congr 1
    by_cases c:i=a
    ·rw [if_pos c,<- S4]
     exact C9 fun j _=>by rw [if_pos c];grind
    ·rw [if_neg c,C66]
     exact C9 fun j _=>by rw [if_neg c];grind
   rw [r2,key T (fun i=>sm n fun j=>A i j*T j)]
   exact C9 fun i _=>C6y _ _
  exact hT fun i=>ev n (F i) x
 ·have h1:=hx m hm
  have h2:=hx a ha
  rw [if_neg hab] at h2
  by_cases c:m=b
  ·rw [if_pos c,evb,h2] at h1
   rw [c];grind
  ·rwa [if_neg c] at h1
 ·unfold Jz
  rw [h.zero i j hi hj c]
  rcases c with c|c
  ·rw [if_neg (show i≠a by omega),if_neg (show i≠a by omega),h.zero i b hi hb (.inl c)]
   split<;>grind
  ·rw [if_neg (show j≠a by omega),h.zero b j hb hj (.inr c)]
   split<;>grind
 ·unfold Jz
  rw [h.symm i j hi hj,h.symm i b hi hb,h.symm j b hj hb]
  by_cases c:i=a
  ·by_cases c':j=a
   ·simp only [if_pos c,if_pos c'];grind
   ·simp only [if_pos c,if_neg c'];grind
  ·by_cases c':j=a
   ·simp only [if_neg c,if_pos c'];grind
   ·simp only [if_neg c,if_neg c']
end Go.Proofs.YtajkakhfcokljaaGreatDoor
