/-
  Texts of this proof, merged by a program of ours.
-/
import Derived.Test.YtajkakhfcokljaaGreatDoorG30
import Derived.Test.YtajkakhfcokljaaGreatDoorG31
import Derived.Test.YtajkakhfcokljaaGreatDoorG22
import Derived.Test.YtajkakhfcokljaaGreatDoorG21
open Go.Proofs.Tryz
set_option linter.all false
open _root_.Go.Addr renaming add->C36
open Classical renaming byContradiction->C3u
open _root_.Go.Instr renaming storeAt->C3m
open Int renaming toNat_natCast->C38,natCast_mul->C3e
open List renaming replicate->C37,length_replicate->C39,length_append->C3f,not_mem_nil->C3j,mem_cons->C3o,getD_eq_getElem?_getD->C3s,getElem?_eq_getElem->C3v,getElem?_replicate->C3w,length_set->C3y
open List.cons renaming injEq->C3z
open Nat renaming le_refl->C34,mul_le_mul_right->C35,div_lt_of_lt_mul->C3a,mul_le_mul->C3b,mul_comm->C3c,add_mul_mod_self_right->C3d,add_mul_div_right->C3g,mod_eq_of_lt->C3h,div_eq_of_lt->C3i,zero_add->C3k,lt_irrefl->C3n,mod_lt->C3p,not_lt_zero->C3q,add_mul->C3r,zero_mul->C3t,add_comm->C3x,one_mul->C41
open Rat renaming mul_inv_cancel->C3l,div_def->C40,divInt_eq_div->C42,divInt->C44
open _root_.Go.Value.int renaming injEq->C43
namespace Go.Proofs.YtajkakhfcokljaaGreatDoor
set_option maxRecDepth 20000
open Go
theorem Sep.storeRaw{P:Program}{t:TypeId}{m:Nat}(one:P.cellsOf t=m/\(P.info? t).isSome=true){v:Value}{vs:List Value}(hv:v.cells=vs.toArray)(hl:vs.length=m)(h1:∀ x∈vs,A1v x=true){h g o:Heap}(s:Sep h g o){b:Nat}{arr:List Value}{e:TypeId}(hb:o b=some (.cells arr.toArray e)){off:Nat}(hoff:off+m<=arr.length){K:Unit->Heap->Prop}
 (x:∀ h' o',o'=o.put b (.cells (J7 arr off vs).toArray e)->Sep h' g o'->K () h'):wpH P (C3m t (.pointer (some ⟨b,off,none⟩)) v) K h:=by
 obtain ⟨ti,hti⟩:=Option.isSome_iff_exists.1 one.2
 have hs:ti.size=m:=by simpa [Program.cellsOf,hti] using one.1
 have hput:(h.without b).put b (.cells arr.toArray e)=h:=K5 (s.own b _ hb)
 unfold C3m
 simp only [C6,Instr.sureAddr,F7,storeVar,K4 hti,hs,hv,List.size_toArray,hl,ne_eq,not_true_eq_false,if_false]
 rw [<- hput]
 refine I0 vs off 0 _ (by omega) h1 ?_
 rw [Nat.add_zero]
 have hp2:(h.without b).put b (.cells (J7 arr off vs).toArray e)=h.put b (.cells (J7 arr off vs).toArray e):=by
  rw [<- hput,Hd,hput]
 rw [hp2]
 exact x _ _ rfl (s.upd hb _)
theorem A8c:prog.cellsOf Mm=1/\(prog.info? Mm).isSome=true:=⟨by kernel_rfl,by kernel_rfl⟩
theorem A8b:prog.cellsOf T5=1/\(prog.info? T5).isSome=true:=⟨by kernel_rfl,by kernel_rfl⟩
def QB(g o:Heap)(b n:Nat)(f:Nat->Rat):Prop:=∃ xs:List QV,RowX o b xs/\xs.length=n/\Row RQr g xs n f
def onT(T:Tb)(x:Nat):Prop:=x=T.bt\/x=T.bE\/x=T.bS
section
variable {g o:Heap} {b n:Nat} {f:Nat->Rat}
theorem QB.ko(q:QB g o b n f){g' o':Heap}(l:g.le g')(e:o' b=o b):QB g' o' b n f:=by
 obtain ⟨xs,r,h1,h2⟩:=q
 exact ⟨xs,r.keep fun x hx=>by rw [e];exact hx,h1,h2.mono O0 l⟩
theorem QB.congr(q:QB g o b n f){f':Nat->Rat}(e:∀ i,i<n->f i=f' i):QB g o b n f':=by
 obtain ⟨xs,r,h1,h2⟩:=q
 exact ⟨xs,r,h1,h2.congr e⟩
theorem QB.at(q:QB g o b n f){i:Nat}(hi:i<n):∃ w:QV,RQ g w (f i)/\o.cell? (C36 (C36 ⟨b,0,none⟩ (i*4)) 0)=some (.bool w.s)/\o.cell? (C36 (C36 ⟨b,0,none⟩ (i*4)) 1)=some (.slice w.A w.n w.c)/\o.cell? (C36 (C36 ⟨b,0,none⟩ (i*4)) 2)=some (.bool w.s2)/\o.cell? (C36 (C36 ⟨b,0,none⟩ (i*4)) 3)=some (.slice w.A2 w.n2 w.c2):=by
 obtain ⟨xs,r,h1,h2⟩:=q
 obtain ⟨w,e1,hw⟩:=h2 i hi
 have hlt:i<xs.length:=by omega
 have cell:∀ k v,(enc xs[i])[k]? = some v->o.cell? (C36 (C36 ⟨b,0,none⟩ (i*4)) k)=some v:=by
  intro k v hk
  rw [D8,D8,C3k]
  exact r.rowB.cell (i:=i) hlt (j:=k) hk
 rw [C3v hlt] at e1
 have e2:=Option.some.inj e1
 rw [e2] at cell
 exact ⟨w,hw,cell 0 _ rfl,cell 1 _ rfl,cell 2 _ rfl,cell 3 _ rfl⟩
theorem QB.rowV(q:QB g o b n f){h:Heap}(s:Sep h g o):RowV RQr h (some ⟨b,0,none⟩) n f:=by
 obtain ⟨xs,r,h1,h2⟩:=q
 exact ⟨xs,r.rowB.slF s.ole,h1,h2.mono O0 s.le⟩
theorem QB.store(q:QB g o b n f){h:Heap}(s:Sep h g o){i:Nat}(hi:i<n){w:QV}{z:Rat}(hw:RQ g w z){K:Unit->Heap->Prop}
 (k:∀ h' o',Sep h' g o'->QB g o' b n (fun a=>if a=i then z else f a)->(∀ y,y≠b->o' y=o y)->K () h'):wpH prog (C3m G7 (.pointer (some (C36 ⟨b,0,none⟩ (i*4)))) w.v) K h:=by
 obtain ⟨xs,r,h1,h2⟩:=q
 have hlt:i<xs.length:=by omega
 refine Dh A40 (y:=w) rfl s r (i:=i) hlt ?_
 intro h' o' x' eo s' r'
 exact k h' o' s' ⟨_,r',by rw [C3y];exact h1,Row.upd h2 hlt hw⟩ (fun y hy=>by rw [eo,B8 _ _ hy])
end
structure El (h g o:Heap) (be:Nat) (T:Tb) (M:Nat->Nat->Int) (S:Nat->Rat) (n k:Nat) (w:IV) (z:Int) (L D:Value):Prop where
 t:Tab h g o T M S
 rows:T.rows=n
 cols:T.cols=n
 hd:∃ e,o be=some (.cells (List.toArray [I (n:Int),I (k:Int),.pointer (some ⟨T.bt,0,none⟩),.bool w.s,.slice w.A w.n w.c,L,D]) e)
 off:¬ onT T be
 last:ZIr g w z
section
variable {h g o:Heap} {be:Nat} {T:Tb} {M:Nat->Nat->Int} {S:Nat->Rat} {n k:Nat} {w:IV} {z:Int} {L D:Value} {K:VP} {m:Nat}
theorem El.cell(X:El h g o be T M S n k w z L D){i:Nat}{v:Value}(hv:[I (n:Int),I (k:Int),.pointer (some ⟨T.bt,0,none⟩),.bool w.s,.slice w.A w.n w.c,L,D][i]? = some v):h.cell? ⟨be,i,none⟩=some v:=by
 obtain ⟨e,he⟩:=X.hd
 refine X.t.sep.cell ?_
 unfold Heap.cell?
 simp only [he]
 simpa using hv
theorem El.c0(X:El h g o be T M S n k w z L D):h.cell? (C36 ⟨be,0,none⟩ 0)=some (I (n:Int)):=by rw [D8];exact X.cell rfl
theorem El.c1(X:El h g o be T M S n k w z L D):h.cell? (C36 ⟨be,0,none⟩ 1)=some (I (k:Int)):=by rw [D8];exact X.cell rfl
theorem El.c2(X:El h g o be T M S n k w z L D):h.cell? (C36 ⟨be,0,none⟩ 2)=some (.pointer (some ⟨T.bt,0,none⟩)):=by rw [D8];exact X.cell rfl
theorem El.c3(X:El h g o be T M S n k w z L D):h.cell? (C36 (C36 ⟨be,0,none⟩ 3) 0)=some (.bool w.s):=by rw [D8,D8];exact X.cell rfl
theorem El.c4(X:El h g o be T M S n k w z L D):h.cell? (C36 (C36 ⟨be,0,none⟩ 3) 1)=some (.slice w.A w.n w.c):=by rw [D8,D8];exact X.cell rfl
theorem El.c5(X:El h g o be T M S n k w z L D):h.cell? (C36 ⟨be,0,none⟩ 5)=some L:=by rw [D8];exact X.cell rfl
theorem El.c6(X:El h g o be T M S n k w z L D):h.cell? (C36 ⟨be,0,none⟩ 6)=some D:=by rw [D8];exact X.cell rfl
theorem El.next(X:El h g o be T M S n k w z L D){h' g':Heap}(s:Sep h' g' o)(l:g.le g'):El h' g' o be T M S n k w z L D:=⟨X.t.next s l,X.rows,X.cols,X.hd,X.off,Nc _ _ _ _ l X.last⟩
theorem Tab.away(t:Tab h g o T M S){h' o':Heap}(s:Sep h' g o'){b:Nat}(hb:¬ onT T b)(ko:∀ y,y≠b->o' y=o y):Tab h' g o' T M S:=t.keep s (B4 _) (fun k x e hk=>by rw [ko k (fun e2=>hb (e2▸hk))];exact e)
theorem El.away(X:El h g o be T M S n k w z L D){h' o':Heap}(s:Sep h' g o'){b:Nat}(hb:¬ onT T b)(hbe:be≠b)(ko:∀ y,y≠b->o' y=o y):El h' g o' be T M S n k w z L D:=by
 obtain ⟨e,he⟩:=X.hd
 exact ⟨X.t.away s hb ko,X.rows,X.cols,⟨e,by rw [ko _ hbe];exact he⟩,X.off,X.last⟩
theorem El.set(X:El h g o be T M S n k w z L D){t:TypeId}{q off:Nat}{v:Value}{vs:List Value}(one:prog.cellsOf t=q/\(prog.info? t).isSome=true)(hv:v.cells=vs.toArray)(hl:vs.length=q)(h1:∀ x∈vs,A1v x=true)(hoff:off+q<=7){n' k':Nat}{w':IV}{z':Int}{L' D':Value}(hn:n'=n)(hw:ZIr g w' z')
 (hs:J7 [I (n:Int),I (k:Int),.pointer (some ⟨T.bt,0,none⟩),.bool w.s,.slice w.A w.n w.c,L,D] off vs=[I (n':Int),I (k':Int),.pointer (some ⟨T.bt,0,none⟩),.bool w'.s,.slice w'.A w'.n w'.c,L',D'])
 {K:Unit->Heap->Prop} (x:∀ h' o',El h' g o' be T M S n' k' w' z' L' D'->(∀ y,y≠be->o' y=o y)->K () h'):wpH prog (C3m t (.pointer (some (C36 ⟨be,0,none⟩ off))) v) K h:=by
 obtain ⟨e,he⟩:=X.hd
 rw [D8,C3k]
 refine X.t.sep.storeRaw one hv hl h1 he hoff ?_
 intro h' o' eo s'
 have ko:∀ y,y≠be->o' y=o y:=fun y hy=>by rw [eo,B8 _ _ hy]
 subst hn
 exact x h' o' ⟨X.t.away s' X.off ko,X.rows,X.cols,⟨e,by rw [eo,C3,hs]⟩,X.off,hw⟩ ko
theorem B75(X:El h g o be T M S n k w z L D)(gl:Gl g){i j:Nat}(hi:i<n)(hj:j<n)(bm:ZB m (M i j))(bz:ZB m z)(bs:Sz m (S i))(hd:Sz m (C44 (M i j) z))(hm1:1<=m)(hm:m<=6400000000)
 (hK:∀ w' h' g',g.le g'->Sep h' g' o->h.le h'->RQ g' w' (C44 (M i j) z/S i)->K w'.v h'):FCall prog A95 #[.pointer (some ⟨be,0,none⟩),I (i:Int),I (j:Int)] h K:=by
 have hi':i<T.rows:=by rw [X.rows];exact hi
 have hj':j<T.cols:=by rw [X.cols];exact hj
 refine C02 _ _ _ ?_
 unfold EAt
 obtain ⟨ws,is,d0,d1,d2,d3⟩:=X.t.sat hi'
 obtain ⟨wm,im,e0,e1⟩:=X.t.at hi' hj'
 refine ⟨_,rfl,_,X.c2,_,rfl,_,_,_,_,X.c3,X.c4,_,rfl,_,X.c2,_,rfl,_,_,_,X.t.c2,_,rfl,by omega,by omega,_,_,_,_,_,_,_,_,d0,d1,d2,d3,?_⟩
 refine Kd X.t hi' ⟨_,_,_,rfl,B4 _,_,rfl,by omega,by omega,_,_,_,_,e0,e1,?_⟩
 refine X.t.sep.call (Aj gl.tz im X.last bm bz hm ?_)
 intro w1 g1 l1 i1 h1 s1
 refine ⟨_,_,_,_,_,_,_,_,rfl,X.t.sep.le_le s1 l1,?_⟩
 refine s1.call (Uy (gl.mono l1).tz i1 (O0 _ _ _ _ l1 is) hd bs hm1 hm ?_)
 intro w2 g2 l2 i2 h2 s2
 exact ⟨_,_,_,_,_,_,_,_,rfl,s1.le_le s2 l2,hK w2 h2 g2 (B0 l1 l2) s2 (B0 (X.t.sep.le_le s1 l1) (s1.le_le s2 l2)) i2⟩
theorem A08(X:El h g o be T M S n k w z L D)(hk:k<n)(hn:n<=10000)
 (hK1:∀ i:Nat,k<i->i<n->M i k≠0->K (.tuple #[I (i:Int),.bool true]) h) (hK0:(∀ j,k<j->j<n->M j k=0)->K (.tuple #[I 0,.bool false]) h):FCall prog Hw #[.pointer (some ⟨be,0,none⟩)] h K:=by
 refine A3r _ ?_
 unfold A5c
 refine ⟨_,rfl,_,X.c1,?_⟩
 rw [wiS k (by omega)]
 refine ⟨fun L' hp=>∃ i:Nat,k<i/\i<=n/\L'=[I (i:Int)]/\hp=h/\∀ j,k<j->j<i->M j k=0,fun L' _=>n-(iAt L' 0).toNat,⟨k+1,by omega,by omega,rfl,rfl,fun j _ _=>by omega⟩,?_⟩
 rintro y hp ⟨i,hi1,hi2,eL,rfl,hz⟩
 obtain rfl:=sI1 eL
 refine ⟨_,rfl,_,X.c0,B6 (fun hlt=>?_) (fun hge=>hK0 fun j a b=>hz j a (by omega))⟩
 have hin:i<n:=by omega
 have hi':i<T.rows:=by rw [X.rows];exact hin
 have hk':k<T.cols:=by rw [X.cols];exact hk
 refine ⟨_,rfl,_,X.c2,_,rfl,_,X.c1,?_⟩
 obtain ⟨wm,im,e0,e1⟩:=X.t.at hi' hk'
 refine Kd X.t hi' ⟨_,_,_,rfl,B4 _,_,rfl,by omega,by omega,_,_,_,_,e0,e1,?_⟩
 refine F6 (im.mono X.t.sep.le) ⟨_,rfl,B4 _,O5 (B6 (fun e=>?_) (fun e=>hK1 i hi1 hin e))⟩
 rw [wiS i (by omega)]
 refine ⟨⟨i+1,by omega,by omega,rfl,rfl,fun j a b=>?_⟩,by simp only [Eu];omega⟩
 by_cases c:j=i
 ·rw [c];exact e
 ·exact hz j a (by omega)
theorem A10(X:El h g o be T M S n k w z L D)(hk:k<n)(hn:n<=10000)(hz:z≠0)(hM:∀ a b,k<=a->a<n->b<n->ZB m (M a b))(bz:ZB m z)(hm1:1<=m)(hm:2*m+1<=100000000)
 (hK:∀ h' g' o' w',g.le g'->El h' g' o' be T (fun a b=>if k<a then (M k k*M a b-M a k*M k b).tdiv z else M a b) S n (k+1) w' (M k k) L D->(∀ b,¬ onT T b->b≠be->o' b=o b)->K (.tuple #[]) h'):FCall prog Nm #[.pointer (some ⟨be,0,none⟩)] h K:=by
 refine A3s _ ?_
 unfold A5d
 refine ⟨_,rfl,_,X.c1,?_⟩
 rw [wiS k (by omega)]
 refine ⟨fun L' hp=>∃ (i:Nat) (g1 o1:Heap),k<i/\i<=n/\L'=[I (i:Int)]/\g.le g1/\El hp g1 o1 be T (fun a b=>if k<a/\a<i then (M k k*M a b-M a k*M k b).tdiv z else M a b) S n k w z L D/\(∀ b,¬ onT T b->b≠be->o1 b=o b),fun L' _=>n-(iAt L' 0).toNat,⟨k+1,g,o,by omega,by omega,rfl,B4 _,⟨X.t.congr (fun a b _ _=>by rw [if_neg (by omega)]) (fun _ _=>rfl),X.rows,X.cols,X.hd,X.off,X.last⟩,fun _ _ _=>rfl⟩,?_⟩
 rintro y hp ⟨i,g1,o1,hi1,hi2,eL,lg,X1,ko⟩
 obtain rfl:=sI1 eL
 refine ⟨_,rfl,_,X1.c0,B6 (fun hlt=>?_) (fun hge=>?_)⟩
 ·have hin:i<n:=by omega
  refine ⟨_,rfl,_,X1.c2,_,rfl,_,_,_,_,X1.c3,X1.c4,?_⟩
  have er:=X.rows
  have ec:=X.cols
  refine A67 (m:=m) X1.t (i:=i) (p:=k) (c:=k) (by omega) (by omega) (by omega) (by omega) X1.last hz hm1 hm (fun b hb=>by rw [if_neg (by omega)];exact hM i b (by omega) hin (by omega)) (fun b hb=>by rw [if_neg (by omega)];exact hM k b (C34 _) hk (by omega)) bz ?_
  intro h2 g2 o2 l2 t2 ko2
  rw [wiS i (by omega)]
  have hbe:be≠T.bE:=fun e=>X.off (.inr (.inl e))
  obtain ⟨e,he⟩:=X1.hd
  refine ⟨rfl,⟨i+1,g2,o2,by omega,by omega,rfl,B0 lg l2,⟨t2.congr (fun a b _ _=>?_) (fun _ _=>rfl),er,ec,⟨e,by rw [ko2 _ hbe];exact he⟩,X.off,Nc _ _ _ _ l2 X1.last⟩,fun b hb hb2=>by rw [ko2 b (fun e=>hb (.inr (.inl e)))];exact ko b hb hb2⟩,by simp only [Eu];omega⟩
  by_cases c:a=i
  ·have q1:¬ (k<k/\k<i):=by omega
   have q2:¬ (k<i/\i<i):=by omega
   simp only [if_neg q1,if_neg q2]
   rw [if_pos c,if_pos (show k<a/\a<i+1 by omega),c]
  ·rw [if_neg c]
   by_cases c2:k<a/\a<i
   ·rw [if_pos c2,if_pos (by omega)]
   ·rw [if_neg c2,if_neg (show ¬ (k<a/\a<i+1) by omega)]
 ·have hie:i=n:=by omega
  subst hie
  have hk':k<T.rows:=by rw [X.rows];exact hk
  have hk2:k<T.cols:=by rw [X.cols];exact hk
  refine ⟨_,rfl,_,X1.c2,?_⟩
  obtain ⟨wm,im,e0,e1⟩:=X1.t.at hk' hk2
  rw [if_neg (by omega)] at im
  refine Kd X1.t hk' ⟨_,_,_,rfl,_,rfl,by omega,by omega,_,_,_,_,e0,e1,?_⟩
  refine ⟨_,rfl,?_⟩
  refine X1.set (n':=i) (k':=k) (w':=wm) (z':=M k k) (L':=L) (D':=D) (vs:=[.bool wm.s,.slice wm.A wm.n wm.c]) Qq rfl rfl (by intro x hx;simp only [C3o,C3j,or_false] at hx;rcases hx with rfl|rfl<;>rfl) (by omega) rfl im rfl ?_
  intro h3 o3 X3 ko3
  refine ⟨_,rfl,_,X3.c1,_,rfl,?_⟩
  rw [wiS k (by omega)]
  refine X3.set (n':=i) (k':=k+1) (w':=wm) (z':=M k k) (L':=L) (D':=D) (vs:=[I ((k+1:Nat):Int)]) A8c rfl rfl (by intro x hx;simp only [C3o,C3j,or_false] at hx;subst hx;rfl) (by omega) rfl im rfl ?_
  intro h4 o4 X4 ko4
  refine hK h4 g1 o4 wm lg ⟨X4.t.congr (fun a b ha hb=>?_) (fun _ _=>rfl),X4.rows,X4.cols,X4.hd,X4.off,X4.last⟩ (fun b hb hb2=>by rw [ko4 b hb2,ko3 b hb2];exact ko b hb hb2)
  have:a<i:=by rw [<- X.rows];exact ha
  by_cases c:k<a
  ·rw [if_pos ⟨c,this⟩,if_pos c]
  ·rw [if_neg (fun x=>c x.1),if_neg c]
end
theorem C1x{l s r:Rat}(hl:l≠0)(hs:s≠0):l*(s*r)/l/s=r:=by
 have h1:=C3l _ hl
 have h2:=C3l _ hs
 rw [C40,C40]
 grind
section
variable {E:Nat->Rat} {n k:Nat}
theorem A9a(sy:A6k n (mtx E n))(hk:k<=n)(ok:∀ m,m<k->Za (mtx E n) n m):LdR n k (mtx E n) (elE E n n k):=LdR.run sy k hk ok
theorem B4s(hk:k<n):A47 n k (elP E n n k)=A48 n k (elE E n n k):=(A9b E (Nat.le_of_lt hk)).row hk
theorem A4t(sy:A6k n (mtx E n))(hk:k<n)(ok:∀ m,m<=k->Za (mtx E n) n m)(e:ldA (mtx E n) k k k=0):elP E n n (k+1)=elP E n n k:=by
 have r:=B4s (E:=E) hk
 rw [(A9a sy (by omega) fun m hm=>ok m (by omega)).none hk e (ok k (C34 _))] at r
 show Wn n k (elP E n n k)=_
 unfold Wn
 rw [r,if_neg (C3n n)]
theorem A4s(sy:A6k n (mtx E n))(hk:k<n)(ok:∀ m,m<k->Za (mtx E n) n m)(e:ldA (mtx E n) k k k≠0):
 (∀ i j,k<i->i<n->(elP E n n (k+1)).M i j=((elP E n n k).M k k*(elP E n n k).M i j-(elP E n n k).M i k*(elP E n n k).M k j).tdiv (elP E n n k).last)/\(elP E n n (k+1)).last=(elP E n n k).M k k/\∀ i,k<i->(elP E n n (k+1)).S i=(elP E n n k).S i:=by
 have R:=A9a sy (by omega) ok
 have r:=B4s (E:=E) hk
 rw [R.row hk e] at r
 have hl:=R.len
 rw [<- C1i E (Nat.le_of_lt hk)] at hl
 have se:elP E n n (k+1)=Wn n k (elP E n n k):=rfl
 unfold Wn at se
 rw [r,if_pos hk] at se
 generalize elP E n n k=s at *
 have x1:=Wg s.cs.length k
 have x2:∀ i,k<i->xch s.cs.length k i=i:=fun i hi=>by unfold xch;rw [if_neg (by omega),if_neg (by omega)]
 rw [se]
 refine ⟨fun i j hi _=>?_,rfl,fun i hi=>?_⟩
 ·show clr (fun i=>s.M (xch s.cs.length k i)) s.cs.length k s.last i j=_
  unfold clr
  rw [if_neg (by omega)]
  show (s.M (xch s.cs.length k s.cs.length) k*s.M (xch s.cs.length k i) j-s.M (xch s.cs.length k i) k*s.M (xch s.cs.length k s.cs.length) j).tdiv s.last=_
  rw [x1,x2 i hi]
 ·show s.S (xch s.cs.length k i)=_
  rw [x2 i hi]
theorem C30(sy:A6k n (mtx E n)):∀ k,k<=n->(∀ m,m<k->Za (mtx E n) n m)->∀ i,k<=i->i<n->(elP E n n k).S i=Tq E n i:=by
 intro k
 induction k with
 | zero=>intro _ _ i _ _;rfl
 | succ k ih=>
  intro hk ok i hi hin
  have ih':=ih (by omega) (fun m hm=>ok m (by omega)) i (by omega) hin
  by_cases e:ldA (mtx E n) k k k=0
  ·rw [A4t sy hk (fun m hm=>ok m (by omega)) e];exact ih'
  ·rw [(A4s sy hk (fun m hm=>ok m (by omega)) e).2.2 i (by omega)];exact ih'
structure LdF (E:Nat->Rat) (n k Q:Nat):Prop where
 val:∀ i j,k<=i->i<n->j<n->((elP E n n k).M i j:Rat)=(elP E n n k).last*(Tq E n i*ldA (mtx E n) k i j)
 last:(elP E n n k).last≠0
 zM:∀ a b,a<n->b<n->ZB Q ((elP E n n k).M a b)
 zl:ZB Q (elP E n n k).last
 zS:∀ a,a<n->Sz Q (Tq E n a)
 zA:∀ i j,k<=i->i<n->j<n->Sz Q (ldA (mtx E n) k i j)
theorem ldF{m Q:Nat}(hs:∀ i,i<n*n->Sz m (E i))(hQ1:3^n*bnd n m+bnd n m<=Q)(sy:A6k n (mtx E n))(hk:k<=n)(ok:∀ m,m<k->Za (mtx E n) n m):LdF E n k Q:=by
 have rel:=A9b E (rows:=n) (cols:=n) hk
 have R:=A9a sy hk ok
 have hlen:=R.len
 have z:=B92 (E:=E) (rows:=n) (cols:=n) (c:=k) hs hk
 have hbn1:1<=bnd n m:=by unfold bnd;omega
 have hb3:3^(elP E n n k).cs.length*bnd n m<=3^n*bnd n m:=C35 _ (Nat.pow_le_pow_right (by decide) z.len)
 have hS:=C30 sy k hk ok
 have val:∀ i j,k<=i->i<n->j<n->((elP E n n k).M i j:Rat)=(elP E n n k).last*(Tq E n i*ldA (mtx E n) k i j):=fun i j hi hin hj=>by
  rw [rel.val i j hin hj,if_neg (by omega),R.low i j hi hin hj,hS i hi hin]
 have zS:∀ a,a<n->Sz (bnd n m) (Tq E n a):=fun a ha=>A29 fun j hj=>hs _ (K9 ha hj)
 refine ⟨val,rel.last,fun a b ha hb=>(z.M a b ha hb).mono (by omega),z.last.mono (by omega),fun a ha=>(zS a ha).mono (by omega),fun i j hi hin hj=>?_⟩
 have e:ldA (mtx E n) k i j=C44 ((elP E n n k).M i j) (elP E n n k).last/Tq E n i:=by
  have hp:=Pv E n i
  rw [C42,val i j hi hin hj,C1x (R5 rel.last) (by grind)]
 rw [e]
 exact ((Dg rel.last (z.M i j hin hj) z.last).div (zS i hin) hbn1).mono (by omega)
end
def A4g(A:Nat->Nat->Rat)(n k:Nat):Nat->Rat:=fun t=>if t%n<k then ldL A (t/n) (t%n) else 0
def A4v(A:Nat->Nat->Rat)(k:Nat):Nat->Rat:=fun j=>if j<k then ldD A j else 0
structure Ld (h g o:Heap) (be bl bd:Nat) (T:Tb) (E:Nat->Rat) (n k:Nat) (M:Nat->Nat->Int) (w:IV) (Lf Df:Nat->Rat):Prop where
 e:El h g o be T M (Tq E n) n k w (elP E n n k).last (.slice (some ⟨bl,0,none⟩) (n*n) (n*n)) (.slice (some ⟨bd,0,none⟩) n n)
 m:∀ i j,k<=i->i<n->j<n->M i j=(elP E n n k).M i j
 l:QB g o bl (n*n) Lf
 d:QB g o bd n Df
 tl:¬ onT T bl
 td:¬ onT T bd
 el:be≠bl
 ed:be≠bd
 ld:bl≠bd
section
variable {h g o:Heap} {be bl bd:Nat} {T:Tb} {E:Nat->Rat} {n k:Nat} {M:Nat->Nat->Int} {w:IV} {Lf Df:Nat->Rat} {K:VP} {Q:Nat}
theorem Ld.next(X:Ld h g o be bl bd T E n k M w Lf Df){h' g':Heap}(s:Sep h' g' o)(l:g.le g'):Ld h' g' o be bl bd T E n k M w Lf Df:=⟨X.e.next s l,X.m,X.l.ko l rfl,X.d.ko l rfl,X.tl,X.td,X.el,X.ed,X.ld⟩
theorem Ld.congr(X:Ld h g o be bl bd T E n k M w Lf Df){Lf' Df':Nat->Rat}(e1:∀ i,i<n*n->Lf i=Lf' i)(e2:∀ i,i<n->Df i=Df' i):Ld h g o be bl bd T E n k M w Lf' Df':=⟨X.e,X.m,X.l.congr e1,X.d.congr e2,X.tl,X.td,X.el,X.ed,X.ld⟩
theorem Ld.storeL(X:Ld h g o be bl bd T E n k M w Lf Df){i:Nat}(hi:i<n*n){v:QV}{z:Rat}(hv:RQ g v z){K:Unit->Heap->Prop}
 (x:∀ h' o',Ld h' g o' be bl bd T E n k M w (fun a=>if a=i then z else Lf a) Df->K () h'):wpH prog (C3m G7 (.pointer (some (C36 ⟨bl,0,none⟩ (i*4)))) v.v) K h:=by
 refine X.l.store X.e.t.sep hi hv ?_
 intro h' o' s' q ko
 exact x h' o' ⟨X.e.away s' X.tl X.el ko,X.m,q,X.d.ko (B4 _) (ko _ X.ld.symm),X.tl,X.td,X.el,X.ed,X.ld⟩
theorem Ld.storeD(X:Ld h g o be bl bd T E n k M w Lf Df){i:Nat}(hi:i<n){v:QV}{z:Rat}(hv:RQ g v z){K:Unit->Heap->Prop}
 (x:∀ h' o',Ld h' g o' be bl bd T E n k M w Lf (fun a=>if a=i then z else Df a)->K () h'):wpH prog (C3m G7 (.pointer (some (C36 ⟨bd,0,none⟩ (i*4)))) v.v) K h:=by
 refine X.d.store X.e.t.sep hi hv ?_
 intro h' o' s' q ko
 exact x h' o' ⟨X.e.away s' X.td X.ed ko,X.m,X.l.ko (B4 _) (ko _ X.ld),q,X.tl,X.td,X.el,X.ed,X.ld⟩
theorem Ld.at(X:Ld h g o be bl bd T E n k M w Lf Df)(gl:Gl g)(F:LdF E n k Q){i j:Nat}(hk:k<=i)(hi:i<n)(hj:j<n)(hQ1:1<=Q)(hQ:Q<=6400000000)
 (hK:∀ w' h' g',g.le g'->Sep h' g' o->h.le h'->RQ g' w' (ldA (mtx E n) k i j)->K w'.v h'):FCall prog A95 #[.pointer (some ⟨be,0,none⟩),I (i:Int),I (j:Int)] h K:=by
 have em:=X.m i j hk hi hj
 have hS:=Pv E n i
 refine B75 (m:=Q) X.e gl hi hj (by rw [em];exact F.zM i j hi hj) F.zl (F.zS i hi) (by rw [em];exact Dg F.last (F.zM i j hi hj) F.zl) hQ1 hQ ?_
 intro w' h' g' lg s lh iq
 refine hK w' h' g' lg s lh ?_
 rw [em,C42,F.val i j hk hi hj,C1x (R5 F.last) (by grind)] at iq
 exact iq
theorem Ld.partner(X:Ld h g o be bl bd T E n k M w Lf Df)(F:LdF E n k Q)(hk:k<n)(hn:n<=10000):FCall prog Hw #[.pointer (some ⟨be,0,none⟩)] h (fun r h'=>h'=h/\∃ (a:Nat) (b:Bool),r= .tuple #[I (a:Int),.bool b]/\(b=true->k<a/\a<n/\ldA (mtx E n) k a k≠0)/\(b=false->∀ j,k<j->j<n->ldA (mtx E n) k j k=0)):=by
 have key:∀ i,k<=i->i<n->(M i k=0↔ldA (mtx E n) k i k=0):=fun i hki hi=>by
  have hv:=F.val i k hki hi hk
  have h3:=R5 F.last
  have h4:Tq E n i≠0:=by have:=Pv E n i;grind
  rw [X.m i k hki hi hk]
  constructor
  ·intro e
   rw [e] at hv
   have h0:((0:Int):Rat)=0:=rfl
   rw [h0] at hv
   rcases Rat.mul_eq_zero.1 hv.symm with e1|e1
   ·exact absurd e1 h3
   ·rcases Rat.mul_eq_zero.1 e1 with e2|e2
    ·exact absurd e2 h4
    ·exact e2
  ·intro e
   rw [e,Rat.mul_zero,Rat.mul_zero] at hv
   exact_mod_cast hv
 refine A08 X.e hk hn (fun i h1 h2 h3=>⟨rfl,i,true,rfl,fun _=>⟨h1,h2,fun e=>h3 ((key i (by omega) h2).2 e)⟩,fun e=>by cases e⟩) (fun hz=>⟨rfl,0,false,rfl,(fun e=>by cases e),fun _ j h1 h2=>(key j (by omega) h2).1 (hz j h1 h2)⟩)
end
theorem Uw{q:Rat}:q.num.sign<0↔q<0:=by
 have h1:q.num.sign<0↔q.num<0:=by
  rcases Int.lt_trichotomy q.num 0 with c|c|c
  ·rw [Int.sign_eq_neg_one_of_neg c];exact ⟨fun _=>c,fun _=>by decide⟩
  ·rw [c];exact ⟨fun h=>by simp at h,fun h=>by omega⟩
  ·rw [Int.sign_eq_one_of_pos c];exact ⟨fun h=>by omega,fun h=>by omega⟩
 have h2:=Rat.num_nonneg (q:=q)
 rw [h1]
 constructor
 ·intro h
  refine C3u fun hn=>?_
  have:0<=q:=by grind
  have:=h2.2 this
  omega
 ·intro h
  refine C3u fun hn=>?_
  have:=h2.1 (by omega)
  grind
theorem Lj{n i j:Nat}(hj:j<n):(i*n+j)/n=i/\(i*n+j)%n=j:=by
 refine ⟨?_,?_⟩
 ·rw [C3c,Nat.mul_add_div (by omega),C3i hj,Nat.add_zero]
 ·rw [C3c,Nat.mul_add_mod,C3h hj]
def B6g(A:Nat->Nat->Rat)(n k i:Nat):Nat->Rat:=fun t=>if t%n=k/\t/n<i then ldL A (t/n) k else A4g A n k t
theorem A4f(A:Nat->Nat->Rat){n k i:Nat}(h:i=n\/ldA A k k k=0/\k<i):∀ t,t<n*n->B6g A n k i t=A4g A n (k+1) t:=by
 intro t ht
 unfold B6g A4g
 have hd:t/n<n:=C3a ht
 by_cases c:t%n=k
 ·rw [if_pos (show t%n<k+1 by omega),c]
  by_cases c2:t/n<i
  ·rw [if_pos ⟨rfl,c2⟩]
  ·rw [if_neg (fun x=>c2 x.2),if_neg (C3n k)]
   rcases h with h|⟨h1,h2⟩
   ·omega
   ·unfold ldL
    rw [if_neg (by omega),if_neg (by omega),if_pos h1]
 ·rw [if_neg (fun x=>c x.1)]
  by_cases c2:t%n<k
  ·rw [if_pos c2,if_pos (by omega)]
  ·rw [if_neg c2,if_neg (by omega)]
theorem A9l(A:Nat->Nat->Rat)(k:Nat):(fun a=>if a=k then ldA A k k k else A4v A k a)=A4v A (k+1):=by
 funext a
 unfold A4v ldD
 by_cases c:a=k
 ·rw [if_pos c,if_pos (by omega),c]
 ·rw [if_neg c]
  by_cases c2:a<k
  ·rw [if_pos c2,if_pos (by omega)]
  ·rw [if_neg c2,if_neg (by omega)]
section
variable {h:Heap} {A:Option Addr} {E:Nat->Rat} {n cap m Q:Nat} {K:VP}
theorem Ua(gl:Gl h)(rq:RowV RQr h A (n*n) E)(hcap:n*n<=cap)(hn1:1<=n)(hn:n<=64)(sy:A6k n (mtx E n))(hs:∀ i,i<n*n->Sz m (E i))(hQ1:3^n*bnd n m+bnd n m<=Q)(hQ:2*Q+1<=100000000)
 (hK1:(∀ k,k<n->Za (mtx E n) n k)->∀ h' g' o' be bl bd T M w,h.le h'->h.le g'->Ld h' g' o' be bl bd T E n n M w (A4g (mtx E n) n n) (A4v (mtx E n) n)->K (.tuple #[.pointer (some ⟨be,0,none⟩),.bool true]) h')
 (hK0:∀ k,k<n->(∀ k',k'<k->Za (mtx E n) n k')->¬ Za (mtx E n) n k->∀ h' g' o' be bl bd T M w,h.le h'->h.le g'->Ld h' g' o' be bl bd T E n k M w (A4g (mtx E n) n k) (A4v (mtx E n) k)->K (.tuple #[.pointer (some ⟨be,0,none⟩),.bool false]) h'):FCall prog Gh #[.slice A (n*n) cap,I (n:Int)] h K:=by
 have hnn:n*n<=64*64:=C3b hn hn
 have hnp:1<=n*n:=Nat.mul_pos hn1 hn1
 have hb:bnd n m<=Q:=by omega
 have hbe:bnd n m=1+n*m+m:=rfl
 refine Zd _ _ _ _ ?_
 unfold Wc
 refine Md _ _ _ _ ?_
 unfold He
 refine Wy (m:=m) gl rq hcap hn1 (by omega) hn1 (by omega) hs (by omega) ?_
 intro h1 g1 o1 T lg1 t1 er ec
 refine ⟨_,rfl,?_⟩
 refine t1.sep.call (Fe (by decide) (by decide) ?_)
 intro s2 A2 n2 c2 g2 l2 i2 h2 sp2
 have t2:=t1.next sp2 l2
 refine ⟨_,_,_,_,rfl,Yh ?_⟩
 intro be hbe2
 have fr:∀ {hh gg oo:Heap} {k x b},Sep hh gg oo->oo k=some x->hh b=none->k≠b:=by
  rintro hh gg oo k x b s e hb rfl
  rw [s.own k x e] at hb;cases hb
 obtain ⟨⟨y1,z1⟩,⟨y2,z2⟩,⟨y3,z3⟩⟩:=t2.own
 have off1:∀ {hh gg oo:Heap} {b},Tab hh gg oo T (Zg E n) (Tq E n)->hh b=none->¬ onT T b:=by
  intro hh gg oo b t hb hx
  obtain ⟨⟨y1,z1⟩,⟨y2,z2⟩,⟨y3,z3⟩⟩:=t.own
  rcases hx with rfl|rfl|rfl
  ·exact fr t.sep z1 hb rfl
  ·exact fr t.sep z2 hb rfl
  ·exact fr t.sep z3 hb rfl
 have s3:=t2.sep.new hbe2 (.cells (Value.agg #[I (n:Int),I (0:Int),.pointer (some ⟨T.bt,0,none⟩),.bool s2,.slice A2 n2 c2,.slice none 0 0,.slice none 0 0]).cells Jt)
 have X3:El _ g2 _ be T (Zg E n) (Tq E n) n 0 ⟨s2,A2,n2,c2⟩ 1 (.slice none 0 0) (.slice none 0 0):=⟨t2.keep s3 (B4 _) (fun k x e _=>by rw [B8 _ _ (fr t2.sep e hbe2)];exact e),er,ec,⟨Jt,C3 _ _ _⟩,off1 t2 hbe2,i2⟩
 refine ⟨_,rfl,_,rfl,?_⟩
 clear t1
 have lh3:h.le (h2.put be (.cells (Value.agg #[I (n:Int),I (0:Int),.pointer (some ⟨T.bt,0,none⟩),.bool s2,.slice A2 n2 c2,.slice none 0 0,.slice none 0 0]).cells Jt)):=B0 lg1 (B0 l2 X3.t.sep.le)
 generalize (h2.put be (.cells (Value.agg #[I (n:Int),I (0:Int),.pointer (some ⟨T.bt,0,none⟩),.bool s2,.slice A2 n2 c2,.slice none 0 0,.slice none 0 0]).cells Jt))=h3 at *
 generalize (o1.put be (.cells (Value.agg #[I (n:Int),I (0:Int),.pointer (some ⟨T.bt,0,none⟩),.bool s2,.slice A2 n2 c2,.slice none 0 0,.slice none 0 0]).cells Jt))=o3 at *
 have lg2:h.le g2:=B0 lg1 l2
 have ewn:B5 ((n:Int)*(n:Int))=((n*n:Nat):Int):=by rw [<- C3e];exact L8 (by omega)
 rw [ewn]
 have ownbe:∀ {hh gg oo M k w z L D},El hh gg oo be T M (Tq E n) n k w z L D->∃ x,oo be=some x:=fun X=>by obtain ⟨e,he⟩:=X.hd;exact ⟨_,he⟩
 refine O3 B44 (zx:=Ib) rfl (by omega) (by omega) (by omega) (by omega) ?_
 intro bl hbl
 simp only [C38]
 refine ⟨_,_,_,rfl,_,rfl,?_⟩
 have nbl:be≠bl:=by obtain ⟨x,hx⟩:=ownbe X3;exact fr X3.t.sep hx hbl
 have X4:=X3.away (X3.t.sep.new hbl (.cells ((C37 (n*n) Ib).flatMap enc).toArray G7)) (off1 X3.t hbl) nbl (fun y hy=>B8 _ _ hy)
 have q4:QB g2 (o3.put bl (.cells ((C37 (n*n) Ib).flatMap enc).toArray G7)) bl (n*n) (fun _=>0):=⟨_,RowX.mk,C39,fun i hi=>⟨Ib,by rw [C3w,if_pos hi],RQ.zero⟩⟩
 have tl:=off1 X3.t hbl
 refine X4.set (n':=n) (k':=0) (w':=⟨s2,A2,n2,c2⟩) (z':=1) (L':=.slice (some ⟨bl,0,none⟩) (n*n) (n*n)) (D':=.slice none 0 0) (vs:=[.slice (some ⟨bl,0,none⟩) (n*n) (n*n)]) A8b rfl rfl (by intro x hx;simp only [C3o,C3j,or_false] at hx;subst hx;rfl) (by omega) rfl X4.last rfl ?_
 intro h5 o5 X5 ko5
 have q5:=q4.ko (B4 _) (ko5 _ nbl.symm)
 refine O3 B44 (zx:=Ib) rfl (by omega) (by omega) (by omega) (by omega) ?_
 intro bd hbd
 simp only [C38]
 refine ⟨_,_,_,rfl,_,rfl,?_⟩
 have nbd:be≠bd:=by obtain ⟨x,hx⟩:=ownbe X5;exact fr X5.t.sep hx hbd
 have nld:bl≠bd:=by obtain ⟨xs,⟨e,hx⟩,_⟩:=q5;exact fr X5.t.sep hx hbd
 have td:=off1 X5.t hbd
 have X6:=X5.away (X5.t.sep.new hbd (.cells ((C37 n Ib).flatMap enc).toArray G7)) td nbd (fun y hy=>B8 _ _ hy)
 have d6:QB g2 (o5.put bd (.cells ((C37 n Ib).flatMap enc).toArray G7)) bd n (fun _=>0):=⟨_,RowX.mk,C39,fun i hi=>⟨Ib,by rw [C3w,if_pos hi],RQ.zero⟩⟩
 have q6:=q5.ko (o':=o5.put bd (.cells ((C37 n Ib).flatMap enc).toArray G7)) (B4 _) (B8 _ _ nld)
 refine X6.set (n':=n) (k':=0) (w':=⟨s2,A2,n2,c2⟩) (z':=1) (L':=.slice (some ⟨bl,0,none⟩) (n*n) (n*n)) (D':=.slice (some ⟨bd,0,none⟩) n n) (vs:=[.slice (some ⟨bd,0,none⟩) n n]) A8b rfl rfl (by intro x hx;simp only [C3o,C3j,or_false] at hx;subst hx;rfl) (by omega) rfl X6.last rfl ?_
 intro h7 o7 X7 ko7
 have X0:Ld h7 g2 o7 be bl bd T E n 0 (Zg E n) ⟨s2,A2,n2,c2⟩ (A4g (mtx E n) n 0) (A4v (mtx E n) 0):=⟨X7,fun _ _ _ _ _=>rfl,(q6.ko (B4 _) (ko7 _ nbl.symm)).congr (fun i _=>by unfold A4g;rw [if_neg (by omega)]),(d6.ko (B4 _) (ko7 _ nbd.symm)).congr (fun i _=>by unfold A4v;rw [if_neg (by omega)]),tl,td,nbl,nbd,nld⟩
 clear X7 X6 X5 X4 X3 q6 d6 q5 q4 ko7 ko5
 have hQp:1<=Q:=by omega
 have ix:∀ {i j:Nat},i<n->j<n->B5 (B5 ((i:Int)*(n:Int))+(j:Int))=((i*n+j:Nat):Int):=fun {i j} hi hj=>by
  have:=K9 hi hj
  rw [<- C3e,L8 (by omega)]
  exact L8 (n:=i*n+j) (by omega)
 have ew1:∀ {i:Nat},i<n->B5 ((i:Int)+1)=((i+1:Nat):Int):=fun {i} hi=>by rw [B7]<;>omega
 refine ⟨fun L hq=>∃ (k:Nat) (g' o':Heap) (M:Nat->Nat->Int) (w:IV),k<=n/\L=[.bool true,I (k:Int)]/\h.le g'/\(∀ k',k'<k->Za (mtx E n) n k')/\Ld hq g' o' be bl bd T E n k M w (A4g (mtx E n) n k) (A4v (mtx E n) k),fun L _=>n-(iAt L 1).toNat,⟨0,g2,o7,_,_,by omega,rfl,lg2,fun k' hk'=>by omega,X0⟩,?_⟩
 clear X0
 rintro poss z5 hq ⟨k,g',o',M,w,hk,eL,lg,ok,X⟩
 simp only [C3z,Value.bool.injEq,C43,true_and,and_true] at eL
 obtain ⟨rfl,rfl⟩:=eL
 refine B6 (fun hlt=>?_) (fun hge=>by
  have:k=n:=by omega
  subst this
  exact hK1 ok hq g' o' be bl bd T M w (B0 lg X.e.t.sep.le) lg X)
 have hkn:k<n:=by omega
 have F:=ldF hs hQ1 sy hk ok
 refine X.at (gl.mono lg) F (C34 _) hkn hkn hQp (by omega) ?_
 intro w1 h1 g1 l1 s1 lh1 i1
 refine ⟨_,_,_,_,_,_,_,_,rfl,?_⟩
 have X1:=X.next s1 l1
 have lg1':h.le g1:=B0 lg l1
 refine FCall.mono (X1.partner F hkn (by omega)) ?_
 rintro r h1' ⟨rfl,a,b,rfl,hb1,hb0⟩
 have i1':RQ h1' w1 (ldA (mtx E n) k k k):=O0 _ _ _ _ s1.le i1
 refine ⟨_,_,rfl,fun L hx=>L=[.bool true]/\hx=h1'/\Za (mtx E n) n k,?_,?_⟩
 ·refine A2d i1' ⟨_,rfl,B6 (fun hneg=>?_) (fun hpos=>?_)⟩
  ·have hneg':=Uw.1 hneg
   exact hK0 k hkn ok (fun x=>absurd x.1 (by grind)) h1' g1 o' be bl bd T M w (B0 lg1' s1.le) lg1' X1
  ·have hnn:0<=ldA (mtx E n) k k k:=by
    have:¬ ldA (mtx E n) k k k<0:=fun c=>hpos (Uw.2 c)
    grind
   refine Fq i1' ⟨_,rfl,B6 (fun e0=>?_) (fun ne0=>⟨rfl,rfl,hnn,fun e=>absurd e ne0⟩)⟩
   cases b with
   | true=>
    obtain ⟨b1,b2,b3⟩:=hb1 rfl
    exact hK0 k hkn ok (fun x=>b3 (x.2 e0 a b1 b2)) h1' g1 o' be bl bd T M w (B0 lg1' s1.le) lg1' X1
   | false=>exact ⟨rfl,rfl,hnn,fun _ j c1 c2=>hb0 rfl j c1 c2⟩
 rintro p1 hx ⟨eL,rfl,okk⟩
 simp only [C3z,Value.bool.injEq,and_true] at eL
 subst eL
 have ok': ∀ k',k'<=k->Za (mtx E n) n k':=fun k' hk'=>by
  by_cases c:k'=k
  ·rw [c];exact okk
  ·exact ok k' (by omega)
 refine ⟨_,rfl,_,_,_,X1.e.c5,?_⟩
 refine s1.call (A25 (by omega) ?_)
 intro w2 g3 l3 i3 h4 s4
 refine ⟨_,_,_,_,_,_,_,_,rfl,s1.le_le s4 l3,_,rfl,?_⟩
 rw [ix hkn hkn]
 have X2:=X1.next s4 l3
 have hkk:=K9 hkn hkn
 refine ⟨by omega,by omega,?_⟩
 refine X2.storeL hkk (z:=1) i3 ?_
 intro h5 o5 X5
 refine ⟨_,rfl,_,_,_,X5.e.c6,_,rfl,by omega,by omega,?_⟩
 have i13:RQ g3 w1 (ldA (mtx E n) k k k):=O0 _ _ _ _ l3 i1
 refine X5.storeD hkn i13 ?_
 intro h6 o6 X6
 have X7:Ld h6 g3 o6 be bl bd T E n k M w (B6g (mtx E n) n k (k+1)) (A4v (mtx E n) (k+1)):=X6.congr (fun t ht=>by
  show (if t=k*n+k then 1 else A4g (mtx E n) n k t)=_
  unfold B6g
  have dm:=Nat.div_add_mod t n
  by_cases c:t=k*n+k
  ·obtain ⟨d1,d2⟩:=Lj (i:=k) hkn
   rw [if_pos c,c,d1,d2,if_pos ⟨rfl,by omega⟩,B6i]
  ·rw [if_neg c]
   by_cases c2:t%n=k/\t/n<k+1
   ·rw [if_pos c2]
    have hlt:t/n<k:=by
     refine C3u fun hno=>c ?_
     have:t/n=k:=by omega
     rw [c2.1,this,C3c] at dm
     exact dm.symm
    rw [B6j hlt]
    unfold A4g
    rw [if_neg (by omega)]
   ·rw [if_neg c2]) (fun t _=>by rw [<- A9l])
 clear X6 X5 X2 X1
 have lg3:h.le g3:=B0 lg1' l3
 refine Fq (O0 _ _ _ _ X7.e.t.sep.le i13) ⟨_,rfl,B6 (fun e0=>?_) (fun ne0=>?_)⟩
 ·refine ⟨_,rfl,_,X7.e.c1,_,rfl,?_⟩
  rw [ew1 hkn]
  refine X7.e.set (n':=n) (k':=k+1) (w':=w) (z':=(elP E n n k).last) (L':=.slice (some ⟨bl,0,none⟩) (n*n) (n*n)) (D':=.slice (some ⟨bd,0,none⟩) n n) (vs:=[I ((k+1:Nat):Int)]) A8c rfl rfl (by intro x hx;simp only [C3o,C3j,or_false] at hx;subst hx;rfl) (by omega) rfl X7.e.last rfl ?_
  intro h8 o8 Y ko
  have es:=A4t sy hkn ok' e0
  refine ⟨⟨k+1,g3,o8,M,w,by omega,rfl,lg3,fun k' hk'=>ok' k' (by omega),⟨by rw [es];exact Y,fun i j a b c=>by rw [es];exact X7.m i j (by omega) b c,(X7.l.ko (B4 _) (ko _ X7.el.symm)).congr (A4f _ (.inr ⟨e0,by omega⟩)),X7.d.ko (B4 _) (ko _ X7.ed.symm),X7.tl,X7.td,X7.el,X7.ed,X7.ld⟩⟩,?_⟩
  show n-((k+1:Nat):Int).toNat<n-((k:Nat):Int).toNat
  omega
 rw [ew1 hkn]
 refine ⟨fun L hx=>∃ (i:Nat) (g4 o4:Heap),k<i/\i<=n/\L=[I (i:Int)]/\g3.le g4/\Ld hx g4 o4 be bl bd T E n k M w (B6g (mtx E n) n k i) (A4v (mtx E n) (k+1)),fun L _=>n-(iAt L 0).toNat,⟨k+1,g3,o6,by omega,by omega,rfl,B4 _,X7⟩,?_⟩
 clear X7
 rintro z6 hx ⟨i,g4,o4,hi1,hi2,eL,l4,X8⟩
 obtain rfl:=sI1 eL
 have lg4:h.le g4:=B0 lg3 l4
 refine B6 (fun hlt2=>?_) (fun hge2=>?_)
 ·have hin:i<n:=by omega
  refine ⟨_,rfl,_,_,_,X8.e.c5,?_⟩
  refine X8.at (gl.mono lg4) F (by omega) hin hkn hQp (by omega) ?_
  intro w9 h9 g9 l9 s9 lh9 i9
  refine ⟨_,_,_,_,_,_,_,_,rfl,lh9,?_⟩
  refine s9.call (Uy (m:=Q) (gl.mono (B0 lg4 l9)).tz i9 (O0 _ _ _ _ (B0 l4 l9) i13) (F.zA i k (by omega) hin hkn) (F.zA k k (C34 _) hkn hkn) hQp (by omega) ?_)
  intro w10 g10 l10 i10 h10 s10
  refine ⟨_,_,_,_,_,_,_,_,rfl,s9.le_le s10 l10,_,rfl,?_⟩
  rw [ix hin hkn]
  have hik:=K9 hin hkn
  refine ⟨by omega,by omega,?_⟩
  refine ((X8.next s9 l9).next s10 l10).storeL hik i10 ?_
  intro h11 o11 X11
  rw [ew1 hin]
  refine ⟨⟨i+1,g10,o11,by omega,by omega,rfl,B0 l4 (B0 l9 l10),X11.congr (fun t ht=>?_) (fun _ _=>rfl)⟩,by simp only [Eu];omega⟩
  show (if t=i*n+k then ldA (mtx E n) k i k/ldA (mtx E n) k k k else B6g (mtx E n) n k i t)=_
  unfold B6g
  have dm:=Nat.div_add_mod t n
  by_cases c:t=i*n+k
  ·obtain ⟨d1,d2⟩:=Lj (i:=i) hkn
   rw [if_pos c,c,d1,d2,if_pos ⟨rfl,by omega⟩]
   unfold ldL
   rw [if_neg (by omega),if_neg (by omega),if_neg ne0]
  ·rw [if_neg c]
   by_cases c2:t%n=k/\t/n<i
   ·rw [if_pos c2,if_pos ⟨c2.1,by omega⟩]
   ·rw [if_neg c2,if_neg]
    rintro ⟨c3,c4⟩
    have:t/n=i:=by
     have:¬ t/n<i:=fun x=>c2 ⟨c3,x⟩
     omega
    rw [c3,this,C3c] at dm
    exact c dm.symm
 ·have ein:i=n:=by omega
  subst ein
  refine A10 (m:=Q) X8.e hkn (by omega) F.last (fun a b ka ha hb=>by rw [X8.m a b ka ha hb];exact F.zM a b ha hb) F.zl hQp hQ ?_
  intro h9 g9 o9 w9 l9 Y ko
  obtain ⟨es1,es2,_⟩:=A4s sy hkn ok ne0
  refine ⟨rfl,⟨k+1,g9,o9,_,w9,by omega,rfl,B0 lg4 l9,fun k' hk'=>ok' k' (by omega),⟨by rw [es2,<- X8.m k k (C34 _) hkn hkn];exact Y,fun i j a b c=>?_,(X8.l.ko l9 (ko _ X8.tl X8.el.symm)).congr (A4f _ (.inl rfl)),X8.d.ko l9 (ko _ X8.td X8.ed.symm),X8.tl,X8.td,X8.el,X8.ed,X8.ld⟩⟩,?_⟩
  ·rw [if_pos (show k<i by omega),es1 i j (by omega) b,X8.m k k (C34 _) hkn hkn,X8.m i j (by omega) b c,X8.m i k (by omega) b hkn,X8.m k j (C34 _) hkn c]
  ·show i-((k+1:Nat):Int).toNat<i-((k:Nat):Int).toNat
   omega
end
def ns(f:Nat->Nat):Nat->Nat
 | 0=>0
 | n+1=>ns f n+f n
def C31(A:Nat->Nat->Rat)(n k:Nat)(v:Nat->Rat):Prop:=
 (v k=1/\(∀ i,k<i->i<n->v i=0)/\ldA A k k k<0)\/
 (∃ p,k<p/\p<n/\v p=1/\(∀ i,k<i->i<n->i≠p->v i=0)/\ldA A k k k=0/\ldA A k p k≠0/\v k=(ldA A k p p+1)/(ldA A k p k * -2))
def C2u(n k Q:Nat):Nat:=(n-k)*(2*Q+2)+4*Q+10
structure Wv (E:Nat->Rat) (n k Q t:Nat) (v:Nat->Rat) (s:Nat->Nat):Prop where
 seed:C31 (mtx E n) n k v
 low:∀ i,i<t->v i=0
 zero:∀ m,t<=m->m<k->sm n (fun i=>ldL (mtx E n) i m*v i)=0
 sz:∀ i,i<n->Sz (s i) (v i)
 tot:ns (fun i=>if i<t then 0 else 2*Q+1+s i) n+(2*Q+2)<=2^(k-t)*C2u n k Q
theorem B0i:Sz 1 (1:Rat):=(⟨ZB.one (C34 1),ZB.one (C34 1)⟩:Sz 1 1)
theorem B8o{E:Nat->Rat}{n Q m:Nat}(F:LdF E n m Q)(hm:m<n)(hQ:1<=Q){i:Nat}(hi:i<n):Sz (2*Q) (ldL (mtx E n) i m):=by
 unfold ldL
 by_cases c:i=m
 ·rw [if_pos c];exact B0i.mono (by omega)
 ·rw [if_neg c]
  by_cases c2:i<m
  ·rw [if_pos c2];exact (Sz.zero (C34 1)).mono (by omega)
  ·rw [if_neg c2]
   split
   ·exact (Sz.zero (C34 1)).mono (by omega)
   ·exact ((F.zA i m (by omega) hi hm).div (F.zA m m (C34 _) hm hm) hQ).mono (by omega)
section
variable {h g o:Heap} {be bl bd bv:Nat} {T:Tb} {E:Nat->Rat} {n k Q W m:Nat} {M:Nat->Nat->Int} {w:IV} {K:VP}
structure Lv (h g o:Heap) (be bl bd bv:Nat) (T:Tb) (E:Nat->Rat) (n k:Nat) (M:Nat->Nat->Int) (w:IV) (v:Nat->Rat):Prop where
 x:Ld h g o be bl bd T E n k M w (A4g (mtx E n) n k) (A4v (mtx E n) k)
 q:QB g o bv n v
 t:¬ onT T bv
 e:be≠bv
 l:bl≠bv
 d:bd≠bv
end
def SymT(q:Nat)(ls:Nat->List UInt8):Prop:=∀ i j,i<q->j<i->ls (i*q+j)=ls (j*q+i)
def B9j(r c:Int)(n:Nat)(ls:Nat->List UInt8)(q:Nat):Prop:=MOk r c n ls q q/\SymT q ls
def SqE(r c:Int)(n:Nat)(ls:Nat->List UInt8)(e:Int):Prop:=(¬ Mx r c n ls/\e=1)\/(Mx r c n ls/\(¬ ∃ q,B9j r c n ls q)/\e=4)
theorem SymT.symm{q:Nat}{ls:Nat->List UInt8}(h:SymT q ls):A6k q (mtx (rvs ls) q):=fun i j hi hj=>by
 show rv (ls (i*q+j))=rv (ls (j*q+i))
 rcases Nat.lt_trichotomy i j with c|c|c
 ·rw [h j i hj c]
 ·rw [c]
 ·rw [h i j hi c]
section
variable {h:Heap} {K:VP} {A:Option Addr} {n cap m:Nat} {r c:Int} {ls:Nat->List UInt8}
theorem MOk.sq{q q':Nat}(mk:MOk r c n ls q q')(e:r=c):q=q':=by have:=mk.er;have:=mk.ec;omega
theorem A62(gl:Gl h)(rv':RowV SSr h A n ls)(hn:n<=1000000)(hl:∀ i,i<n->(ls i).length<=100000000)
 (hK1:∀ q,B9j r c n ls q->∀ b h',Own RQr h h' b (q*q) (rvs ls)->K (.tuple #[.slice (some ⟨b,0,none⟩) (q*q) (q*q),I 0]) h')
 (hK0:∀ e,SqE r c n ls e->∀ h',h.le h'->K (.tuple #[.slice none 0 0,I e]) h'):FCall prog A35 #[Jl r c A n cap] h K:=by
 refine B41 _ _ _ _ _ ?_
 unfold C03
 refine Cq gl rv' hn hl ?_ (fun hno h1 l1=>⟨_,_,_,_,rfl,hK0 1 (.inl ⟨hno,rfl⟩) h1 l1⟩)
 intro q q' mk b h1 own
 refine ⟨_,_,_,_,rfl,?_⟩
 show Br _ _ _
 refine H1 (fun hne=>hK0 4 (.inr ⟨⟨_,_,mk⟩,(fun ⟨a,x,_⟩=>hne (by have:=x.er;have:=x.ec;omega)),rfl⟩) h1 own.le) (fun heq=>?_)
 obtain rfl:=mk.sq heq
 have:=mk.r2
 obtain ⟨rfl,rfl,_,_,_,_,rfl,hnum⟩:=id mk
 have sv:RowV SSr h1 A (q*q) ls:=rv'.mono N4 own.le
 have hqq:q*q<=64*64:=C3b (by omega) (by omega)
 have ix:∀ {i j:Nat},i<q->j<q->B5 (B5 ((i:Int)*(q:Int))+(j:Int))=((i*q+j:Nat):Int):=fun {i j} hi hj=>by
  have:=K9 hi hj
  rw [<- C3e,L8 (by omega)]
  exact L8 (n:=i*q+j) (by omega)
 have bad:∀ {i j:Nat},i<q->j<i->ls (i*q+j)≠ls (j*q+i)->¬ ∃ a,B9j (q:Int) (q:Int) (q*q) ls a:=by
  rintro i j hi hj hne ⟨a,x,y⟩
  obtain rfl:a=q:=by have:=x.er;omega
  exact hne (y i j hi hj)
 refine ⟨fun L hp=>∃ i:Nat,i<=q/\L=[I (i:Int)]/\hp=h1/\∀ a b,a<i->b<a->ls (a*q+b)=ls (b*q+a),fun L _=>q-(iAt L 0).toNat,⟨0,by omega,rfl,rfl,fun a b ha=>by omega⟩,?_⟩
 rintro z hp ⟨i,hi,eL,rfl,hh⟩
 obtain rfl:=sI1 eL
 refine B6 (fun hlt=>?_) (fun hge=>hK1 q ⟨mk,fun a b ha hb=>hh a b (by omega) hb⟩ b hp own)
 have hiq:i<q:=by omega
 refine ⟨fun L hx=>∃ j:Nat,j<=i/\L=[I (j:Int)]/\hx=hp/\∀ b,b<j->ls (i*q+b)=ls (b*q+i),fun L _=>i-(iAt L 0).toNat,⟨0,by omega,rfl,rfl,fun b hb=>by omega⟩,?_⟩
 rintro z2 hx ⟨j,hj,eL,rfl,hg⟩
 obtain rfl:=sI1 eL
 refine B6 (fun hlt2=>?_) (fun hge2=>?_)
 ·have hji:j<i:=by omega
  have i1:=K9 hiq (show j<q by omega)
  have i2:=K9 (show j<q by omega) hiq
  obtain ⟨u,rfl,hc⟩:=sv.sat i1
  obtain ⟨u',eu,hd⟩:=sv.sat i2
  simp only [Option.some.injEq] at eu
  subst eu
  rw [ix hiq (show j<q by omega),ix (show j<q by omega) hiq]
  refine ⟨_,rfl,by omega,by omega,_,hc,_,rfl,by omega,by omega,_,hd,?_⟩
  rw [Gn]
  refine O5 (B6 (fun e=>?_) (fun e=>hK0 4 (.inr ⟨⟨_,_,mk⟩,bad hiq hji e,rfl⟩) hx own.le))
  rw [wiS j (by omega)]
  refine ⟨⟨j+1,by omega,rfl,rfl,fun b hb=>?_⟩,by simp only [Eu];omega⟩
  by_cases c:b=j
  ·rw [c];exact e
  ·exact hg b (by omega)
 ·rw [wiS i (by omega)]
  refine ⟨⟨i+1,by omega,rfl,rfl,fun a b ha hb=>?_⟩,by simp only [Eu];omega⟩
  by_cases c:a=i
  ·rw [c];exact hg b (by omega)
  ·exact hh a b (by omega) hb
structure FacV (h:Heap) (q:Nat) (A1:Option Addr) (A2:Option Addr) (E:Nat->Rat):Prop where
 l:RowV SSr h A1 (q*q) (fun t=>K3 (A4g (mtx E q) q q t))
 d:RowV SSr h A2 q (fun t=>K3 (A4v (mtx E q) q t))
theorem Ow{Q:Nat}(gl:Gl h)(rv':RowV SSr h A n ls)(hn:n<=1000000)(hl:∀ i,i<n->(ls i).length<=100000000)(hs:∀ i,i<n->Sz m (rv (ls i)))(hb:∀ q,MOk r c n ls q q->3^q*bnd q m+bnd q m<=Q)(hQ:Q<=20000000)
 (hK1:∀ q,B9j r c n ls q->(∀ k,k<q->Za (mtx (rvs ls) q) q k)->∀ b1 b2 h',h.le h'->FacV h' q (some ⟨b1,0,none⟩) (some ⟨b2,0,none⟩) (rvs ls)->K (.tuple #[.agg #[I r,I c,.slice (some ⟨b1,0,none⟩) (q*q) (q*q),.slice (some ⟨b2,0,none⟩) q q],.bool true,I 0]) h')
 (hK2:∀ q,B9j r c n ls q->(¬ ∀ k,k<q->Za (mtx (rvs ls) q) q k)->∀ h',h.le h'->K (.tuple #[.agg #[I 0,I 0,.slice none 0 0,.slice none 0 0],.bool false,I 0]) h')
 (hK0:∀ e,SqE r c n ls e->∀ h',h.le h'->K (.tuple #[.agg #[I 0,I 0,.slice none 0 0,.slice none 0 0],.bool false,I e]) h'):FCall prog Lg #[Jl r c A n cap] h K:=by
 refine A6x _ _ _ _ _ ?_
 unfold B1f
 refine A62 gl rv' hn hl ?_ (fun e he h1 l1=>⟨_,_,_,_,rfl,H1 (fun _=>hK0 e he h1 l1) (fun e0=>by rcases he with ⟨_,x⟩|⟨_,_,x⟩<;>omega)⟩)
 intro q sq b h1 own
 obtain ⟨mk,st⟩:=id sq
 have hbq:=hb q mk
 have:=mk.r1;have:=mk.r2
 obtain ⟨rfl,rfl,_,_,_,_,rfl,hnum⟩:=id mk
 refine ⟨_,_,_,_,rfl,H1 (fun hne=>absurd rfl hne) (fun _=>?_)⟩
 refine Ua (Q:=Q) (gl.mono own.le) (own.vis O0) (C34 _) (by omega) (by omega) st.symm hs hbq (by omega) ?_ ?_
 ·intro ok h2 g2 o2 be bl bd T M w lh lg X
  have hqq:q*q<=64*64:=C3b (by omega) (by omega)
  have hQp:1<=Q:=by unfold bnd at hbq;omega
  have F:=fun k (hk:k<=q)=>ldF hs hbq st.symm hk fun m hm=>ok m (by omega)
  have g02:Gl g2:=gl.mono (B0 own.le lg)
  refine ⟨_,_,rfl,?_⟩
  show Br false _ _
  refine ⟨_,rfl,_,_,_,X.e.c5,?_⟩
  have gh2:Gl h2:=gl.mono (B0 own.le lh)
  refine Bq (m:=2*Q) gh2 (X.l.rowV X.e.t.sep) (by omega) (fun i hi=>?_) (by omega) ?_
  ·unfold A4g
   have hm:i%q<q:=C3p _ (by omega)
   rw [if_pos hm]
   exact B8o (F _ (by omega)) hm hQp (C3a hi)
  intro b3 h3 own3
  refine ⟨_,_,_,rfl,own3.le,_,rfl,_,_,_,B9 own3.le X.e.c6,?_⟩
  refine Bq (m:=Q) (gh2.mono own3.le) ((X.d.rowV X.e.t.sep).mono O0 own3.le) (by omega) (fun i hi=>?_) (by omega) ?_
  ·unfold A4v ldD
   rw [if_pos hi]
   exact (F i (by omega)).zA i i (C34 _) hi hi
  intro b4 h4 own4
  exact ⟨_,_,_,rfl,own4.le,hK1 q sq ok b3 b4 h4 (B0 (B0 own.le lh) (B0 own3.le own4.le)) ⟨(own3.vis N4).mono N4 own4.le,own4.vis N4⟩⟩
 ·intro k hk ok hno h2 g2 o2 be bl bd T M w lh lg X
  refine ⟨_,_,rfl,?_⟩
  show Br true _ _
  exact hK2 q sq (fun x=>hno (x k hk)) h2 (B0 own.le lh)
end
theorem Pf{X Y:Prop}(x:X):Br true X Y:=x
theorem C05:K3 0=[48]:=A7e
theorem C2v:K3 (1/2)=[49,47,50]:=by
 have e1:L9 1=[49]:=by decide +kernel
 have e2:L9 2=[50]:=by decide +kernel
 have h1:(1/2:Rat).den=2:=by decide +kernel
 have h2:(1/2:Rat).num=1:=by decide +kernel
 simp [K3,Io,e1,e2,h1,h2]
abbrev E4:Nat->Rat:=fun i=>([4,2,2,1]:List Rat).getD i 0
abbrev E0:Nat->Rat:=fun i=>([0,1,1,0]:List Rat).getD i 0
theorem aw4:ldA (mtx E4 2) 0 0 0=4/\ldA (mtx E4 2) 1 1 1=0:=by decide +kernel
theorem aw5:∀ t,t<4->A4g (mtx E4 2) 2 2 t=([1,0,1/2,1]:List Rat).getD t 0:=by decide +kernel
theorem aw6:∀ t,t<2->A4v (mtx E4 2) 2 t=([4,0]:List Rat).getD t 0:=by decide +kernel
theorem aw7:ldA (mtx E0 2) 0 0 0=0/\ldA (mtx E0 2) 0 1 0≠0:=by decide +kernel
theorem C1j:∀ k,k<2->Za (mtx E4 2) 2 k:=by
 intro k hk
 have h:=aw4
 by_cases c:k=0
 ·subst c
  exact ⟨by rw [h.1];decide +kernel,fun e=>by rw [h.1] at e;exact absurd e (by decide +kernel)⟩
 ·have:k=1:=by omega
  subst this
  exact ⟨by rw [h.2];exact Rat.le_refl,fun _ i h1 h2=>by omega⟩
theorem C1k:¬ ∀ k,k<2->Za (mtx E0 2) 2 k:=fun x=>aw7.2 ((x 0 (by omega)).2 aw7.1 1 (by omega) (by omega))
theorem A8n(l:List Rat)(hl:∀ q∈l,(K3 q).length<=1){i:Nat}(hi:i<(l.map K3).length):((l.map K3).getD i []).length<=1:=by
 rw [C3s,C3v hi]
 have hi':i<l.length:=by simpa using hi
 simp only [List.getElem_map,Option.getD_some]
 exact hl _ (List.getElem_mem hi')
theorem Rf(l:List Rat){i:Nat}(hi:i<l.length):(l.map K3).getD i []=K3 (l.getD i 0):=by
 rw [C3s,C3s,List.getElem?_map,C3v hi]
 rfl
theorem C1w(l:List Rat)(hl:l.length=4):MOk 2 2 4 (fun i=>(l.map K3).getD i []) 2 2:=by
 refine MOk.of (r:=2) (c:=2) ⟨by omega,by omega,by omega,by omega,by omega⟩ fun i hi=>⟨l.getD i 0,Rf l (by omega)⟩
theorem B8a(l:List Rat)(hl:l.length=4)(e:l.getD 2 0=l.getD 1 0):SymT 2 (fun i=>(l.map K3).getD i []):=fun i j hi hj=>by
 have h1:i=1:=by omega
 have h2:j=0:=by omega
 subst h1
 subst h2
 show (l.map K3).getD 2 []=(l.map K3).getD 1 []
 rw [Rf l (by omega),Rf l (by omega),e]
theorem Sm{h:Heap}{K:VP}(gl:Gl h)(hK:∀ h',h.le h'->K (.bool true) h'):FCall prog W4 #[] h K:=by
 refine B0q ?_
 unfold B5a
 have b4:∀ q,MOk 2 2 4 (fun i=>(([4,2,2,1]:List Rat).map K3).getD i []) q q->3^q*bnd q 4+bnd q 4<=1000:=fun q mk=>by
  have:=mk.er
  have:q=2:=by omega
  subst this
  decide
 have b0:∀ q,MOk 2 2 4 (fun i=>(([0,1,1,0]:List Rat).map K3).getD i []) q q->3^q*bnd q 4+bnd q 4<=1000:=fun q mk=>by
  have:=mk.er
  have:q=2:=by omega
  subst this
  decide
 have mk4:=C1w [4,2,2,1] rfl
 have mk0:=C1w [0,1,1,0] rfl
 have st4:=B8a [4,2,2,1] rfl rfl
 have st0:=B8a [0,1,1,0] rfl rfl
 have ne4:∀ e,¬ SqE 2 2 4 (fun i=>(([4,2,2,1]:List Rat).map K3).getD i []) e:=fun e x=>by
  rcases x with ⟨x,_⟩|⟨_,x,_⟩
  ·exact x ⟨_,_,mk4⟩
  ·exact x ⟨2,mk4,st4⟩
 have ne0:∀ e,¬ SqE 2 2 4 (fun i=>(([0,1,1,0]:List Rat).map K3).getD i []) e:=fun e x=>by
  rcases x with ⟨x,_⟩|⟨_,x,_⟩
  ·exact x ⟨_,_,mk0⟩
  ·exact x ⟨2,mk0,st0⟩
 have z4:∀ {i:Nat},i<4->((([4,2,2,1]:List Rat).map K3).getD i []).length<=1:=fun {i} hi=>A8n _ (by simp [B87,C1t,C0q]) (by simpa using hi)
 have z0:∀ {i:Nat},i<4->((([0,1,1,0]:List Rat).map K3).getD i []).length<=1:=fun {i} hi=>A8n _ (by simp [B87,C05]) (by simpa using hi)
 refine Xc Ag (ls:=[4,2,2,1].map K3) rfl (by simp) (by rw [show ([4,2,2,1]:List Rat).map K3=[[52],[50],[50],[49]] by simp [B87,C1t,C0q]];rfl) ?_
 intro b1 h1 l1 s1
 have r1:=Fp s1
 refine ⟨_,_,_,rfl,?_⟩
 refine Ow (m:=4) (Q:=1000) (gl.mono l1) r1 (by simp) (fun i hi=>Nat.le_trans (z4 (by simpa using hi)) (by omega)) (fun i hi=>B2f (k:=1) (z4 (by simpa using hi)) (by omega)) b4 (by omega) ?_ (fun q sq hno _ _=>?_) (fun e he _ _=>absurd he (ne4 e))
 rotate_left
 ·obtain rfl:q=2:=by have:=sq.1.er;omega
  rw [Wq] at hno
  exact absurd C1j hno
 intro q sq ok1 c1 c2 h2 l2 fv
 obtain rfl:q=2:=by have:=sq.1.er;omega
 have fl:=fv.l
 have fd:=fv.d
 rw [Wq] at fl fd
 refine ⟨_,_,_,_,_,_,_,_,_,_,rfl,?_⟩
 refine Xc Ag (ls:=[0,1,1,0].map K3) rfl (by simp) (by rw [show ([0,1,1,0]:List Rat).map K3=[[48],[49],[49],[48]] by simp [B87,C05]];rfl) ?_
 intro b3 h3 l3 s3
 have r3:=Fp s3
 have l13:=B0 l1 (B0 l2 l3)
 refine ⟨_,_,_,rfl,?_⟩
 refine Ow (m:=4) (Q:=1000) (gl.mono l13) r3 (by simp) (fun i hi=>Nat.le_trans (z0 (by simpa using hi)) (by omega)) (fun i hi=>B2f (k:=1) (z0 (by simpa using hi)) (by omega)) b0 (by omega) (fun q sq ok _ _ _ _ _=>?_) ?_ (fun e he _ _=>absurd he (ne0 e))
 ·obtain rfl:q=2:=by have:=sq.1.er;omega
  rw [Wq] at ok
  exact absurd ok C1k
 intro q sq0 _ h4 l4
 refine ⟨_,_,_,_,_,_,_,_,_,_,rfl,Pf (Pf ?_)⟩
 refine Xc Ag (ls:=[4,0].map K3) rfl (by simp) (by rw [show ([4,0]:List Rat).map K3=[[52],[48]] by simp [C0q,C05]];rfl) ?_
 intro b5 h5 l5 s5
 have r5:=Fp s5
 refine ⟨_,_,_,rfl,?_⟩
 have l25:=B0 l3 (B0 l4 l5)
 refine Dv (fd.mono N4 l25) r5 (by omega) (fun _ _=>⟨_,rfl,Pf ?_⟩) (fun hno=>absurd ⟨by simp,fun i hi=>?_⟩ hno)
 rotate_left
 ·rw [Rf _ (by simpa using hi),aw6 i hi]
 refine Xc Ag (ls:=[1,0,1/2,1].map K3) rfl (by simp) (by rw [show ([1,0,1/2,1]:List Rat).map K3=[[49],[48],[49,47,50],[49]] by simp only [List.map_cons,List.map_nil,B87,C05,C2v]];rfl) ?_
 intro b6 h6 l6 s6
 have r6:=Fp s6
 refine ⟨_,_,_,rfl,?_⟩
 refine Dv (fl.mono N4 (B0 l25 l6)) r6 (by omega) (fun _ _=>⟨_,rfl,Pf (Pf ?_)⟩) (fun hno=>absurd ⟨by simp,fun i hi=>?_⟩ hno)
 rotate_left
 ·rw [Rf _ (by simpa using hi),aw5 i hi]
 exact hK h6 (B0 l13 (B0 l4 (B0 l5 l6)))
section
variable {h:Heap} {A:Option Addr} {n cap:Nat} {r c:Int} {ls:Nat->List UInt8}
theorem A7s{m:Nat}(sm:Small r c n ls 5 12)(hm:m=48):(∀ i,i<n->(ls i).length<=100000000)/\(∀ i,i<n->Sz m (rv (ls i)))/\n<=1000000/\∀ rows cols,MOk r c n ls rows cols->rows<=5/\cols<=5:=by
 subst hm
 refine ⟨fun i hi=>by have:=sm.hl i hi;omega,fun i hi=>B2f (k:=12) (by have:=sm.hl i hi;omega) (by omega),by have:=sm.hn;omega,fun rows cols mk=>⟨by have:=mk.er;have:=sm.hr;omega,by have:=mk.ec;have:=sm.hc;omega⟩⟩
end
section
variable {h:Heap} {K:VP} {A:Option Addr} {n cap m w:Nat} {r c:Int} {ls:Nat->List UInt8} {R:Nat->Nat->Rat}
theorem Ro(hn:n<=10000)(hw:w<=10000)
 (hK:∀ h' g' o' bo rb,h.le g'->Mt h' g' o' bo rb n w (fun _ _=>0)->K (.slice (some ⟨bo,0,none⟩) n n) h'):FCall prog Qe #[I (n:Int),I (w:Int)] h K:=by
 refine B1e _ _ ?_
 unfold B5n
 refine O3 C1u (zx:=(⟨none,0,0⟩:HV)) rfl (by omega) (by omega) (by omega) (by omega) ?_
 intro bo hbo
 simp only [C38]
 refine ⟨_,_,_,rfl,fun L hp=>∃ (k:Nat) (g o:Heap) (hd:List HV) (rb:Nat->Nat),k<=n/\L=[I (k:Int)]/\h.le g/\Sep hp g o/\RowX o bo hd/\hd.length=n/\(∀ i,i<k->hd[i]? = some ⟨some ⟨rb i,0,none⟩,w,w⟩)/\(∀ i,i<k->rb i≠bo)/\(∀ i j,i<k->j<k->rb i=rb j->i=j)/\(∀ i,i<k->RowX o (rb i) (C37 w Ib)),fun L _=>n-(iAt L 0).toNat,
  ⟨0,h,Ig.put bo _,C37 n ⟨none,0,0⟩,fun _=>0,by omega,rfl,B4 _,Di hbo,RowX.mk,C39,fun i hi=>by omega,fun i hi=>by omega,fun i j hi=>by omega,fun i hi=>by omega⟩,?_⟩
 rintro z hp ⟨k,g,o,hd,rb,hk,eL,lg,s,rx,hl,h1,h2,h3,h4⟩
 obtain rfl:=sI1 eL
 refine B6 (fun hlt=>?_) (fun hge=>?_)
 ·have hkn:k<n:=by omega
  refine O3 B89 (zx:=Ib) rfl (by omega) (by omega) (by omega) (by omega) ?_
  intro b2 hb2
  simp only [C38]
  have ob2:∀ q x,o q=some x->q≠b2:=by
   rintro q x e rfl
   rw [s.own q x e] at hb2;cases hb2
  have nbo:bo≠b2:=by obtain ⟨e,he⟩:=rx;exact ob2 _ _ he
  have nrb:∀ i,i<k->rb i≠b2:=fun i hi=>by obtain ⟨e,he⟩:=h4 i hi;exact ob2 _ _ he
  refine ⟨_,_,_,rfl,_,rfl,by omega,by omega,?_⟩
  refine Dh A41 (y:=(⟨some ⟨b2,0,none⟩,w,w⟩:HV)) rfl (s.new hb2 _) (rx.other nbo _) (i:=k) (by omega) ?_
  intro h5 o5 x5 eo5 s5 rx5
  rw [wiS k (by omega)]
  refine ⟨⟨k+1,g,o5,_,fun i=>if i=k then b2 else rb i,by omega,rfl,lg,s5,rx5,by rw [C3y];exact hl,fun i hi=>?_,fun i hi=>?_,fun i j hi hj e=>?_,fun i hi=>?_⟩,by simp only [Eu];omega⟩
  ·show (hd.set k _)[i]? = some (⟨some ⟨if i=k then b2 else rb i,0,none⟩,w,w⟩:HV)
   by_cases e:i=k
   ·subst e
    rw [if_pos rfl,List.getElem?_set_self (by omega)]
   ·rw [if_neg e,List.getElem?_set_ne (fun x=>e x.symm)]
    exact h1 i (by omega)
  ·show (if i=k then b2 else rb i)≠bo
   by_cases e:i=k
   ·rw [if_pos e];exact nbo.symm
   ·rw [if_neg e];exact h2 i (by omega)
  ·change (if i=k then b2 else rb i)=(if j=k then b2 else rb j) at e
   by_cases e1:i=k
   ·by_cases e2:j=k
    ·omega
    ·rw [if_pos e1,if_neg e2] at e
     exact absurd e.symm (nrb j (by omega))
   ·by_cases e2:j=k
    ·rw [if_neg e1,if_pos e2] at e
     exact absurd e (nrb i (by omega))
    ·rw [if_neg e1,if_neg e2] at e
     exact h3 i j (by omega) (by omega) e
  ·show RowX o5 (if i=k then b2 else rb i) _
   by_cases e:i=k
   ·rw [if_pos e,eo5]
    exact RowX.mk.other nbo.symm _
   ·rw [if_neg e,eo5]
    exact ((h4 i (by omega)).other (nrb i (by omega)) _).other (h2 i (by omega)) _
 ·have:k=n:=by omega
  subst this
  refine hK hp g o bo rb lg ⟨s,⟨hd,rx.rowB,hl,fun i hi=>⟨w,h1 i hi,C34 _⟩⟩,h2,h3,fun i hi=>⟨_,(h4 i hi).rowB,C39,fun j hj=>⟨Ib,by rw [C3w,if_pos hj],NQ.zero⟩⟩⟩
theorem Nw{α:Type}[E:Enc α]{o:Heap}{b:Nat}{e:TypeId}{c:Nat}{zx:α}:OwnSl (o.put b (.cells ((C37 c zx).flatMap enc).toArray e)) e (some ⟨b,0,none⟩) c ([]:List α):=
 ⟨Nat.zero_le _,.inr ⟨b,_,rfl,C3 _ _ _,by rw [J9,C39],by simp⟩⟩
theorem A0b{rows cols:Nat}(rv':RowV SSr h A (rows*cols) ls)(hr:rows<=10000)(hc:cols<=10000)
 (hK:∀ A' c' h' g' o' xs,h.le g'->Sep h' g' o'->OwnSl o' K7 A' c' xs->xs.length=rows*cols->Row SSr g' xs (rows*cols) (fun k=>ls (k%rows*cols+k/rows))->K (.slice A' (rows*cols) c') h'):FCall prog Ef #[.slice A (rows*cols) cap,I (rows:Int),I (cols:Int)] h K:=by
 refine Um _ _ _ _ _ ?_
 unfold Tl
 have hrc:rows*cols<=10000*10000:=C3b hr hc
 refine O3 Ag (zx:=([]:List UInt8)) rfl (by omega) (by omega) (by omega) (by omega) ?_
 intro b hb
 simp only [C38]
 refine ⟨_,_,_,rfl,fun L hp=>∃ (j:Nat) (g o:Heap) (xs:List (List UInt8)) (A':Option Addr) (c':Nat),j<=cols/\L=[.slice A' (j*rows) c',I (j:Int)]/\h.le g/\Sep hp g o/\OwnSl o K7 A' c' xs/\xs.length=j*rows/\Row SSr g xs (j*rows) (fun k=>ls (k%rows*cols+k/rows)),fun L _=>cols-(iAt L 1).toNat,
  ⟨0,h,Ig.put b _,[],some ⟨b,0,none⟩,rows*cols,by omega,by rw [C3t];rfl,B4 _,Di hb,Nw,by simp,by rw [C3t];exact Row.nil⟩,?_⟩
 rintro rA rn rc z hp ⟨j,g,o,xs,A',c',hj,eL,lg,s,ow,hxl,rr⟩
 obtain ⟨⟨rfl,rfl,rfl⟩,rfl⟩:=sI2 eL
 refine B6 (fun hlt=>?_) (fun hge=>?_)
 ·have hjc:j<cols:=by omega
  have hj1:(j+1)*rows=j*rows+rows:=by rw [C3r,C41]
  have hjr:(j+1)*rows<=cols*rows:=C35 _ hjc
  rw [C3c cols rows] at hjr
  refine ⟨fun L hp=>∃ (i:Nat) (g o:Heap) (xs:List (List UInt8)) (A':Option Addr) (c':Nat),i<=rows/\L=[.slice A' (j*rows+i) c',I (i:Int)]/\h.le g/\Sep hp g o/\OwnSl o K7 A' c' xs/\xs.length=j*rows+i/\Row SSr g xs (j*rows+i) (fun k=>ls (k%rows*cols+k/rows)),fun L _=>rows-(iAt L 1).toNat,
   ⟨0,g,o,xs,rA,rc,by omega,rfl,lg,s,ow,hxl,rr⟩,?_⟩
  rintro qA qn qc z hp2 ⟨i,g2,o2,ys,A2,c2,hi,eL,lg2,s2,ow2,hyl,rr2⟩
  obtain ⟨⟨rfl,rfl,rfl⟩,rfl⟩:=sI2 eL
  refine B6 (fun hlt2=>?_) (fun hge2=>?_)
  ·have hir:i<rows:=by omega
   have hidx:=K9 hir hjc
   have ew:B5 (B5 ((i:Int)*(cols:Int))+(j:Int))=((i*cols+j:Nat):Int):=by
    rw [<- C3e,L8 (by omega)]
    exact L8 (n:=i*cols+j) (by omega)
   rw [ew]
   obtain ⟨a,ea,hc1⟩:=(rv'.mono N4 (B0 lg2 s2.le)).sat hidx
   refine ⟨a,ea,by omega,by omega,_,hc1,?_⟩
   refine Jj (ty:=In) Ag s2 ow2 hyl.symm (y:=ls (i*cols+j)) rfl (by decide) (by rw [hyl];omega) (by rw [hyl];omega) ?_
   intro A3 c3 h3 g3 o3 l3 s3 ow3 _
   rw [hyl,wiS i (by omega)]
   refine ⟨⟨i+1,g3,o3,_,A3,c3,by omega,by rw [Nat.add_assoc],B0 lg2 l3,s3,ow3,by rw [C3f,hyl];rfl,?_⟩,?_⟩
   ·have rB:=Row.push (R:=SSr) (g:=g3) (xs:=ys) (f:=fun k=>ls (k%rows*cols+k/rows)) (by rw [hyl];exact rr2.mono N4 l3) (w:=ls (i*cols+j)) (by
     show ls (i*cols+j)=ls (ys.length%rows*cols+ys.length/rows)
     rw [hyl,C3x (j*rows) i,C3d,C3h hir,C3g _ _ (by omega),C3i hir,C3k])
    rw [C3f,hyl] at rB
    exact rB
   ·show rows-((i+1:Nat):Int).toNat<rows-(i:Int).toNat
    omega
  ·have:i=rows:=by omega
   subst this
   rw [wiS j (by omega),<- hj1]
   rw [<- hj1] at hyl rr2
   refine ⟨⟨j+1,g2,o2,ys,qA,qc,by omega,rfl,lg2,s2,ow2,hyl,rr2⟩,?_⟩
   show cols-((j+1:Nat):Int).toNat<cols-(j:Int).toNat
   omega
 ·have:j=cols:=by omega
  subst this
  rw [C3c j rows] at hxl rr ⊢
  exact hK rA rc hp g o xs lg s ow hxl rr
def OwnS(h h':Heap)(A:Option Addr)(c n:Nat)(f:Nat->List UInt8):Prop:=∃ g o xs,h.le g/\Sep h' g o/\OwnSl o K7 A c xs/\xs.length=n/\Row SSr g xs n f
theorem OwnS.le{h h':Heap}{c n:Nat}{f:Nat->List UInt8}(w:OwnS h h' A c n f):h.le h':=by
 obtain ⟨g,o,xs,lg,s,_⟩:=w
 exact B0 lg s.le
theorem OwnS.vis{h h':Heap}{c n:Nat}{f:Nat->List UInt8}(w:OwnS h h' A c n f):RowV SSr h' A n f:=by
 obtain ⟨g,o,xs,lg,s,ow,e,q⟩:=w
 exact ⟨xs,ow.slF s.ole,e,q.mono N4 s.le⟩
theorem Rc(gl:Gl h)(rv':RowV SSr h A n ls)(hn:n<=1000000)(hl:∀ i,i<n->(ls i).length<=100000000)
 (hK1:∀ rows cols,MOk r c n ls rows cols->∀ h' A' c',OwnS h h' A' c' n (fun k=>ls (k%rows*cols+k/rows))->K (.tuple #[Jl c r A' n c',I 0]) h')
 (hK0:¬ Mx r c n ls->∀ h',h.le h'->K (.tuple #[Jl 0 0 none 0 0,I 1]) h'):FCall prog Ge #[Jl r c A n cap] h K:=by
 refine Yx _ _ _ _ _ ?_
 unfold Vz
 refine A2q gl rv' hn hl (fun hx=>⟨_,rfl,?_⟩) (fun hno=>⟨_,rfl,hK0 hno h (B4 _)⟩)
 obtain ⟨rows,cols,mk⟩:=hx
 have hk:=hK1 rows cols mk
 obtain ⟨rfl,rfl,_,_,_,_,rfl,_⟩:=id mk
 have:=mk.r2;have:=mk.c2
 refine A0b rv' (by omega) (by omega) ?_
 intro A2 c2 h2 g2 o2 xs l2 s2 ow hxl rr
 exact ⟨_,_,_,rfl,B0 l2 s2.le,hk h2 A2 c2 ⟨g2,o2,xs,l2,s2,ow,hxl,rr⟩⟩
end
theorem Br.nt{X Y:Prop}(y:Y):Br (!true) X Y:=y
theorem Oc{X Y:Prop}(x:X):Br (!false) X Y:=x
structure MOut where
 r:Int
 c:Int
 n:Nat
 f:Nat->List UInt8
 e:Int
def noM(e:Int):MOut:=⟨0,0,0,fun _=>[],e⟩
section
variable {h:Heap} {K:VP} {A B:Option Addr} {n n2 cap cap2 m w:Nat} {r c r2 c2:Int} {la lb:Nat->List UInt8}
end
structure VV where
 A:Option Addr
 n:Nat
 c:Nat
 s:Bool
 B:Option Addr
 bn:Nat
 bc:Nat
abbrev VV.v(w:VV):Value:=.agg #[.slice w.A w.n w.c,.bool w.s,.slice w.B w.bn w.bc]
instance:Enc VV:=⟨⟨fun w=>[.slice w.A w.n w.c,.bool w.s,.slice w.B w.bn w.bc],3,fun _=>rfl,fun w v hv=>by
 simp only [C3o,C3j,or_false] at hv
 rcases hv with rfl|rfl|rfl<;>rfl⟩⟩
def VQr(w:Nat):Heap->VV->(Nat->Rat)->Prop:=fun h v f=>v.n=w/\ZI h v.s v.B v.bn v.bc (Ac f w:Int)/\RowV ZIr h v.A w (fun j=>scl (f j) (Ac f w:Int))
theorem A5v(w:Nat):Mon (VQr w):=fun _ _ _ _ l i=>⟨i.1,i.2.1.mono l,i.2.2.mono Nc l⟩
section
variable {h:Heap} {K:VP} {A B:Option Addr} {n cap m w:Nat} {f f2:Nat->Rat}
theorem A2o(gl:Gl h)(r:RowV RQr h A n f)(hn:n<=10000)(hs:∀ i,i<n->Sz m (f i))(hm:1+n*m+m<=6400000000)
 (hK:∀ v h',h.le h'->VQr n h' v f->K v.v h'):FCall prog Gf #[.slice A n cap] h K:=by
 refine Yy _ _ _ ?_
 unfold Wa
 have hd:=Iw (f:=f) n hs
 refine ⟨?_,?_⟩
 ·refine O3 tZs (zx:=(⟨false,none,0,0⟩:IV)) rfl (by omega) (by omega) (by omega) (by omega) ?_
  intro b hb
  simp only [C38]
  have s0:=(Sep.refl h).new hb (.cells ((C37 n (⟨false,none,0,0⟩:IV)).flatMap enc).toArray Dn)
  refine ⟨_,_,_,rfl,s0.le,s0.call (Cd gl r (by omega) hs hm ?_)⟩
  intro sd Bd bn bc g1 l1 id h1 s1
  refine ⟨_,_,_,_,rfl,s0.le_le s1 l1,?_⟩
  refine ⟨fun L hp=>∃ (k:Nat) (g o:Heap) (ys:List IV),k<=n/\L=[I (k:Int)]/\g1.le g/\Sep hp g o/\RowX o b ys/\ys.length=n/\Row ZIr g ys k (fun j=>scl (f j) (Ac f n:Int)),fun L _=>n-(iAt L 0).toNat,⟨0,g1,_,C37 n ⟨false,none,0,0⟩,by omega,rfl,B4 _,s1,RowX.mk,C39,Row.nil⟩,?_⟩
  rintro z hp ⟨k,g,o,ys,hk,eL,lg,s,rx,hy,rr⟩
  obtain rfl:=sI1 eL
  refine B6 (fun hlt=>?_) (fun hge=>?_)
  ·have hkn:k<n:=by omega
   obtain ⟨a,w,ea,iw,c0,c1,c2,c3⟩:=(r.mono O0 (B0 l1 lg)).qat hkn
   refine ⟨a,ea,by omega,by omega,_,_,_,_,_,_,_,_,B9 s.le c0,B9 s.le c1,B9 s.le c2,B9 s.le c3,?_⟩
   refine s.call (Ir (m:=1+n*m+m) iw (id.mono lg) ((hs k hkn).mono (by omega)) (hd.mono (by omega)) hm ?_)
   intro s2 A2 n2 c2 g2 l2 i2 h2 sp2
   refine ⟨_,_,_,_,rfl,s.le_le sp2 l2,_,rfl,by omega,by omega,?_⟩
   refine Dh Qq (y:=(⟨s2,A2,n2,c2⟩:IV)) rfl sp2 rx (i:=k) (by omega) ?_
   intro h7 o7 x7 eo s7 rx7
   rw [wiS k (by omega)]
   exact ⟨⟨k+1,g2,o7,_,by omega,rfl,B0 lg l2,s7,rx7,by rw [C3y];exact hy,(rr.mono Nc l2).set (by omega) i2⟩,by simp only [Eu];omega⟩
  ·have:k=n:=by omega
   subst this
   exact hK ⟨some ⟨b,0,none⟩,k,k,sd,Bd,bn,bc⟩ hp (B0 l1 (B0 lg s.le)) ⟨rfl,id.mono (B0 lg s.le),ys,rx.rowB.slF s.ole,hy,rr.mono Nc s.le⟩
 ·refine Cd gl r (by omega) hs hm ?_
  intro sd Bd bn bc g1 l1 id
  refine ⟨_,_,_,_,rfl,l1,O3 tZs (zx:=(⟨false,none,0,0⟩:IV)) rfl (by omega) (by omega) (by omega) (by omega) ?_⟩
  intro b hb
  simp only [C38]
  have s1:=(Sep.refl g1).new hb (.cells ((C37 n (⟨false,none,0,0⟩:IV)).flatMap enc).toArray Dn)
  refine ⟨_,_,_,rfl,s1.le,?_⟩
  refine ⟨fun L hp=>∃ (k:Nat) (g o:Heap) (ys:List IV),k<=n/\L=[I (k:Int)]/\g1.le g/\Sep hp g o/\RowX o b ys/\ys.length=n/\Row ZIr g ys k (fun j=>scl (f j) (Ac f n:Int)),fun L _=>n-(iAt L 0).toNat,⟨0,g1,_,C37 n ⟨false,none,0,0⟩,by omega,rfl,B4 _,s1,RowX.mk,C39,Row.nil⟩,?_⟩
  rintro z hp ⟨k,g,o,ys,hk,eL,lg,s,rx,hy,rr⟩
  obtain rfl:=sI1 eL
  refine B6 (fun hlt=>?_) (fun hge=>?_)
  ·have hkn:k<n:=by omega
   obtain ⟨a,w,ea,iw,c0,c1,c2,c3⟩:=(r.mono O0 (B0 l1 lg)).qat hkn
   refine ⟨a,ea,by omega,by omega,_,_,_,_,_,_,_,_,B9 s.le c0,B9 s.le c1,B9 s.le c2,B9 s.le c3,?_⟩
   refine s.call (Ir (m:=1+n*m+m) iw (id.mono lg) ((hs k hkn).mono (by omega)) (hd.mono (by omega)) hm ?_)
   intro s2 A2 n2 c2 g2 l2 i2 h2 sp2
   refine ⟨_,_,_,_,rfl,s.le_le sp2 l2,_,rfl,by omega,by omega,?_⟩
   refine Dh Qq (y:=(⟨s2,A2,n2,c2⟩:IV)) rfl sp2 rx (i:=k) (by omega) ?_
   intro h7 o7 x7 eo s7 rx7
   rw [wiS k (by omega)]
   exact ⟨⟨k+1,g2,o7,_,by omega,rfl,B0 lg l2,s7,rx7,by rw [C3y];exact hy,(rr.mono Nc l2).set (by omega) i2⟩,by simp only [Eu];omega⟩
  ·have:k=n:=by omega
   subst this
   exact hK ⟨some ⟨b,0,none⟩,k,k,sd,Bd,bn,bc⟩ hp (B0 l1 (B0 lg s.le)) ⟨rfl,id.mono (B0 lg s.le),ys,rx.rowB.slF s.ole,hy,rr.mono Nc s.le⟩
def smZ(x y:Nat->Int):Nat->Int
 | 0=>0
 | k+1=>smZ x y k+x k*y k
def smA(x y:Nat->Int):Nat->Int
 | 0=>0
 | k+1=>smA x y k+(x k*y k).natAbs
theorem B46{x y:Nat->Int}{m w:Nat}(hx:∀ j,j<w->ZB m (x j))(hy:∀ j,j<w->ZB m (y j)):∀ k,k<=w->smA x y k<=k*2^(2*m):=by
 intro k
 induction k with
 | zero=>intro _;simp [smA]
 | succ k ih=>
  intro hk
  have h1:=ih (by omega)
  have h2:=A2k (hx k (by omega)) (hy k (by omega))
  have h3:((k+1:Nat):Int)*2^(2*m)=(k:Int)*2^(2*m)+2^(2*m):=by rw [Int.natCast_add,Int.add_mul];simp
  show smA x y k+((x k*y k).natAbs:Int)<=_
  rw [h3]
  omega
theorem B64(x y:Nat->Int):∀ k,((smZ x y k).natAbs:Int)<=smA x y k:=by
 intro k
 induction k with
 | zero=>exact Int.le_refl _
 | succ k ih=>
  show ((smZ x y k+x k*y k).natAbs:Int)<=smA x y k+((x k*y k).natAbs:Int)
  omega
theorem B8e{x y:Nat->Int}{m w:Nat}(hx:∀ j,j<w->ZB m (x j))(hy:∀ j,j<w->ZB m (y j))(hw:w<=10000):ZB (2*m+14) (smZ x y w):=by
 have h1:=B46 hx hy w (C34 _)
 have h2:=B64 x y w
 have e:(2:Int)^(2*m)=((2^(2*m):Nat):Int):=by simp
 rw [e,<- C3e] at h1
 have h3:w*2^(2*m)<=10000*2^(2*m):=C35 _ hw
 have h4:2^(2*m+14)=2^(2*m)*16384:=by rw [Nat.pow_add]
 have h5:0<2^(2*m):=Nat.pow_pos (by decide)
 unfold ZB
 rw [h4]
 omega
theorem B8f{p q:Nat->Rat}{x y:Nat->Int}{d e:Int}{w:Nat}(hx:∀ j,j<w->(x j:Rat)=p j*d)(hy:∀ j,j<w->(y j:Rat)=q j*e):∀ k,k<=w->(smZ x y k:Rat)=sm k (fun j=>p j*q j)*((d*e:Int):Rat):=by
 intro k
 induction k with
 | zero=>intro _;show ((0:Int):Rat)=0*_;rw [Rat.zero_mul];rfl
 | succ k ih=>
  intro hk
  show ((smZ x y k+x k*y k:Int):Rat)=(sm k (fun j=>p j*q j)+p k*q k)*((d*e:Int):Rat)
  rw [Rat.intCast_add,ih (by omega),Rat.intCast_mul d e,Rat.intCast_mul (x k) (y k),hx k (by omega),hy k (by omega)]
  grind
theorem A5h{v u:VV}(gl:Gl h)(iv:VQr w h v f)(iu:VQr w h u f2)(hw:w<=10000)(hs:∀ i,i<w->Sz m (f i))(hs2:∀ i,i<w->Sz m (f2 i))(hm1:1<=m)(hm:2*(1+w*m+m)+14<=100000000)
 (hK:∀ q h',h.le h'->RQ h' q (sm w (fun j=>f j*f2 j))->K q.v h'):FCall prog Xw #[v.v,u.v] h K:=by
 refine B14 _ _ _ _ _ _ _ _ _ _ _ _ _ _ ?_
 unfold B5g
 obtain ⟨en1,id1,rz1⟩:=iv
 obtain ⟨en2,id2,rz2⟩:=iu
 have hd1:=Iw (f:=f) w hs
 have hd2:=Iw (f:=f2) w hs2
 have hx:∀ j,j<w->ZB (1+w*m+m) (scl (f j) (Ac f w:Int)):=fun j hj=>(A7u (hs j hj) hd1).mono (by omega)
 have hy:∀ j,j<w->ZB (1+w*m+m) (scl (f2 j) (Ac f2 w:Int)):=fun j hj=>(A7u (hs2 j hj) hd2).mono (by omega)
 refine Eo A42 ?_
 intro bs hbs
 have Z0:SumS (h.put bs (.cells #[.slice none 0 0,.slice none 0 0] Im)) h bs Im 200000001 0 0:=SumS.zero hbs
 refine ⟨_,rfl,fun L hp=>∃ (k:Nat) (g:Heap),k<=w/\L=[I (k:Int)]/\h.le g/\SumS hp g bs Im 200000001 (smA (fun j=>scl (f j) (Ac f w:Int)) (fun j=>scl (f2 j) (Ac f2 w:Int)) k) (smZ (fun j=>scl (f j) (Ac f w:Int)) (fun j=>scl (f2 j) (Ac f2 w:Int)) k),fun L _=>w-(iAt L 0).toNat,⟨0,h,by omega,rfl,B4 _,Z0⟩,?_⟩
 rintro z hp ⟨k,g,hk,eL,lg,Z⟩
 obtain rfl:=sI1 eL
 refine B6 (fun hlt=>?_) (fun hge=>?_)
 ·have hkw:k<w:=by omega
  obtain ⟨a,x1,ea,zx,c0,c1⟩:=(rz1.mono Nc lg).zat hkw
  obtain ⟨a2,y1,ea2,zy,d0,d1⟩:=(rz2.mono Nc lg).zat hkw
  refine ⟨a,ea,by omega,by omega,_,_,_,_,B9 Z.le c0,B9 Z.le c1,a2,ea2,by omega,by omega,_,_,_,_,B9 Z.le d0,B9 Z.le d1,?_⟩
  have lx:x1.n<=100000000:=ZI.len zx (hx k hkw) (by omega)
  have ly:y1.n<=100000000:=ZI.len zy (hy k hkw) (by omega)
  have hA:=B46 hx hy (k+1) hkw
  have hbig:=A83 (m:=1+w*m+m) (k:=k+1) (by omega) (by omega)
  refine Y9 Z zx zy (by omega) (by omega) (N1:=1+w*m+m) (by show smA _ _ (k+1)<_;omega) (by omega) ?_
  intro h3 g3 l3 Z3
  rw [wiS k (by omega)]
  exact ⟨rfl,⟨k+1,g3,by omega,rfl,B0 lg l3,Z3⟩,by simp only [Eu];omega⟩
 ·have:k=w:=by omega
  subst this
  refine Jx Z (by omega) ?_
  intro sv Av nv cv h5 l5 z5
  have l05:=B0 lg (B0 Z.le l5)
  refine ⟨_,_,_,_,rfl,l5,?_⟩
  refine Ci (m:=1+k*m+m) (id1.mono l05) (id2.mono l05) (hd1.mono (by omega)) (hd2.mono (by omega)) (by omega) ?_
  intro s6 A6 n6 c6 h6 l6 z6
  refine ⟨_,_,_,_,rfl,l6,?_⟩
  have l06:=B0 l05 l6
  have e1:∀ j,j<k->(scl (f j) (Ac f k:Int):Rat)=f j*((Ac f k:Int):Rat):=fun j hj=>A7v (Int.natCast_dvd_natCast.2 (Xe f k j hj))
  have e2:∀ j,j<k->(scl (f2 j) (Ac f2 k:Int):Rat)=f2 j*((Ac f2 k:Int):Rat):=fun j hj=>A7v (Int.natCast_dvd_natCast.2 (Xe f2 k j hj))
  have es:=B8f e1 e2 k (C34 _)
  have hp1:=Xd f k
  have hp2:=Xd f2 k
  have hne:((Ac f k:Int)*(Ac f2 k:Int))≠0:=Int.mul_ne_zero (by omega) (by omega)
  have zb:ZB (2*(1+k*m+m)+14) (smZ (fun j=>scl (f j) (Ac f k:Int)) (fun j=>scl (f2 j) (Ac f2 k:Int)) k):=B8e hx hy (by omega)
  refine Aj (m:=2*(1+k*m+m)+14) (gl.mono l06).tz (z5.mono l6) z6 zb ((hd1.mul hd2).mono (by omega)) (by omega) ?_
  intro q h7 l7 i7
  refine ⟨_,_,_,_,_,_,_,_,rfl,l7,hK q h7 (B0 l06 l7) ?_⟩
  have:C44 (smZ (fun j=>scl (f j) (Ac f k:Int)) (fun j=>scl (f2 j) (Ac f2 k:Int)) k) ((Ac f k:Int)*(Ac f2 k:Int))=sm k (fun j=>f j*f2 j):=by
   rw [C42,es]
   exact Rat.mul_div_cancel (R5 hne)
  rw [this] at i7
  exact i7
end
theorem B29:prog.cellsOf Js=1/\(prog.info? Js).isSome=true:=by constructor<;>kernel_rfl
section
variable {h:Heap} {K:VP} {A:Option Addr} {cap m rows cols:Nat} {E:Nat->Rat}
theorem Oe(gl:Gl h)(r:RowV RQr h A (rows*cols) E)(hcap:rows*cols<=cap)(hr2:rows<=10000)(hc:1<=cols)(hc2:cols<=10000)(hs:∀ i,i<rows*cols->Sz m (E i))(hm:1+cols*m+m<=6400000000)
 (hK:∀ A' c' h',h.le h'->RowV (VQr cols) h' A' rows (A02 E cols)->K (.slice A' rows c') h'):FCall prog Hu #[.slice A (rows*cols) cap,I (cols:Int)] h K:=by
 refine A3o _ _ _ _ ?_
 unfold A59
 have hrc:rows*cols<=100000000:=by
  have:rows*cols<=10000*10000:=C3b hr2 hc2
  omega
 refine Eo (z:=.slice none 0 0) (by kernel_rfl) ?_
 intro bp hbp
 refine ⟨_,rfl,?_⟩
 have s0:=(Sep.refl h).new hbp (.cells #[.slice none 0 0] Js)
 refine s0.call (Vi hc ?_)
 intro v g0 l0 ic hp3 s3
 have bound:∀ k,k<rows->∀ j,j<cols->Sz m (E (k*cols+j)):=fun k hk j hj=>hs _ (K9 hk hj)
 refine ⟨_,rfl,Qt ic hc (by omega) hcap (fun k hp=>∃ (g1 o1:Heap) (vs:List VV) (A1:Option Addr) (c1:Nat),g0.le g1/\Sep hp g1 o1/\(∃ e,o1 bp=some (.cells #[.slice A1 k c1] e))/\OwnSl o1 Ut A1 c1 vs/\A1≠some ⟨bp,0,none⟩/\vs.length=k/\Row (VQr cols) g1 vs k (A02 E cols)) ?_ ?_ ?_ ?_⟩
 ·exact ⟨g0,_,[],none,0,B4 _,s3,⟨_,C3 _ _ _⟩,OwnSl.nil,by simp,rfl,Row.nil⟩
 ·rintro k hp ⟨g1,o1,vs,A1,c1,lg,s1,_⟩
  exact B0 lg s1.le
 ·rintro k hp4 hkr ⟨g1,o1,vs,A1,c1,lg1,s4,⟨e,hbo⟩,ow,ha,hvl,rr⟩
  have bk:=bound k hkr
  have hkc:(k+1)*cols<=rows*cols:=C35 _ hkr
  have hk1:(k+1)*cols=k*cols+cols:=by rw [C3r,C41]
  have lh1:=B0 l0 lg1
  have row0:RowV RQr h A ((k+1)*cols) E:=by
   have:=r.cut (c:=cap) (l:=0) (k:=(k+1)*cols) (by omega) hcap
   rw [G9] at this
   exact this.congr fun i _=>by rw [C3k]
  have row1:RowV RQr h (K0 A ((k+1)*cols) (k*cols) 4) cols (A02 E cols k):=row0.cut (c:=(k+1)*cols) (l:=k*cols) (k:=cols) (by omega) (C34 _)
  have cp:hp4.cell? ⟨bp,0,none⟩=some (.slice A1 k c1):=s4.cell (by unfold Heap.cell?;simp only [hbo];rfl)
  refine ⟨_,_,_,rfl,_,_,_,cp,s4.call (A2o (gl.mono lh1) (row1.mono O0 lh1) (by omega) bk hm ?_)⟩
  intro w g2 l2 iw hp5 s5
  refine ⟨_,_,_,_,_,_,_,rfl,s4.le_le s5 l2,?_⟩
  subst hvl
  refine OwnSl.push (ty:=Js) C0t s5 ow (y:=w) (v:=w.v) rfl (by decide) (by omega) (by omega) (K1:=fun hq=>hp5.le hq) (fun _ l=>l) ?_
  intro A3 c3 h6 g6 o6 l6 s6 ow6 kp
  have k2:=kp bp _ hbo ha
  show wpH _ (C3m _ (.pointer (some (C36 ⟨bp,0,none⟩ 0))) _) _ _
  refine Yq B29 rfl rfl s6 k2.1 (by simp) ?_
  intro h7 o7 s7 eo
  exact ⟨g6,o7,vs++[w],A3,c3,B0 lg1 (B0 l2 l6),s7,⟨e,by rw [eo,C3];simp⟩,ow6.keep fun b y hb he=>by rw [eo,B8 _ _ (fun e=>k2.2 (by rw [<- e];exact hb))];exact he,k2.2,by simp,by
   have:=(Row.push (rr.mono (A5v cols) (B0 l2 l6)) (A5v cols _ _ _ _ l6 iw))
   simpa using this⟩
 ·rintro hp4 ⟨g1,o1,vs,A1,c1,lg1,s4,⟨e,hbo⟩,ow,ha,hvl,rr⟩
  have cp:hp4.cell? ⟨bp,0,none⟩=some (.slice A1 rows c1):=s4.cell (by unfold Heap.cell?;simp only [hbo];rfl)
  exact ⟨_,_,_,cp,hK A1 c1 hp4 (B0 l0 (B0 lg1 s4.le)) ⟨vs,ow.slF s4.ole,hvl,rr.mono (A5v cols) s4.le⟩⟩
end
section
variable {h:Heap} {K:VP} {A B:Option Addr} {n n2 cap cap2 m:Nat} {r c r2 c2:Int} {la lb:Nat->List UInt8} {w:QV} {q:Rat}
end
section
variable {h:Heap} {K:VP} {A B:Option Addr} {n w cap cap2 m:Nat} {f f2:Nat->Rat} {R:Nat->Nat->Rat}
theorem B8c(hs:∀ i,i<w->Sz m (f i))(hs2:∀ i,i<w->Sz m (f2 i)):∀ k,k<=w->Sz (1+k*(2*m+1)) (sm k (fun j=>f j*f2 j)):=by
 intro k
 induction k with
 | zero=>intro _;exact Sz.zero (by omega)
 | succ k ih=>
  intro hk
  have h1:=ih (by omega)
  have h2:=(hs k (by omega)).mul (hs2 k (by omega))
  have e:1+(k+1)*(2*m+1)=1+k*(2*m+1)+(m+m)+1:=by rw [C3r];omega
  rw [e]
  exact h1.add h2
end
structure VOut where
 n:Nat
 f:Nat->List UInt8
 e:Int
section
variable {h:Heap} {K:VP} {A B:Option Addr} {n n2 cap cap2 m:Nat} {r c:Int} {la lx:Nat->List UInt8}
end
section
variable {h:Heap} {K:VP} {A B:Option Addr} {n n2 cap cap2 m:Nat} {r c:Int} {la lx:Nat->List UInt8}
theorem RowV.vat{w n:Nat}{f:Nat->Nat->Rat}(r:RowV (VQr w) h A n f){i:Nat}(hi:i<n):∃ a v,A=some a/\VQr w h v (f i)/\h.cell? (C36 (C36 a (i*3)) 0)=some (.slice v.A v.n v.c)/\h.cell? (C36 (C36 a (i*3)) 1)=some (.bool v.s)/\h.cell? (C36 (C36 a (i*3)) 2)=some (.slice v.B v.bn v.bc):=by
 obtain ⟨a,v,e,q,hc⟩:=RowV.at (by decide) r hi
 exact ⟨a,v,e,q,hc 0 _ rfl,hc 1 _ rfl,hc 2 _ rfl⟩
end
def MulO(r c:Int)(n:Nat)(la:Nat->List UInt8)(r2 c2:Int)(n2:Nat)(lb:Nat->List UInt8)(o:MOut):Prop:=
 (¬ (Mx r c n la/\Mx r2 c2 n2 lb)/\o=noM 1)\/(Mx r c n la/\Mx r2 c2 n2 lb/\c≠r2/\o=noM 4)\/(∃ rows mid cols,MOk r c n la rows mid/\MOk r2 c2 n2 lb mid cols/\o=⟨r,c2,rows*cols,fun k=>K3 (sm mid (fun j=>mtx (rvs la) mid (k/cols) j*mtx (rvs lb) cols j (k%cols))),0⟩)
theorem A5y{f f':Nat->Rat}: ∀ n,(∀ i,i<n->f i=f' i)->Ac f n=Ac f' n:=by
 intro n
 induction n with
 | zero=>intro _;rfl
 | succ n ih=>
  intro e
  show Nat.lcm (Ac f n) (f n).den=Nat.lcm (Ac f' n) (f' n).den
  rw [ih fun i hi=>e i (by omega),e n (by omega)]
theorem VQr.congr{h:Heap}{w:Nat}{v:VV}{f f':Nat->Rat}(x:VQr w h v f)(e:∀ i,i<w->f i=f' i):VQr w h v f':=by
 have hd:Ac f w=Ac f' w:=A5y w e
 obtain ⟨a,b,c⟩:=x
 rw [hd] at b c
 exact ⟨a,b,c.congr fun j hj=>by rw [e j hj]⟩
section
variable {h:Heap} {K:VP} {A B:Option Addr} {n n2 cap cap2 m:Nat} {r c r2 c2:Int} {la lb:Nat->List UInt8} {E:Nat->Rat}
theorem Xa{rows cols:Nat}(rv':RowV RQr h A (rows*cols) E)(hr:rows<=10000)(hc:cols<=10000)
 (hK:∀ A' c' h' g' o' xs,h.le g'->Sep h' g' o'->OwnSl o' G7 A' c' xs->xs.length=rows*cols->Row RQr g' xs (rows*cols) (fun k=>E (k%rows*cols+k/rows))->K (.slice A' (rows*cols) c') h'):FCall prog Ao #[.slice A (rows*cols) cap,I (rows:Int),I (cols:Int)] h K:=by
 refine Un _ _ _ _ _ ?_
 unfold Tm
 have hrc:rows*cols<=10000*10000:=C3b hr hc
 refine O3 B44 (zx:=Ib) rfl (by omega) (by omega) (by omega) (by omega) ?_
 intro b hb
 simp only [C38]
 refine ⟨_,_,_,rfl,fun L hp=>∃ (j:Nat) (g o:Heap) (xs:List QV) (A':Option Addr) (c':Nat),j<=cols/\L=[.slice A' (j*rows) c',I (j:Int)]/\h.le g/\Sep hp g o/\OwnSl o G7 A' c' xs/\xs.length=j*rows/\Row RQr g xs (j*rows) (fun k=>E (k%rows*cols+k/rows)),fun L _=>cols-(iAt L 1).toNat,
  ⟨0,h,Ig.put b _,[],some ⟨b,0,none⟩,rows*cols,by omega,by rw [C3t];rfl,B4 _,Di hb,Nw,by simp,by rw [C3t];exact Row.nil⟩,?_⟩
 rintro rA rn rc z hp ⟨j,g,o,xs,A',c',hj,eL,lg,s,ow,hxl,rr⟩
 obtain ⟨⟨rfl,rfl,rfl⟩,rfl⟩:=sI2 eL
 refine B6 (fun hlt=>?_) (fun hge=>?_)
 ·have hjc:j<cols:=by omega
  have hj1:(j+1)*rows=j*rows+rows:=by rw [C3r,C41]
  have hjr:(j+1)*rows<=cols*rows:=C35 _ hjc
  rw [C3c cols rows] at hjr
  refine ⟨fun L hp=>∃ (i:Nat) (g o:Heap) (xs:List QV) (A':Option Addr) (c':Nat),i<=rows/\L=[.slice A' (j*rows+i) c',I (i:Int)]/\h.le g/\Sep hp g o/\OwnSl o G7 A' c' xs/\xs.length=j*rows+i/\Row RQr g xs (j*rows+i) (fun k=>E (k%rows*cols+k/rows)),fun L _=>rows-(iAt L 1).toNat,
   ⟨0,g,o,xs,rA,rc,by omega,rfl,lg,s,ow,hxl,rr⟩,?_⟩
  rintro qA qn qc z hp2 ⟨i,g2,o2,ys,A2,c2,hi,eL,lg2,s2,ow2,hyl,rr2⟩
  obtain ⟨⟨rfl,rfl,rfl⟩,rfl⟩:=sI2 eL
  refine B6 (fun hlt2=>?_) (fun hge2=>?_)
  ·have hir:i<rows:=by omega
   have hidx:=K9 hir hjc
   have ew:B5 (B5 ((i:Int)*(cols:Int))+(j:Int))=((i*cols+j:Nat):Int):=by
    rw [<- C3e,L8 (by omega)]
    exact L8 (n:=i*cols+j) (by omega)
   rw [ew]
   obtain ⟨a,w,ea,iw,c0,c1,c2',c3⟩:=(rv'.mono O0 lg2).qat hidx
   refine ⟨a,ea,by omega,by omega,_,_,_,_,_,_,_,_,B9 s2.le c0,B9 s2.le c1,B9 s2.le c2',B9 s2.le c3,?_⟩
   refine Jj (ty:=T5) B44 s2 ow2 hyl.symm (y:=w) rfl (by decide) (by rw [hyl];omega) (by rw [hyl];omega) ?_
   intro A3 c3 h3 g3 o3 l3 s3 ow3 _
   rw [hyl,wiS i (by omega)]
   refine ⟨⟨i+1,g3,o3,_,A3,c3,by omega,by rw [Nat.add_assoc],B0 lg2 l3,s3,ow3,by rw [C3f,hyl];rfl,?_⟩,?_⟩
   ·have rB:=Row.push (R:=RQr) (g:=g3) (xs:=ys) (f:=fun k=>E (k%rows*cols+k/rows)) (by rw [hyl];exact rr2.mono O0 l3) (w:=w) (by
     show RQ g3 w (E (ys.length%rows*cols+ys.length/rows))
     rw [hyl,C3x (j*rows) i,C3d,C3h hir,C3g _ _ (by omega),C3i hir,C3k]
     exact O0 _ _ _ _ l3 iw)
    rw [C3f,hyl] at rB
    exact rB
   ·show rows-((i+1:Nat):Int).toNat<rows-(i:Int).toNat
    omega
  ·have:i=rows:=by omega
   subst this
   rw [wiS j (by omega),<- hj1]
   rw [<- hj1] at hyl rr2
   refine ⟨⟨j+1,g2,o2,ys,qA,qc,by omega,rfl,lg2,s2,ow2,hyl,rr2⟩,?_⟩
   show cols-((j+1:Nat):Int).toNat<cols-(j:Int).toNat
   omega
 ·have:j=cols:=by omega
  subst this
  rw [C3c j rows] at hxl rr ⊢
  exact hK rA rc hp g o xs lg s ow hxl rr
theorem A0c{rows cols:Nat}(rv':RowV RQr h A (rows*cols) E)(hr:rows<=10000)(hc:cols<=10000)
 (hK:∀ A' c' h',h.le h'->rows*cols<=c'->RowV RQr h' A' (rows*cols) (fun k=>E (k%rows*cols+k/rows))->K (.slice A' (rows*cols) c') h'):FCall prog Ao #[.slice A (rows*cols) cap,I (rows:Int),I (cols:Int)] h K:=
 Xa rv' hr hc fun A' c' h' _ _ xs lg s ow hxl rr=>hK A' c' h' (B0 lg s.le) (by have:=ow.1;omega) ⟨xs,ow.slF s.ole,hxl,rr.mono O0 s.le⟩
theorem A5w{d:Nat}(gl:Gl h)(ra:RowV SSr h A n la)(rb:RowV SSr h B n2 lb)(hn:n<=1000000)(hn2:n2<=1000000)(hl:∀ i,i<n->(la i).length<=100000000)(hl2:∀ i,i<n2->(lb i).length<=100000000)(hs:∀ i,i<n->Sz m (rv (la i)))(hs2:∀ i,i<n2->Sz m (rv (lb i)))(hm1:1<=m)(hd:∀ rows mid,MOk r c n la rows mid->mid<=d)(hm:2*(1+d*(2*m+1)+2*m)+14<=40000000)
 (hK:∀ o,MulO r c n la r2 c2 n2 lb o->∀ A' cap' h',h.le h'->RowV SSr h' A' o.n o.f->K (.tuple #[Jl o.r o.c A' o.n cap',I o.e]) h'):FCall prog A93 #[Jl r c A n cap,Jl r2 c2 B n2 cap2] h K:=by
 refine B7n _ _ _ _ _ _ _ _ _ _ ?_
 unfold C2r
 have bad:¬ (Mx r c n la/\Mx r2 c2 n2 lb)->∀ h',h.le h'->K (.tuple #[Jl 0 0 none 0 0,I 1]) h':=fun hx h' l=>hK (noM 1) (.inl ⟨hx,rfl⟩) none 0 h' l RowV.nil
 refine Cq gl ra hn hl (fun rows mid mk b1 h1 own=>?_) (fun hno h1 l1=>⟨_,_,_,_,rfl,?_⟩)
 ·have l1:=own.le
  refine ⟨_,_,_,_,rfl,Cq (gl.mono l1) (rb.mono N4 l1) hn2 hl2 (fun mid2 cols mk2 b2 h2 own2=>⟨_,_,_,_,rfl,Br.nt (Br.nt ?_)⟩) (fun hno h2 l2=>⟨_,_,_,_,rfl,Br.nt (Oc (bad (fun x=>hno x.2) h2 (B0 l1 l2)))⟩)⟩
  have l2:=own2.le
  have lh2:=B0 l1 l2
  refine H1 (fun e=>hK (noM 4) (.inr (.inl ⟨⟨_,_,mk⟩,⟨_,_,mk2⟩,e,rfl⟩)) none 0 h2 lh2 RowV.nil) (fun e=>?_)
  obtain rfl:mid2=mid:=by have:=mk.ec;have:=mk2.er;omega
  have good:=hK _ (.inr (.inr ⟨rows,mid2,cols,mk,mk2,rfl⟩))
  have:=mk.r1;have:=mk.r2;have:=mk.c1;have:=mk.c2;have:=mk2.c1;have:=mk2.c2
  obtain ⟨rfl,rfl,_,_,_,_,rfl,_⟩:=id mk
  obtain ⟨rfl,rfl,_,_,_,_,rfl,_⟩:=id mk2
  clear e
  have ms:=B4b hs
  have ms2:=B4b hs2
  have hdm:=hd _ _ mk
  have hkm:mid2*(2*m+1)<=d*(2*m+1):=C35 _ hdm
  have hkm2:mid2*m<=d*m:=C35 _ hdm
  have hkm3:d*(2*m+1)=2*(d*m)+d:=by rw [Nat.mul_add,Nat.mul_one,Nat.mul_left_comm]
  have hrc:rows*cols<=64*64:=C3b (by omega) (by omega)
  refine Oe (m:=m) (gl.mono lh2) ((own.vis O0).mono O0 l2) (C34 _) (by omega) (by omega) (by omega) hs (by omega) ?_
  intro A3 c3 h3 l3 rv3
  refine ⟨_,_,_,rfl,?_⟩
  refine A0c ((own2.vis O0).mono O0 l3) (by omega) (by omega) ?_
  intro A4 c4 h4 l4 hc4 rv4
  refine ⟨_,_,_,rfl,l4,?_⟩
  have lh4:=B0 lh2 (B0 l3 l4)
  rw [C3c mid2 cols] at rv4 hc4 ⊢
  refine Oe (m:=m) (gl.mono lh4) rv4 hc4 (by omega) (by omega) (by omega) (fun i hi=>?_) (by omega) ?_
  ·have hi2:i/mid2<cols:=C3a (by rw [C3c];exact hi)
   exact hs2 _ (K9 (C3p i (show 0<mid2 by omega)) hi2)
  intro A5 c5 h5 l5 rv5'
  have rv5:RowV (VQr mid2) h5 A5 cols (fun j i=>mtx (rvs lb) cols i j):=by
   obtain ⟨vs,sv,el,rr⟩:=rv5'
   refine ⟨vs,sv,el,fun j hj=>?_⟩
   obtain ⟨w,e1,hw⟩:=rr j hj
   refine ⟨w,e1,?_⟩
   have:=VQr.congr (f':=fun i=>mtx (rvs lb) cols i j) hw fun i hi=>?_
   ·exact this
   ·show rvs lb ((j*mid2+i)%mid2*cols+(j*mid2+i)/mid2)=rvs lb (i*cols+j)
    rw [C3x (j*mid2) i,C3d,C3h hi,C3g _ _ (by omega),C3i hi,C3k]
  clear rv5'
  refine ⟨_,_,_,rfl,l5,?_⟩
  have lh5:=B0 lh4 l5
  have l35:=B0 l4 l5
  have ewm:B5 ((rows:Int)*(cols:Int))=((rows*cols:Nat):Int):=by rw [<- C3e];exact L8 (by omega)
  rw [ewm]
  refine O3 B44 (zx:=Ib) rfl (by omega) (by omega) (by omega) (by omega) ?_
  intro b hb
  simp only [C38]
  have sz:∀ i j,i<rows->j<cols->Sz (1+d*(2*m+1)) (sm mid2 (fun t=>mtx (rvs la) mid2 i t*mtx (rvs lb) cols t j)):=fun i j hi hj=>(B8c (f:=fun t=>mtx (rvs la) mid2 i t) (f2:=fun t=>mtx (rvs lb) cols t j) (fun t ht=>ms i t hi ht) (fun t ht=>ms2 t j ht hj) mid2 (C34 _)).mono (by omega)
  refine ⟨_,_,_,rfl,fun L hp=>∃ (k:Nat) (g o:Heap) (xs:List QV) (A':Option Addr) (c':Nat),k<=rows/\L=[.slice A' (k*cols) c',I (k:Int)]/\h5.le g/\Sep hp g o/\OwnSl o G7 A' c' xs/\xs.length=k*cols/\Row RQr g xs (k*cols) (fun k=>sm mid2 (fun j=>mtx (rvs la) mid2 (k/cols) j*mtx (rvs lb) cols j (k%cols))),fun L _=>rows-(iAt L 1).toNat,
   ⟨0,h5,Ig.put b _,[],some ⟨b,0,none⟩,rows*cols,by omega,by rw [C3t];rfl,B4 _,Di hb,Nw,by simp,by rw [C3t];exact Row.nil⟩,?_⟩
  rintro rA rn rc z hp ⟨k,g,o,xs,A',c',hk,eL,lg,s,ow,hxl,rr⟩
  obtain ⟨⟨rfl,rfl,rfl⟩,rfl⟩:=sI2 eL
  refine B6 (fun hlt=>?_) (fun hge=>?_)
  ·have hkr:k<rows:=by omega
   have hj1:(k+1)*cols=k*cols+cols:=by rw [C3r,C41]
   have hjr:(k+1)*cols<=rows*cols:=C35 _ hkr
   obtain ⟨a,v,ea,iv,c0,c1,c2'⟩:=(rv3.mono (A5v mid2) (B0 l35 lg)).vat hkr
   refine ⟨a,ea,by omega,by omega,_,_,_,_,_,_,_,B9 s.le c0,B9 s.le c1,B9 s.le c2',?_⟩
   refine ⟨fun L hp=>∃ (j:Nat) (g' o:Heap) (xs:List QV) (A':Option Addr) (c':Nat),j<=cols/\L=[.slice A' (k*cols+j) c',I (j:Int)]/\g.le g'/\Sep hp g' o/\OwnSl o G7 A' c' xs/\xs.length=k*cols+j/\Row RQr g' xs (k*cols+j) (fun k=>sm mid2 (fun j=>mtx (rvs la) mid2 (k/cols) j*mtx (rvs lb) cols j (k%cols))),fun L _=>cols-(iAt L 1).toNat,
    ⟨0,g,o,xs,rA,rc,by omega,rfl,B4 _,s,ow,hxl,rr⟩,?_⟩
   rintro qA qn qc z hp2 ⟨j,g2,o2,ys,A2,c2,hj,eL,lg2,s2,ow2,hyl,rr2⟩
   obtain ⟨⟨rfl,rfl,rfl⟩,rfl⟩:=sI2 eL
   refine B6 (fun hlt2=>?_) (fun hge2=>?_)
   ·have hjc:j<cols:=by omega
    obtain ⟨a6,u,ea6,iu,d0,d1,d2⟩:=(rv5.mono (A5v mid2) (B0 lg lg2)).vat hjc
    refine ⟨a6,ea6,by omega,by omega,_,_,_,_,_,_,_,B9 s2.le d0,B9 s2.le d1,B9 s2.le d2,?_⟩
    refine s2.call (A5h (m:=m) (v:=v) (u:=u) (gl.mono (B0 lh5 (B0 lg lg2))) (A5v mid2 _ _ _ _ lg2 iv) iu (by omega) (fun t ht=>ms k t hkr ht) (fun t ht=>ms2 t j ht hjc) hm1 (by omega) ?_)
    intro q g7 l7 iq h7 s7
    refine ⟨_,_,_,_,_,_,_,_,rfl,?_⟩
    refine Jj (ty:=T5) B44 s7 ow2 hyl.symm (y:=q) rfl (by decide) (by rw [hyl];omega) (by rw [hyl];omega) ?_
    intro A8 c8 h8 g8 o8 l8 s8 ow8 _
    rw [hyl,wiS j (by omega)]
    refine ⟨⟨j+1,g8,o8,_,A8,c8,by omega,by rw [Nat.add_assoc],B0 lg2 (B0 l7 l8),s8,ow8,by rw [C3f,hyl];rfl,?_⟩,?_⟩
    ·have rB:=Row.push (R:=RQr) (g:=g8) (xs:=ys) (f:=fun k=>sm mid2 (fun j=>mtx (rvs la) mid2 (k/cols) j*mtx (rvs lb) cols j (k%cols))) (by rw [hyl];exact rr2.mono O0 (B0 l7 l8)) (w:=q) (by
      show RQ g8 q (sm mid2 (fun t=>mtx (rvs la) mid2 (ys.length/cols) t*mtx (rvs lb) cols t (ys.length%cols)))
      rw [hyl,C3x (k*cols) j,C3d,C3h hjc,C3g _ _ (by omega),C3i hjc,C3k]
      exact O0 _ _ _ _ l8 iq)
     rw [C3f,hyl] at rB
     exact rB
    ·show cols-((j+1:Nat):Int).toNat<cols-(j:Int).toNat
     omega
   ·have:j=cols:=by omega
    subst this
    rw [wiS k (by omega),<- hj1]
    rw [<- hj1] at hyl rr2
    refine ⟨⟨k+1,g2,o2,ys,qA,qc,by omega,rfl,B0 lg lg2,s2,ow2,hyl,rr2⟩,?_⟩
    show rows-((k+1:Nat):Int).toNat<rows-(k:Int).toNat
    omega
  ·have:k=rows:=by omega
   subst this
   have lh6:=B0 lh5 (B0 lg s.le)
   have rq:RowV RQr hp rA (k*cols) (fun t=>sm mid2 (fun j=>mtx (rvs la) mid2 (t/cols) j*mtx (rvs lb) cols j (t%cols))):=⟨xs,ow.slF s.ole,hxl,rr.mono O0 s.le⟩
   refine A2p (m:=1+d*(2*m+1)) (gl.mono lh6) rq (by omega) (fun t ht=>?_) (by omega) ?_
   ·exact sz _ _ (C3a (by rw [C3c];exact ht)) (C3p t (show 0<cols by omega))
   intro b9 h9 own9
   exact ⟨_,_,_,_,_,rfl,good _ _ h9 (B0 lh6 own9.le) (own9.vis N4)⟩
 ·refine Cq (gl.mono l1) (rb.mono N4 l1) hn2 hl2 (fun mid2 cols mk2 b2 h2 own2=>⟨_,_,_,_,rfl,Oc (bad (fun x=>hno x.1) h2 (B0 l1 own2.le))⟩) (fun _ h2 l2=>⟨_,_,_,_,rfl,Oc (bad (fun x=>hno x.1) h2 (B0 l1 l2))⟩)
end
def Dt(P Q:Nat->Nat->Rat)(w i k j:Nat):Nat->Nat->Rat:=fun a b=>if a<i then sm w (fun t=>P a t*Q t b) else if a=i then (if b<j then sm (k+1) (fun t=>P a t*Q t b) else sm k (fun t=>P a t*Q t b)) else 0
theorem A2l(P Q:Nat->Nat->Rat)(w a b:Nat):Dt P Q w 0 0 0 a b=0:=by
 unfold Dt
 rw [if_neg (C3q a),if_neg (C3q b)]
 split<;>rfl
theorem A5q(P Q:Nat->Nat->Rat)(w i k j a b:Nat):B7q (Dt P Q w i k j) i j (sm k (fun t=>P i t*Q t j)+P i k*Q k j) a b=Dt P Q w i k (j+1) a b:=by
 unfold B7q Dt
 by_cases e:a=i/\b=j
 ·obtain ⟨rfl,rfl⟩:=e
  rw [if_pos ⟨rfl,rfl⟩,if_neg (C3n a),if_pos rfl,if_pos (Nat.lt_succ_self b)]
  rfl
 ·rw [if_neg e]
  by_cases h1:a<i
  ·rw [if_pos h1,if_pos h1]
  ·rw [if_neg h1,if_neg h1]
   by_cases h2:a=i
   ·rw [if_pos h2,if_pos h2]
    by_cases h3:b<j
    ·rw [if_pos h3,if_pos (by omega)]
    ·rw [if_neg h3,if_neg (by omega)]
   ·rw [if_neg h2,if_neg h2]
theorem A5r(P Q:Nat->Nat->Rat){w i k j c:Nat}(h:j=c\/P i k=0){a b:Nat}(hb:b<c):Dt P Q w i k j a b=Dt P Q w i (k+1) 0 a b:=by
 unfold Dt
 by_cases h1:a<i
 ·rw [if_pos h1,if_pos h1]
 ·rw [if_neg h1,if_neg h1]
  by_cases h2:a=i
  ·subst h2
   rw [if_pos rfl,if_pos rfl,if_neg (C3q b)]
   by_cases h3:b<j
   ·rw [if_pos h3]
   ·rw [if_neg h3]
    rcases h with h|h
    ·omega
    ·show _=sm k (fun t=>P a t*Q t b)+P a k*Q k b
     rw [h,Rat.zero_mul,Rat.add_zero]
  ·rw [if_neg h2,if_neg h2]
theorem A82(P Q:Nat->Nat->Rat)(w i a b:Nat):Dt P Q w i w 0 a b=Dt P Q w (i+1) 0 0 a b:=by
 unfold Dt
 by_cases h1:a<i
 ·rw [if_pos h1,if_pos (by omega)]
 ·rw [if_neg h1]
  by_cases h2:a=i
  ·rw [if_pos h2,if_neg (C3q b),if_pos (by omega)]
  ·rw [if_neg h2,if_neg (by omega)]
   split
   ·rw [if_neg (C3q b)];rfl
   ·rfl
section
variable {h:Heap} {K:VP} {A B:Option Addr} {n n2 cap cap2 m w cols:Nat} {r c r2 c2:Int} {la lb:Nat->List UInt8} {P Q:Nat->Nat->Rat}
theorem A0m(ra:RowsV h A n w P)(rb:RowsV h B w cols Q)(hn1:1<=n)(hn:n<=10000)(hw1:1<=w)(hw:w<=10000)(hc1:1<=cols)(hc:cols<=10000)(hs:∀ i j,i<n->j<w->Sz m (P i j))(hs2:∀ i j,i<w->j<cols->Sz m (Q i j))(hm:1+w*(2*m+1)+2*m<=400000000)
 (hK:∀ h' g' o' bo rb,h.le g'->Mt h' g' o' bo rb n cols (fun a b=>sm w (fun t=>P a t*Q t b))->K (.slice (some ⟨bo,0,none⟩) n n) h'):FCall prog Qd #[.slice A n cap,.slice B w cap2] h K:=by
 refine B1c _ _ _ _ _ _ ?_
 unfold B5m
 obtain ⟨aB,sB,eB,fB1,fB2,hcB,_⟩:=rb.at (i:=0) (by omega)
 refine ⟨aB,eB,by omega,by omega,_,_,_,hcB,?_⟩
 rw [fB1]
 refine Ro hn hc ?_
 intro h1 g1 o1 bo rbo l1 t1
 refine ⟨_,_,_,rfl,fun L hp=>∃ (i:Nat) (g o:Heap),i<=n/\L=[I (i:Int)]/\h.le g/\Mt hp g o bo rbo n cols (Dt P Q w i 0 0),fun L _=>n-(iAt L 0).toNat,⟨0,g1,o1,by omega,rfl,l1,t1.congr fun a b _ _=>(A2l P Q w a b).symm⟩,?_⟩
 rintro z hp ⟨i,g,o,hi,eL,lg,t⟩
 obtain rfl:=sI1 eL
 refine B6 (fun hlt=>?_) (fun hge=>?_)
 ·have hin:i<n:=by omega
  obtain ⟨a1,s1,ea1,f1,f2,hc1,row1⟩:=ra.at hin
  refine ⟨fun L hp=>∃ (k:Nat) (g o:Heap),k<=w/\L=[I (k:Int)]/\h.le g/\Mt hp g o bo rbo n cols (Dt P Q w i k 0),fun L _=>w-(iAt L 0).toNat,⟨0,g,o,by omega,rfl,lg,t⟩,?_⟩
  rintro z hp2 ⟨k,g2,o2,hk,eL2,lg2,t2⟩
  obtain rfl:=sI1 eL2
  refine B6 (fun hlt2=>?_) (fun hge2=>?_)
  ·have hkw:k<w:=by omega
   obtain ⟨a2,s2,ea2,f3,f4,hc2,row2⟩:=rb.at hkw
   refine ⟨fun L hp=>∃ (j:Nat) (g o:Heap),j<=cols/\L=[I (j:Int)]/\h.le g/\Mt hp g o bo rbo n cols (Dt P Q w i k j),fun L _=>cols-(iAt L 0).toNat,⟨0,g2,o2,by omega,rfl,lg2,t2⟩,?_⟩
   rintro z hp3 ⟨j,g3,o3,hj,eL3,lg3,t3⟩
   obtain rfl:=sI1 eL3
   have lhp:=B0 lg3 t3.sep.le
   have next:(j=cols\/P i k=0)->((∃ (k':Nat) (g o:Heap),k'<=w/\[I (B5 ((k:Int)+1))]=[I (k':Int)]/\h.le g/\Mt hp3 g o bo rbo n cols (Dt P Q w i k' 0))/\w-(iAt [I (B5 ((k:Int)+1))] 0).toNat<w-(iAt [I (k:Int)] 0).toNat):=by
    intro hx
    rw [wiS k (by omega)]
    exact ⟨⟨k+1,g3,o3,by omega,rfl,lg3,t3.congr fun a b _ hb=>A5r P Q hx hb⟩,by simp only [Eu];omega⟩
   refine ⟨aB,eB,by omega,by omega,_,_,_,B9 lhp hcB,?_⟩
   rw [fB1]
   refine B6 (fun hlt3=>?_) (fun hge3=>next (.inl (by omega)))
   have hjc:j<cols:=by omega
   obtain ⟨a5,w5,e5,n5,c0,c1,c2',c3⟩:=(row1.mono Nd lg3).qat hkw
   obtain ⟨a6,w6,e6,n6,d0,d1,d2,d3⟩:=(row2.mono Nd lg3).qat hjc
   obtain ⟨cc,hcc,hh⟩:=t3.head hin
   obtain ⟨x,ix,x0,x1,x2,x3⟩:=t3.elem hin hjc
   refine ⟨a1,ea1,by omega,by omega,_,_,_,B9 lhp hc1,a5,e5,by omega,by omega,_,_,_,_,_,_,_,_,B9 t3.sep.le c0,B9 t3.sep.le c1,B9 t3.sep.le c2',B9 t3.sep.le c3,?_⟩
   refine Hm (NQ.mono t3.sep.le n5) ⟨_,rfl,H1 (fun hne=>?_) (fun he=>next (.inr (by rw [Int.sign_eq_zero_iff_zero] at he;exact Rat.num_eq_zero.1 he)))⟩
   refine ⟨_,rfl,by omega,by omega,_,_,_,t3.sep.cell hh,_,rfl,by omega,by omega,_,_,_,t3.sep.cell hh,_,rfl,by omega,by omega,_,_,_,_,_,_,_,_,t3.sep.cell x0,t3.sep.cell x1,t3.sep.cell x2,t3.sep.cell x3,a1,ea1,by omega,by omega,_,_,_,B9 lhp hc1,a5,e5,by omega,by omega,_,_,_,_,_,_,_,_,B9 t3.sep.le c0,B9 t3.sep.le c1,B9 t3.sep.le c2',B9 t3.sep.le c3,a2,ea2,by omega,by omega,_,_,_,B9 lhp hc2,a6,e6,by omega,by omega,_,_,_,_,_,_,_,_,B9 t3.sep.le d0,B9 t3.sep.le d1,B9 t3.sep.le d2,B9 t3.sep.le d3,?_⟩
   refine t3.sep.call (A03 (a:=w5) (b:=w6) n5 n6 (hs i k hin hkw) (hs2 k j hkw hjc) (by omega) ?_)
   intro w7 g7 l7 i7 h7 s7
   refine ⟨_,_,_,_,_,_,_,_,rfl,t3.sep.le_le s7 l7,?_⟩
   have ev:Dt P Q w i k j i j=sm k (fun t=>P i t*Q t j):=by
    unfold Dt
    rw [if_neg (C3n i),if_pos rfl,if_neg (C3n j)]
   rw [ev] at ix
   have hkm:k*(2*m+1)<=w*(2*m+1):=C35 _ hk
   refine s7.call (A06 (a:=x) (b:=w7) (m:=1+k*(2*m+1)+2*m) (NQ.mono l7 ix) i7 ((B8c (f:=fun t=>P i t) (f2:=fun t=>Q t j) (fun t ht=>hs i t hin ht) (fun t ht=>hs2 t j ht hjc) k hk).mono (by omega)) (((hs i k hin hkw).mul (hs2 k j hkw hjc)).mono (by omega)) (by omega) ?_)
   intro w8 g8 l8 i8 h8 s8
   have t8:Mt h8 g8 o3 bo rbo n cols (Dt P Q w i k j):=t3.next s8 (B0 l7 l8)
   refine ⟨_,_,_,_,_,_,_,_,rfl,s7.le_le s8 l8,_,rfl,by omega,by omega,?_⟩
   refine t8.store hin hjc i8 ?_
   intro h9 o9 t9 _
   rw [wiS j (by omega)]
   exact ⟨⟨j+1,g8,o9,by omega,rfl,B0 lg3 (B0 l7 l8),t9.congr fun a b _ _=>A5q P Q w i k j a b⟩,by simp only [Eu];omega⟩
  ·have:k=w:=by omega
   subst this
   rw [wiS i (by omega)]
   exact ⟨⟨i+1,g2,o2,by omega,rfl,lg2,t2.congr fun a b _ _=>A82 P Q k i a b⟩,by simp only [Eu];omega⟩
 ·have:i=n:=by omega
  subst this
  exact hK hp g o bo rbo lg (t.congr fun a b ha _=>by unfold Dt;rw [if_pos ha])
theorem A2v(ra:RowsV h A n w P)(rb:RowsV h B w cols Q)(hn1:1<=n)(hn:n<=10000)(hw1:1<=w)(hw:w<=10000)(hc1:1<=cols)(hc:cols<=10000)(hs:∀ i j,i<n->j<w->Sz m (P i j))(hs2:∀ i j,i<w->j<cols->Sz m (Q i j))(hm:1+w*(2*m+1)+2*m<=400000000)
 (hK:∀ bo h',h.le h'->RowsV h' (some ⟨bo,0,none⟩) n cols (fun a b=>sm w (fun t=>P a t*Q t b))->K (.slice (some ⟨bo,0,none⟩) n n) h'):FCall prog Qd #[.slice A n cap,.slice B w cap2] h K:=
 A0m ra rb hn1 hn hw1 hw hc1 hc hs hs2 hm fun h' g' _ bo _ l t=>hK bo h' (B0 l t.sep.le) t.rowsV
end
def inR(bo:Nat)(rb:Nat->Nat)(n x:Nat):Prop:=x=bo\/∃ i,i<n/\x=rb i
section
variable {h:Heap} {K:VP} {n:Nat}
end
structure Gd (h g o:Heap) (ba:Nat) (ra:Nat->Nat) (bl:Nat) (rl:Nat->Nat) (n:Nat) (P L:Nat->Nat->Rat) (A:Option Addr) (c k:Nat) (D:Nat->Rat):Prop where
 a:Mt h g o ba ra n n P
 l:Mt h g o bl rl n n L
 d:∃ xs:List QV,OwnSl o T6 A c xs/\xs.length=k/\Row NQr g xs k D
 al:∀ x,inR ba ra n x->¬ inR bl rl n x
 ad:∀ x,A=some ⟨x,0,none⟩->¬ inR ba ra n x/\¬ inR bl rl n x
section
variable {h g o:Heap} {ba bl n c k:Nat} {ra rl:Nat->Nat} {P L:Nat->Nat->Rat} {A:Option Addr} {D:Nat->Rat}
end
section
variable {h:Heap} {K:VP} {A:Option Addr} {n cap Q:Nat} {E:Nat->Rat}
end
end Go.Proofs.YtajkakhfcokljaaGreatDoor
namespace Go.Proofs.YtajkakhfcokljaaGreatDoor
set_option maxRecDepth 20000
structure LUS where
 R:Nat->Nat->Rat
 L:Nat->Nat->Rat
 p:Nat->Nat
def B8h(n c:Nat)(s:LUS):Nat:=fnd (fun i=>decide (s.R i c≠0)) (n-c) c
def C0v(R:Nat->Nat->Rat)(c:Nat):Nat->Nat->Rat:=fun i j=>if i<=c\/j<c then R i j else R i j-R i c/R c c*R c j
def C0x(R L:Nat->Nat->Rat)(c:Nat):Nat->Nat->Rat:=fun i j=>if j=c then (if i=c then 1 else if c<i then R i c/R c c else 0) else L i j
def C0w(n c:Nat)(s:LUS):LUS:=
 { R:=C0v (fun i=>s.R (xch c (B8h n c s) i)) c
   L:=C0x (fun i=>s.R (xch c (B8h n c s) i)) (fun i=>s.L (xch c (B8h n c s) i)) c
   p:=fun i=>s.p (xch c (B8h n c s) i) }
def C0y(n:Nat)(M:Nat->Nat->Rat):Nat->LUS
 | 0=>⟨M,fun _ _=>0,fun i=>i⟩
 | c+1=>C0w n c (C0y n M c)
structure LuI (n c m:Nat) (M:Nat->Nat->Rat) (s:LUS):Prop where
 zero:∀ i j,i<n->c<=i->j<c->s.R i j=0
 lz:∀ i j,c<=j->s.L i j=0
 szR:∀ i j,i<n->j<n->Sz (7^c*m) (s.R i j)
 szL:∀ i j,i<n->j<n->Sz (7^c*m) (s.L i j)
 len:(B67 n ⟨M,[],1⟩ c).cs.length=c
 sync:∀ i j,i<n->c<=i->(B67 n ⟨M,[],1⟩ c).R i j=s.R i j
def inM(bo:Nat)(rb:Nat->Nat)(n x:Nat):Prop:=x=bo\/∃ i,i<n/\x=rb i
structure Lu3 (h g o:Heap) (bu:Nat) (ru:Nat->Nat) (bl:Nat) (rl:Nat->Nat) (bp n:Nat) (U L:Nat->Nat->Rat) (p:Nat->Nat):Prop where
 u:Mt h g o bu ru n n U
 l:Mt h g o bl rl n n L
 p:∃ ps:List Int,RowB o bp ps/\ps.length=n/\∀ i,i<n->ps[i]? = some ((p i:Nat):Int)
 ul:∀ x,inM bu ru n x->¬ inM bl rl n x
 pu:¬ inM bu ru n bp
 pl:¬ inM bl rl n bp
section
variable {h g o:Heap} {bu bl bp n:Nat} {ru rl:Nat->Nat} {U L:Nat->Nat->Rat} {p:Nat->Nat}
end
structure LOut where
 d:Int
 n:Nat
 q:Nat
 p:Nat->Nat
 l:Nat->List UInt8
 u:Nat->List UInt8
 e:Int
section
variable {h:Heap} {K:VP} {A:Option Addr} {n cap m:Nat} {r c:Int} {la:Nat->List UInt8}
end
def QM(g o:Heap)(b n:Nat)(L:Nat->Nat->Rat):Prop:=∃ xs:List QV,RowX o b xs/\xs.length=n*n/\∀ i j,i<n->j<n->∃ w,xs[i*n+j]? = some w/\RQ g w (L i j)
def inT(T:Tb)(x:Nat):Prop:=x=T.bt\/x=T.bE\/x=T.bS
section
variable {g o:Heap} {b n:Nat} {L:Nat->Nat->Rat}
end
structure LuT (h g o:Heap) (T:Tb) (M:Nat->Nat->Int) (S:Nat->Rat) (bp bl bu n:Nat) (p:Nat->Nat) (L U:Nat->Nat->Rat):Prop where
 t:Tab h g o T M S
 p:∃ ps:List Int,RowB o bp ps/\ps.length=n/\∀ i,i<n->ps[i]? = some ((p i:Nat):Int)
 l:QM g o bl n L
 u:QM g o bu n U
 tp:¬ inT T bp
 tl:¬ inT T bl
 tu:¬ inT T bu
 pl:bp≠bl
 pu:bp≠bu
 lu:bl≠bu
section
variable {h g o:Heap} {T:Tb} {M:Nat->Nat->Int} {S:Nat->Rat} {bp bl bu n:Nat} {p:Nat->Nat} {L U:Nat->Nat->Rat}
end
theorem fr2{l si ri sk rk:Rat}(hl:l≠0)(hi:si≠0)(hk:sk≠0):l*(si*ri)/(l*(sk*rk))*sk/si=ri/rk:=by
 have h1:=C3l _ hl
 have h2:=C3l _ hi
 have h3:=C3l _ hk
 rw [C40,C40,C40,Rat.inv_mul_rev,Rat.inv_mul_rev]
 grind
structure LuF (E:Nat->Rat) (n k m:Nat):Prop where
 row:A47 n k (elP E n n k)=B8h n k (C0y n (mtx E n) k)
 val:∀ i j,i<n->k<=i->j<n->((elP E n n k).M i j:Rat)=(elP E n n k).last*((elP E n n k).S i*(C0y n (mtx E n) k).R i j)
 last:(elP E n n k).last≠0
 S:∀ i,i<n->(elP E n n k).S i≠0
 len:(elP E n n k).cs.length=k
 zM:∀ a b,a<n->b<n->ZB (3^k*bnd n m) ((elP E n n k).M a b)
 zl:ZB (3^k*bnd n m) (elP E n n k).last
 zS:∀ a,a<n->Sz (bnd n m) ((elP E n n k).S a)
section
variable {h:Heap} {K:VP} {A:Option Addr} {n cap m:Nat} {r c:Int} {la:Nat->List UInt8}
end
section
variable {h:Heap} {K:VP} {A B:Option Addr} {n n2 cap cap2 m:Nat} {r c r2 c2:Int} {la lb:Nat->List UInt8}
end
def C0z(la:Nat->List UInt8)(mid:Nat)(lb:Nat->List UInt8)(cols:Nat):Nat->List UInt8:=fun k=>K3 (sm mid (fun j=>mtx (rvs la) mid (k/cols) j*mtx (rvs lb) cols j (k%cols)))
def B1z(la:Nat->List UInt8)(rows cols:Nat):Nat->List UInt8:=fun k=>la (k%rows*cols+k/rows)
theorem A9h{i j c:Nat}(hj:j<c):(i*c+j)/c=i/\(i*c+j)%c=j:=by
 rw [C3x,C3d,C3h hj,C3g _ _ (by omega),C3i hj,C3k]
 exact ⟨rfl,rfl⟩
theorem A7h(la:Nat->List UInt8){rows cols i j:Nat}(hj:j<rows):mtx (rvs (B1z la rows cols)) rows i j=mtx (rvs la) cols j i:=by
 obtain ⟨e1,e2⟩:=A9h (i:=i) hj
 show rv (la ((i*rows+j)%rows*cols+(i*rows+j)/rows))=_
 rw [e1,e2]
 rfl
section
variable {r c r2 c2:Int} {n n2 m rows mid mid2 cols:Nat} {la lb:Nat->List UInt8} {o:MOut}
theorem MOk.turn(ma:MOk r c n la rows cols):MOk c r n (B1z la rows cols) cols rows:=by
 refine ⟨ma.ec,ma.er,ma.c1,ma.c2,ma.r1,ma.r2,by rw [ma.len,C3c],fun i hi=>ma.num _ ?_⟩
 have e:=ma.len
 have hr:=ma.r1
 rw [e] at hi ⊢
 exact K9 (C3p i (by omega)) (C3a hi)
theorem MOk.uniq{rows2 cols2:Nat}(ma:MOk r c n la rows cols)(mb:MOk r c n la rows2 cols2):rows2=rows/\cols2=cols:=by
 have:=ma.er;have:=ma.ec;have:=mb.er;have:=mb.ec
 omega
theorem MulO.ok(ma:MOk r c n la rows mid)(mb:MOk r2 c2 n2 lb mid2 cols)(ho:MulO r c n la r2 c2 n2 lb o):(mid=mid2/\c=r2/\o=⟨r,c2,rows*cols,C0z la mid lb cols,0⟩)\/(mid≠mid2/\c≠r2/\o=noM 4):=by
 rcases ho with ⟨h1,_⟩|⟨_,_,h3,rfl⟩|⟨a1,b1,c1,h1,h2,rfl⟩
 ·exact absurd ⟨⟨_,_,ma⟩,⟨_,_,mb⟩⟩ h1
 ·exact .inr ⟨by rintro rfl;exact h3 (by rw [ma.ec,mb.er]),h3,rfl⟩
 ·obtain ⟨rfl,rfl⟩:=ma.uniq h1
  obtain ⟨rfl,rfl⟩:=mb.uniq h2
  exact .inl ⟨rfl,by rw [h1.ec,h2.er],rfl⟩
end
section
variable {h:Heap} {K:VP} {A:Option Addr} {n cap m:Nat} {r c:Int} {la:Nat->List UInt8}
end
section
variable {h g o:Heap} {wA B:Option Addr} {wc be m d:Nat} {hd:List HV} {xs ys:List QV}
end
section
variable {h:Heap} {K:VP} {A B:Option Addr} {n cap m:Nat} {r c:Int} {la:Nat->List UInt8} {E:Nat->Rat}
end
set_option maxRecDepth 20000
section
variable {h:Heap} {K:VP} {A:Option Addr} {n ac N cap:Nat} {r c:Int} {la:Nat->List UInt8}
end
section
variable {h:Heap} {A:Option Addr} {n cap:Nat} {r c:Int} {ls:Nat->List UInt8}
end
section
variable {h:Heap} {K:VP} {A:Option Addr} {n cap m:Nat} {r c:Int} {la:Nat->List UInt8}
end
theorem B8b{w m m2:Nat}{f f2:Nat->Rat}(hs:∀ i,i<w->Sz m (f i))(hs2:∀ i,i<w->Sz m2 (f2 i)):∀ k,k<=w->Sz (1+k*(m+m2+1)) (sm k (fun j=>f j*f2 j)):=by
 intro k
 induction k with
 | zero=>intro _;exact Sz.zero (by omega)
 | succ k ih=>
  intro hk
  have h1:=ih (by omega)
  have h2:=(hs k (by omega)).mul (hs2 k (by omega))
  have e:1+(k+1)*(m+m2+1)=1+k*(m+m2+1)+(m+m2)+1:=by rw [C3r];omega
  rw [e]
  exact h1.add h2
section
variable {h:Heap} {K:VP} {A B lA cA:Option Addr} {n ln lc cn cc cap cap2 m m2:Nat} {ls cs:Nat->List UInt8} {R:Nat->Nat->Rat} {f:Nat->Rat}
end
def C1o(q:Nat)(L:Nat->Nat->Rat):Prop:=∀ i,i<q->L i i=1/\∀ j,i<j->j<q->L i j=0
def B1p(q:Nat)(L:Nat->Nat->Rat)(d:Nat->Rat):Nat->Nat->Rat:=fun a b=>sm q fun t=>L a t*d t*L b t
structure ExpK (r c:Int) (n:Nat) (ls:Nat->List UInt8) (dn:Nat) (ds:Nat->List UInt8) (q:Nat):Prop where
 mok:MOk r c n ls q q
 num:∀ i,i<dn->IsNum (ds i)
 dn:dn=q
 low:C1o q (mtx (rvs ls) q)
def ExpO(r c:Int)(n:Nat)(ls:Nat->List UInt8)(dn:Nat)(ds:Nat->List UInt8)(o:MOut):Prop:=
 (¬ (Mx r c n ls/\∀ i,i<dn->IsNum (ds i))/\o=noM 1)\/((Mx r c n ls/\∀ i,i<dn->IsNum (ds i))/\(¬ ∃ q,ExpK r c n ls dn ds q)/\o=noM 4)\/∃ q,ExpK r c n ls dn ds q/\o=⟨(q:Int),(q:Int),q*q,Pj (B1p q (mtx (rvs ls) q) (rvs ds)) q,0⟩
theorem ExpK.uniq{r c:Int}{n dn:Nat}{ls ds:Nat->List UInt8}{q q':Nat}(x:ExpK r c n ls dn ds q)(y:ExpK r c n ls dn ds q'):q=q':=by have:=x.dn;have:=y.dn;omega
theorem ExpO.eq{r c:Int}{n dn:Nat}{ls ds:Nat->List UInt8}{o p:MOut}(x:ExpO r c n ls dn ds o)(y:ExpO r c n ls dn ds p):o=p:=by
 rcases x with ⟨x1,rfl⟩|⟨x1,x2,rfl⟩|⟨q,x1,rfl⟩<;>rcases y with ⟨y1,rfl⟩|⟨y1,y2,rfl⟩|⟨q',y1,rfl⟩
 ·rfl
 ·exact absurd y1 x1
 ·exact absurd ⟨⟨_,_,y1.mok⟩,y1.num⟩ x1
 ·exact absurd x1 y1
 ·rfl
 ·exact absurd ⟨_,y1⟩ x2
 ·exact absurd ⟨⟨_,_,x1.mok⟩,x1.num⟩ y1
 ·exact absurd ⟨_,x1⟩ y2
 ·obtain rfl:=x1.uniq y1;rfl
theorem ExpO.n_le{r c:Int}{n dn:Nat}{ls ds:Nat->List UInt8}{o:MOut}(x:ExpO r c n ls dn ds o):o.n<=4096:=by
 rcases x with ⟨_,rfl⟩|⟨_,_,rfl⟩|⟨q,x,rfl⟩
 ·exact Nat.zero_le _
 ·exact Nat.zero_le _
 ·have:=x.mok.r2
  exact C3b this this
theorem B6t{q m:Nat}{L:Nat->Nat->Rat}{d:Nat->Rat}(hL:∀ i j,i<q->j<q->Sz m (L i j))(hd:∀ i,i<q->Sz m (d i)){i j:Nat}(hi:i<q)(hj:j<q):Sz (1+q*(2*m+m+1)) (B1p q L d i j):=
 B8b (m:=2*m) (f:=fun t=>L i t*d t) (f2:=fun t=>L j t) (fun t ht=>((hL i t hi ht).mul (hd t ht)).mono (by omega)) (fun t ht=>hL j t hj ht) q (C34 _)
theorem B6k{q i j:Nat}(h:q<=64)(hi:i<q)(hj:j<q):B5 (B5 ((i:Int)*(q:Int))+(j:Int))=((i*q+j:Nat):Int):=by
 have:=K9 hi hj
 have hqq:q*q<=64*64:=C3b h h
 rw [<- C3e,L8 (by omega)]
 exact L8 (n:=i*q+j) (by omega)
section
variable {h:Heap} {K:VP} {A B:Option Addr} {n cap cap2 dn m d:Nat} {r c:Int} {ls ds:Nat->List UInt8}
theorem A2e{w:QV}{q:Rat}(i:RQ h w q)(hK:K (.bool (decide (q=1))) h):FCall prog Xm #[w.v] h K:=by
 refine B0n _ _ _ _ _ _ _ _ ?_
 unfold B57
 have e1:q=1↔q.num=1/\q.den=1:=⟨fun e=>by rw [e];exact ⟨rfl,rfl⟩,fun ⟨a,b⟩=>Rat.ext a b⟩
 have hd:=q.den_nz
 refine F6 i.den ⟨_,rfl,B6 (fun h1=>?_) (fun h1=>?_)⟩
 ·have h2:q.den=1:=by
   by_cases c:q.den=1
   ·exact c
   ·rw [if_neg c] at h1;omega
  refine O7 i.num ⟨_,rfl,?_⟩
  rw [show decide (q.num=1)=decide (q=1) from decide_eq_decide.2 (by rw [e1];exact ⟨fun a=>⟨a,h2⟩,fun a=>a.1⟩)]
  exact hK
 ·rw [decide_eq_false fun e=>h1 (by rw [if_pos (e1.1 e).2])] at hK
  exact hK
theorem Ox(gl:Gl h)(rl:RowV SSr h A n ls)(rd:RowV SSr h B dn ds)(hn:n<=1000000)(hdn:dn<=1000000)(hl:∀ i,i<n->(ls i).length<=100000000)(hl2:∀ i,i<dn->(ds i).length<=100000000)(hs:∀ i,i<n->Sz m (rv (ls i)))(hs2:∀ i,i<dn->Sz m (rv (ds i)))(hm1:1<=m)(hd:∀ q,MOk r c n ls q q->q<=d)(hm:2*(1+d*(4*m+1)+4*m)+14<=40000000)
 (hK:∀ o,ExpO r c n ls dn ds o->∀ A' cap' h',h.le h'->RowV SSr h' A' o.n o.f->K (.tuple #[Jl o.r o.c A' o.n cap',I o.e]) h'):FCall prog Lh #[.agg #[I r,I c,.slice A n cap,.slice B dn cap2]] h K:=by
 refine A6y _ _ _ _ _ _ _ _ ?_
 unfold B1g
 have bad:¬ (Mx r c n ls/\∀ i,i<dn->IsNum (ds i))->∀ h',h.le h'->K (.tuple #[Jl 0 0 none 0 0,I 1]) h':=fun hx h' l=>hK (noM 1) (.inl ⟨hx,rfl⟩) none 0 h' l RowV.nil
 refine Cq gl rl hn hl (fun rows cols mk b1 h1 own=>?_) (fun hno h1 l1=>⟨_,_,_,_,rfl,Fs (gl.mono l1) (rd.mono N4 l1) hdn hl2 (fun _ b2 h2 own2=>⟨_,_,_,_,rfl,Oc (bad (fun x=>hno x.1) h2 (B0 l1 own2.le))⟩) (fun _ h2 l2=>⟨_,_,_,_,rfl,Oc (bad (fun x=>hno x.1) h2 (B0 l1 l2))⟩)⟩)
 obtain ⟨g1,o1,xs,lg1,s1,rx,hx,rr⟩:=own.ex
 refine ⟨_,_,_,_,rfl,s1.call (Fs (gl.mono lg1) (rd.mono N4 lg1) hdn hl2 ?_ (fun hno g2 l2 h2 s2=>⟨_,_,_,_,rfl,Br.nt (Oc (bad (fun x=>hno x.2) h2 (B0 lg1 (B0 l2 s2.le))))⟩))⟩
 intro hnum b2 g2 own2 h2 s2
 refine ⟨_,_,_,_,rfl,Br.nt (Br.nt ?_)⟩
 have l12:=own2.le
 have lg2:=B0 lg1 l12
 have lh2:=B0 lg2 s2.le
 have ov:=own2.vis O0
 have bad4:(¬ ∃ q,ExpK r c n ls dn ds q)->K (.tuple #[Jl 0 0 none 0 0,I 4]) h2:=fun hx=>hK (noM 4) (.inr (.inl ⟨⟨⟨_,_,mk⟩,hnum⟩,hx,rfl⟩)) none 0 h2 lh2 RowV.nil
 have er:=mk.er
 have ec:=mk.ec
 refine H1 (fun e=>bad4 fun ⟨q,x⟩=>e (by have:=x.mok.er;have:=x.mok.ec;omega)) (fun e1=>H1 (fun e=>bad4 fun ⟨q,x⟩=>e (by have:=x.mok.er;have:=x.dn;omega)) (fun e2=>?_))
 obtain rfl:rows=cols:=by omega
 obtain rfl:dn=rows:=by omega
 have q64:=mk.r2
 have q1:=mk.r1
 have hqd:=hd dn mk
 have lowOf:∀ q,ExpK r c n ls dn ds q->C1o dn (mtx (rvs ls) dn):=fun q x=>by have e:=x.dn;rw [e];exact x.low
 obtain ⟨rfl,rfl,_,_,_,_,rfl,hln⟩:=id mk
 have qb:QB g2 o1 b1 (dn*dn) (rvs ls):=⟨xs,rx,hx,rr.mono O0 l12⟩
 clear rr rx hx
 have hqq:dn*dn<=64*64:=C3b q64 q64
 have ew:∀ {j:Nat},j<dn->B5 ((j:Int)+1)=((j+1:Nat):Int):=fun {j} hj=>by rw [B7]<;>omega
 refine ⟨fun L hp=>∃ i:Nat,i<=dn/\L=[I (i:Int),I 0,I 0,.slice none 0 0]/\hp=h2/\∀ a,a<i->mtx (rvs ls) dn a a=1/\∀ j,a<j->j<dn->mtx (rvs ls) dn a j=0,fun L _=>dn-(iAt L 0).toNat,⟨0,by omega,rfl,rfl,fun a ha=>by omega⟩,?_⟩
 rintro z0 z1 z2 zA zn zc hp ⟨i,hi,eL,rfl,hlow⟩
 simp only [C3z,C43,Value.slice.injEq,true_and,and_true] at eL
 obtain ⟨rfl,rfl,rfl,rfl,rfl,rfl⟩:=eL
 refine B6 (fun hlt=>?_) (fun hge=>?_)
 ·have hin:i<dn:=by omega
  obtain ⟨w,iw,c0,c1,c2,c3⟩:=qb.at (K9 hin hin)
  rw [B6k q64 hin hin]
  have hix:=K9 hin hin
  refine ⟨_,rfl,by omega,by omega,_,_,_,_,_,_,_,_,s2.cell c0,s2.cell c1,s2.cell c2,s2.cell c3,?_⟩
  refine A2e (O0 _ _ _ _ s2.le iw) ⟨_,rfl,O5 (B6 (fun eone=>?_) (fun hno=>bad4 fun ⟨q,x⟩=>hno (lowOf q x i hin).1))⟩
  rw [ew hin]
  refine ⟨fun L hy=>∃ j:Nat,i<j/\j<=dn/\L=[I (j:Int),I 0,I 0,.slice none 0 0]/\hy=hp/\∀ t,i<t->t<j->mtx (rvs ls) dn i t=0,fun L _=>dn-(iAt L 0).toNat,⟨i+1,by omega,by omega,rfl,rfl,fun t h1 h2=>by omega⟩,?_⟩
  rintro y0 y1 y2 yA yn yc hy ⟨j,hj1,hj2,eL,rfl,hz⟩
  simp only [C3z,C43,Value.slice.injEq,true_and,and_true] at eL
  obtain ⟨rfl,rfl,rfl,rfl,rfl,rfl⟩:=eL
  refine B6 (fun hlt2=>?_) (fun hge2=>?_)
  ·have hjn:j<dn:=by omega
   obtain ⟨w,iw,c0,c1,c2,c3⟩:=qb.at (K9 hin hjn)
   have hix:=K9 hin hjn
   rw [B6k q64 hin hjn,ew hjn]
   refine ⟨_,rfl,by omega,by omega,_,_,_,_,_,_,_,_,s2.cell c0,s2.cell c1,s2.cell c2,s2.cell c3,?_⟩
   refine Fq (O0 _ _ _ _ s2.le iw) ⟨_,rfl,O5 (B6 (fun e0=>?_) (fun hno=>bad4 fun ⟨q,x⟩=>hno ((lowOf q x i hin).2 j hj1 hjn)))⟩
   refine ⟨⟨j+1,by omega,by omega,rfl,rfl,fun t h1 h2=>?_⟩,by simp only [Eu];omega⟩
   by_cases e:t=j
   ·rw [e];exact e0
   ·exact hz t h1 (by omega)
  ·refine ⟨⟨i+1,by omega,rfl,rfl,fun a ha=>?_⟩,by simp only [Eu];omega⟩
   by_cases e:a=i
   ·rw [e];exact ⟨eone,fun t h1 h2=>hz t h1 (by omega)⟩
   ·exact hlow a (by omega)
 obtain rfl:i=dn:=by omega
 have good:∀ o:MOut,o=⟨(i:Int),(i:Int),i*i,Pj (B1p i (mtx (rvs ls) i) (rvs ds)) i,0⟩->∀ A' cap' h',h.le h'->RowV SSr h' A' o.n o.f->K (.tuple #[Jl o.r o.c A' o.n cap',I o.e]) h':=fun o eo=>hK o (.inr (.inr ⟨i,⟨mk,hnum,rfl,hlow⟩,eo⟩))
 refine ⟨fun L hx=>∃ (a:Nat) (g o:Heap),a<=i/\L=[I (a:Int)]/\g2.le g/\Sep hx g o/\QB g o b1 (i*i) (fun t=>if t<a*i then rvs ls t*rvs ds (t%i) else rvs ls t),fun L _=>i-(iAt L 0).toNat,⟨0,g2,o1,by omega,rfl,B4 _,s2,qb.congr fun t _=>by rw [if_neg (by omega)]⟩,?_⟩
 clear qb s2
 rintro z hx ⟨a,g,o,ha,eL,lg,s,qb⟩
 obtain rfl:=sI1 eL
 refine B6 (fun hlt=>?_) (fun hge=>?_)
 ·have hai:a<i:=by omega
  have ha1:(a+1)*i=a*i+i:=by rw [C3r,C41]
  refine ⟨fun L hy=>∃ (j:Nat) (g o:Heap),j<=i/\L=[I (j:Int)]/\g2.le g/\Sep hy g o/\QB g o b1 (i*i) (fun t=>if t<a*i+j then rvs ls t*rvs ds (t%i) else rvs ls t),fun L _=>i-(iAt L 0).toNat,⟨0,g,o,by omega,rfl,lg,s,qb⟩,?_⟩
  clear qb s lg
  rintro z3 hy ⟨j,g,o,hj,eL,lg,s,qb⟩
  obtain rfl:=sI1 eL
  refine B6 (fun hlt2=>?_) (fun hge2=>?_)
  ·have hji:j<i:=by omega
   have hix:=K9 hai hji
   obtain ⟨w,iw,c0,c1,c2,c3⟩:=qb.at hix
   rw [if_neg (C3n _)] at iw
   obtain ⟨a2,w2,e2',i2,d0,d1,d2,d3⟩:=(ov.mono O0 lg).qat hji
   rw [B6k q64 hai hji,ew hji]
   refine ⟨_,rfl,by omega,by omega,_,_,_,_,_,_,_,_,s.cell c0,s.cell c1,s.cell c2,s.cell c3,a2,e2',by omega,by omega,_,_,_,_,_,_,_,_,B9 s.le d0,B9 s.le d1,B9 s.le d2,B9 s.le d3,?_⟩
   refine s.call (Ux (a:=w) (b:=w2) (gl.mono (B0 lg2 lg)).tz iw i2 (hs _ hix) (hs2 j hji) (by omega) ?_)
   intro w6 g6 l6 i6 h6 s6
   refine ⟨_,_,_,_,_,_,_,_,rfl,s.le_le s6 l6,_,rfl,by omega,by omega,?_⟩
   refine (qb.ko l6 rfl).store s6 hix i6 ?_
   intro h7 o7 s7 q7 _
   refine ⟨⟨j+1,g6,o7,by omega,rfl,B0 lg l6,s7,q7.congr fun t _=>?_⟩,by simp only [Eu];omega⟩
   by_cases e:t=a*i+j
   ·rw [if_pos e,if_pos (by omega),e,(Lj (n:=i) (i:=a) hji).2]
   ·rw [if_neg e]
    by_cases e3:t<a*i+j
    ·rw [if_pos e3,if_pos (by omega)]
    ·rw [if_neg e3,if_neg (by omega)]
  ·obtain rfl:j=i:=by omega
   rw [ew hai]
   exact ⟨⟨a+1,g,o,by omega,rfl,lg,s,qb.congr fun t _=>by rw [ha1]⟩,by simp only [Eu];omega⟩
 obtain rfl:a=i:=by omega
 have lx:=B0 lg2 (B0 lg s.le)
 have rq:RowV RQr hx (some ⟨b1,0,none⟩) (a*a) (fun t=>rvs ls t*rvs ds (t%a)):=(qb.rowV s).congr fun t ht=>by rw [if_pos ht]
 refine Rc (gl.mono lx) (rl.mono N4 lx) hn hl ?_ (fun hno=>absurd ⟨_,_,mk⟩ hno)
 intro r3 c3 mk3 h3 A3 cp3 own3
 obtain rfl:a=r3:=(mk.uniq mk3).1.symm
 obtain rfl:a=c3:=(mk.uniq mk3).2.symm
 refine ⟨_,_,_,_,_,_,rfl,?_⟩
 have l03:=B0 lx own3.le
 have rt:RowV SSr h3 A3 (a*a) (B1z ls a a):=own3.vis
 have zm:∀ t,t<a*a->Sz (2*m) (rvs ls t*rvs ds (t%a)):=fun t ht=>((hs t ht).mul (hs2 _ (C3p t (by omega)))).mono (by omega)
 refine Bq (m:=2*m) (gl.mono l03) (rq.mono O0 own3.le) hn zm (by omega) ?_
 intro b4 h4 own4
 refine ⟨_,_,_,rfl,own4.le,?_⟩
 have l04:=B0 l03 own4.le
 have mk4:MOk (a:Int) (a:Int) (a*a) (fun t=>K3 (rvs ls t*rvs ds (t%a))) a a:=⟨rfl,rfl,q1,q64,q1,q64,rfl,fun _ _=>⟨_,rfl⟩⟩
 have mkt:=mk.turn
 have hda:a*(4*m+1)<=d*(4*m+1):=C35 _ hqd
 refine A5w (m:=2*m) (d:=a) (gl.mono l04) (own4.vis N4) (rt.mono N4 own4.le) hn hn (fun t ht=>Nat.le_trans (B1w (zm t ht)) (by omega)) (fun t ht=>hl _ (K9 (C3p t (by omega)) (C3a ht))) (fun t ht=>by rw [Ka];exact zm t ht) (fun t ht=>(hs _ (K9 (C3p t (by omega)) (C3a ht))).mono (by omega)) (by omega) (fun x y mk'=>by obtain ⟨_,rfl⟩:=mk4.uniq mk';omega) (by rw [show 2*(2*m)=4*m by omega];omega) ?_
 intro o5 ho5 A5 c5 h5 l5 r5
 rcases MulO.ok mk4 mkt ho5 with ⟨_,_,rfl⟩|⟨hne,_⟩
 rotate_left
 ·exact absurd rfl hne
 refine ⟨_,_,_,_,_,_,rfl,l5,good _ rfl A5 c5 h5 (B0 l04 l5) (r5.congr fun t ht=>?_)⟩
 have hj:=C3p t (show 0<a by omega)
 show K3 (sm a fun j=>mtx (rvs fun t=>K3 (rvs ls t*rvs ds (t%a))) a (t/a) j*mtx (rvs (B1z ls a a)) a j (t%a))=K3 (sm a fun j=>mtx (rvs ls) a (t/a) j*rvs ds j*mtx (rvs ls) a (t%a) j)
 congr 1
 refine I7 fun j hjk=>?_
 rw [A7h _ hj]
 congr 1
 show rv (K3 (rvs ls (t/a*a+j)*rvs ds ((t/a*a+j)%a)))=_
 rw [Ka,(Lj (n:=a) (i:=t/a) hjk).2]
 rfl
end
end Go.Proofs.YtajkakhfcokljaaGreatDoor
namespace Go.Proofs.YtajkakhfcokljaaGreatDoor
set_option maxRecDepth 20000
def ev(n:Nat)(f x:Nat->Rat):Rat:=sm n fun j=>f j*x j
structure Diag (n:Nat) (A:Nat->Nat->Rat) (d:Nat->Rat) (F:Nat->Nat->Rat):Prop where
 val:∀ x,qf n A x=sm n fun m=>d m*(ev n (F m) x*ev n (F m) x)
 inj:∀ x,(∀ m,m<n->ev n (F m) x=0)->∀ j,j<n->x j=0
structure PD (n k:Nat) (A0:Nat->Nat->Rat) (d:Nat->Rat) (F A:Nat->Nat->Rat):Prop where
 val:∀ x,qf n A0 x=sm k (fun m=>d m*(ev n (F m) x*ev n (F m) x))+qf n A (fun i=>ev n (F i) x)
 inj:∀ x,(∀ m,m<n->ev n (F m) x=0)->∀ j,j<n->x j=0
 zero:∀ i j,i<n->j<n->i<k\/j<k->A i j=0
 symm:A6k n A
end Go.Proofs.YtajkakhfcokljaaGreatDoor
namespace Go.Proofs.YtajkakhfcokljaaGreatDoor
set_option maxRecDepth 20000
structure TE (n k:Nat) (R:Nat->Nat->Rat) (M:Nat->Nat->Int) (S:Nat->Rat) (last:Int):Prop where
 elim:∃ B R',(∀ i j,i<n->j<n->Wh (B i j))/\Elim n n B R' (fun m=>m) k/\(last:Rat)=dp B (fun m=>m) k/\∀ i j,k<=i->i<n->j<n->R' i j=S i*R i j
 ne:last≠0
 val:∀ i j,k<=i->i<n->j<n->(M i j:Rat)=last*(S i*R i j)
 scale:∀ i,k<=i->i<n->0<S i
end Go.Proofs.YtajkakhfcokljaaGreatDoor
