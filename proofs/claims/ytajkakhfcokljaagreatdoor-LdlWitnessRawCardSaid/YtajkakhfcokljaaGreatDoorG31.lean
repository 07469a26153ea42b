/-
  Texts of this proof, merged by a program of ours.
-/
import Derived.Test.YtajkakhfcokljaaGreatDoorG29
import Derived.Test.YtajkakhfcokljaaGreatDoorG30
import Derived.Test.YtajkakhfcokljaaGreatDoorG21
import Derived.Deep.Strs
namespace Go.Proofs.YtajkakhfcokljaaGreatDoor
set_option maxRecDepth 20000
open Go
theorem Sep.storeRaw{P:Program}{t:TypeId}{m:Nat}(one:P.cellsOf t=m/\(P.info? t).isSome=true){v:Value}{vs:List Value}(hv:v.cells=vs.toArray)(hl:vs.length=m)(h1:∀ x∈vs,Zj x=true){h g o:Heap}(s:Sep h g o){b:Nat}{arr:List Value}{e:TypeId}(hb:o b=some (.cells arr.toArray e)){off:Nat}(hoff:off+m<=arr.length){K:Unit->Heap->Prop}
 (x:∀ h' o',o'=o.put b (.cells (J2 arr off vs).toArray e)->Sep h' g o'->K () h'):wpH P (Instr.storeAt t (.pointer (some ⟨b,off,none⟩)) v) K h:=by
 obtain ⟨ti,hti⟩:=Option.isSome_iff_exists.1 one.2
 have hs:ti.size=m:=by simpa [Program.cellsOf,hti] using one.1
 have hput:(h.without b).put b (.cells arr.toArray e)=h:=J8 (s.own b _ hb)
 unfold Instr.storeAt
 simp only [C4,Instr.sureAddr,F6,storeVar,J7 hti,hs,hv,List.size_toArray,hl,ne_eq,not_true_eq_false,if_false]
 rw [<- hput]
 refine I6 vs off 0 _ (by omega) h1 ?_
 rw [Nat.add_zero]
 have hp2:(h.without b).put b (.cells (J2 arr off vs).toArray e)=h.put b (.cells (J2 arr off vs).toArray e):=by
  rw [<- hput,Gi,hput]
 rw [hp2]
 exact x _ _ rfl (s.upd hb _)
theorem A5u:Tryz.prog.cellsOf Kq=1/\(Tryz.prog.info? Kq).isSome=true:=⟨by kernel_rfl,by kernel_rfl⟩
theorem A5t:Tryz.prog.cellsOf An=1/\(Tryz.prog.info? An).isSome=true:=⟨by kernel_rfl,by kernel_rfl⟩
def QB(g o:Heap)(b n:Nat)(f:Nat->Rat):Prop:=∃ xs:List QV,RowX o b xs/\xs.length=n/\Row RQr g xs n f
def onT(T:Tb)(x:Nat):Prop:=x=T.bt\/x=T.bE\/x=T.bS
section
variable {g o:Heap} {b n:Nat} {f:Nat->Rat}
theorem QB.ko(q:QB g o b n f){g' o':Heap}(l:g.le g')(e:o' b=o b):QB g' o' b n f:=by
 obtain ⟨xs,r,h1,h2⟩:=q
 exact ⟨xs,r.keep fun x hx=>by rw [e];exact hx,h1,h2.mono Z2 l⟩
theorem QB.congr(q:QB g o b n f){f':Nat->Rat}(e:∀ i,i<n->f i=f' i):QB g o b n f':=by
 obtain ⟨xs,r,h1,h2⟩:=q
 exact ⟨xs,r,h1,h2.congr e⟩
theorem QB.at(q:QB g o b n f){i:Nat}(hi:i<n):∃ w:QV,RQ g w (f i)/\o.cell? (Addr.add (Addr.add ⟨b,0,none⟩ (i*4)) 0)=some (.bool w.s)/\o.cell? (Addr.add (Addr.add ⟨b,0,none⟩ (i*4)) 1)=some (.slice w.A w.n w.c)/\o.cell? (Addr.add (Addr.add ⟨b,0,none⟩ (i*4)) 2)=some (.bool w.s2)/\o.cell? (Addr.add (Addr.add ⟨b,0,none⟩ (i*4)) 3)=some (.slice w.A2 w.n2 w.c2):=by
 obtain ⟨xs,r,h1,h2⟩:=q
 obtain ⟨w,e1,hw⟩:=h2 i hi
 have hlt:i<xs.length:=by omega
 have cell:∀ k v,(enc xs[i])[k]? = some v->o.cell? (Addr.add (Addr.add ⟨b,0,none⟩ (i*4)) k)=some v:=by
  intro k v hk
  rw [D8,D8,Nat.zero_add]
  exact r.rowB.cell (i:=i) hlt (j:=k) hk
 rw [List.getElem?_eq_getElem hlt] at e1
 have e2:=Option.some.inj e1
 rw [e2] at cell
 exact ⟨w,hw,cell 0 _ rfl,cell 1 _ rfl,cell 2 _ rfl,cell 3 _ rfl⟩
theorem QB.rowV(q:QB g o b n f){h:Heap}(s:Sep h g o):RowV RQr h (some ⟨b,0,none⟩) n f:=by
 obtain ⟨xs,r,h1,h2⟩:=q
 exact ⟨xs,r.rowB.slF s.ole,h1,h2.mono Z2 s.le⟩
theorem QB.store(q:QB g o b n f){h:Heap}(s:Sep h g o){i:Nat}(hi:i<n){w:QV}{z:Rat}(hw:RQ g w z){K:Unit->Heap->Prop}
 (k:∀ h' o',Sep h' g o'->QB g o' b n (fun a=>if a=i then z else f a)->(∀ y,y≠b->o' y=o y)->K () h'):wpH Tryz.prog (Instr.storeAt G0 (.pointer (some (Addr.add ⟨b,0,none⟩ (i*4)))) w.v) K h:=by
 obtain ⟨xs,r,h1,h2⟩:=q
 have hlt:i<xs.length:=by omega
 refine Sv A1r (y:=w) rfl s r (i:=i) hlt ?_
 intro h' o' x' eo s' r'
 exact k h' o' s' ⟨_,r',by rw [List.length_set];exact h1,Row.upd h2 hlt hw⟩ (fun y hy=>by rw [eo,B8 _ _ hy])
end
structure El (h g o:Heap) (be:Nat) (T:Tb) (M:Nat->Nat->Int) (S:Nat->Rat) (n k:Nat) (w:IV) (z:Int) (L D:Value):Prop where
 t:Tab h g o T M S
 rows:T.rows=n
 cols:T.cols=n
 hd:∃ e,o be=some (.cells (List.toArray [I (n:Int),I (k:Int),.pointer (some ⟨T.bt,0,none⟩),.bool w.s,.slice w.A w.n w.c,L,D]) e)
 off:¬ onT T be
 last:ZIr g w z
section
variable {h g o:Heap} {be:Nat} {T:Tb} {M:Nat->Nat->Int} {S:Nat->Rat} {n k:Nat} {w:IV} {z:Int} {L D:Value} {K:Value->Heap->Prop} {m:Nat}
theorem El.cell(X:El h g o be T M S n k w z L D){i:Nat}{v:Value}(hv:[I (n:Int),I (k:Int),.pointer (some ⟨T.bt,0,none⟩),.bool w.s,.slice w.A w.n w.c,L,D][i]? = some v):h.cell? ⟨be,i,none⟩=some v:=by
 obtain ⟨e,he⟩:=X.hd
 refine X.t.sep.cell ?_
 unfold Heap.cell?
 simp only [he]
 simpa using hv
theorem El.c0(X:El h g o be T M S n k w z L D):h.cell? (Addr.add ⟨be,0,none⟩ 0)=some (I (n:Int)):=by rw [D8];exact X.cell rfl
theorem El.c1(X:El h g o be T M S n k w z L D):h.cell? (Addr.add ⟨be,0,none⟩ 1)=some (I (k:Int)):=by rw [D8];exact X.cell rfl
theorem El.c2(X:El h g o be T M S n k w z L D):h.cell? (Addr.add ⟨be,0,none⟩ 2)=some (.pointer (some ⟨T.bt,0,none⟩)):=by rw [D8];exact X.cell rfl
theorem El.c3(X:El h g o be T M S n k w z L D):h.cell? (Addr.add (Addr.add ⟨be,0,none⟩ 3) 0)=some (.bool w.s):=by rw [D8,D8];exact X.cell rfl
theorem El.c4(X:El h g o be T M S n k w z L D):h.cell? (Addr.add (Addr.add ⟨be,0,none⟩ 3) 1)=some (.slice w.A w.n w.c):=by rw [D8,D8];exact X.cell rfl
theorem El.c5(X:El h g o be T M S n k w z L D):h.cell? (Addr.add ⟨be,0,none⟩ 5)=some L:=by rw [D8];exact X.cell rfl
theorem El.c6(X:El h g o be T M S n k w z L D):h.cell? (Addr.add ⟨be,0,none⟩ 6)=some D:=by rw [D8];exact X.cell rfl
theorem El.next(X:El h g o be T M S n k w z L D){h' g':Heap}(s:Sep h' g' o)(l:g.le g'):El h' g' o be T M S n k w z L D:=⟨X.t.next s l,X.rows,X.cols,X.hd,X.off,A3h _ _ _ _ l X.last⟩
theorem Tab.away(t:Tab h g o T M S){h' o':Heap}(s:Sep h' g o'){b:Nat}(hb:¬ onT T b)(ko:∀ y,y≠b->o' y=o y):Tab h' g o' T M S:=t.keep s (B3 _) (fun k x e hk=>by rw [ko k (fun e2=>hb (e2▸hk))];exact e)
theorem El.away(X:El h g o be T M S n k w z L D){h' o':Heap}(s:Sep h' g o'){b:Nat}(hb:¬ onT T b)(hbe:be≠b)(ko:∀ y,y≠b->o' y=o y):El h' g o' be T M S n k w z L D:=by
 obtain ⟨e,he⟩:=X.hd
 exact ⟨X.t.away s hb ko,X.rows,X.cols,⟨e,by rw [ko _ hbe];exact he⟩,X.off,X.last⟩
theorem El.set(X:El h g o be T M S n k w z L D){t:TypeId}{q off:Nat}{v:Value}{vs:List Value}(one:Tryz.prog.cellsOf t=q/\(Tryz.prog.info? t).isSome=true)(hv:v.cells=vs.toArray)(hl:vs.length=q)(h1:∀ x∈vs,Zj x=true)(hoff:off+q<=7){n' k':Nat}{w':IV}{z':Int}{L' D':Value}(hn:n'=n)(hw:ZIr g w' z')
 (hs:J2 [I (n:Int),I (k:Int),.pointer (some ⟨T.bt,0,none⟩),.bool w.s,.slice w.A w.n w.c,L,D] off vs=[I (n':Int),I (k':Int),.pointer (some ⟨T.bt,0,none⟩),.bool w'.s,.slice w'.A w'.n w'.c,L',D'])
 {K:Unit->Heap->Prop} (x:∀ h' o',El h' g o' be T M S n' k' w' z' L' D'->(∀ y,y≠be->o' y=o y)->K () h'):wpH Tryz.prog (Instr.storeAt t (.pointer (some (Addr.add ⟨be,0,none⟩ off))) v) K h:=by
 obtain ⟨e,he⟩:=X.hd
 rw [D8,Nat.zero_add]
 refine X.t.sep.storeRaw one hv hl h1 he hoff ?_
 intro h' o' eo s'
 have ko:∀ y,y≠be->o' y=o y:=fun y hy=>by rw [eo,B8 _ _ hy]
 subst hn
 exact x h' o' ⟨X.t.away s' X.off ko,X.rows,X.cols,⟨e,by rw [eo,C3,hs]⟩,X.off,hw⟩ ko
theorem B3u(X:El h g o be T M S n k w z L D)(gl:Gl g){i j:Nat}(hi:i<n)(hj:j<n)(bm:ZB m (M i j))(bz:ZB m z)(bs:Sz m (S i))(hd:Sz m (Rat.divInt (M i j) z))(hm1:1<=m)(hm:m<=6400000000)
 (hK:∀ w' h' g',g.le g'->Sep h' g' o->h.le h'->RQ g' w' (Rat.divInt (M i j) z/S i)->K w'.v h'):FCall Tryz.prog Xt #[.pointer (some ⟨be,0,none⟩),I (i:Int),I (j:Int)] h K:=by
 have hi':i<T.rows:=by rw [X.rows];exact hi
 have hj':j<T.cols:=by rw [X.cols];exact hj
 refine B6j _ _ _ ?_
 unfold EAt
 obtain ⟨ws,is,d0,d1,d2,d3⟩:=X.t.sat hi'
 obtain ⟨wm,im,e0,e1⟩:=X.t.at hi' hj'
 refine ⟨_,rfl,_,X.c2,_,rfl,_,_,_,_,X.c3,X.c4,_,rfl,_,X.c2,_,rfl,_,_,_,X.t.c2,_,rfl,by omega,by omega,_,_,_,_,_,_,_,_,d0,d1,d2,d3,?_⟩
 refine Iv X.t hi' ⟨_,_,_,rfl,B3 _,_,rfl,by omega,by omega,_,_,_,_,e0,e1,?_⟩
 refine X.t.sep.call (Dq gl.tz im X.last bm bz hm ?_)
 intro w1 g1 l1 i1 h1 s1
 refine ⟨_,_,_,_,_,_,_,_,rfl,X.t.sep.le_le s1 l1,?_⟩
 refine s1.call (Ks (gl.mono l1).tz i1 (Z2 _ _ _ _ l1 is) hd bs hm1 hm ?_)
 intro w2 g2 l2 i2 h2 s2
 exact ⟨_,_,_,_,_,_,_,_,rfl,s1.le_le s2 l2,hK w2 h2 g2 (A0 l1 l2) s2 (A0 (X.t.sep.le_le s1 l1) (s1.le_le s2 l2)) i2⟩
theorem Xc(X:El h g o be T M S n k w z L D)(hk:k<n)(hn:n<=10000)
 (hK1:∀ i:Nat,k<i->i<n->M i k≠0->K (.tuple #[I (i:Int),.bool true]) h) (hK0:(∀ j,k<j->j<n->M j k=0)->K (.tuple #[I 0,.bool false]) h):FCall Tryz.prog Cn #[.pointer (some ⟨be,0,none⟩)] h K:=by
 refine A1h _ ?_
 unfold A2w
 refine ⟨_,rfl,_,X.c1,?_⟩
 rw [show B4 ((k:Int)+1)=((k+1:Nat):Int) by rw [B5]<;>omega]
 refine ⟨fun L' hp=>∃ i:Nat,k<i/\i<=n/\L'=[I (i:Int)]/\hp=h/\∀ j,k<j->j<i->M j k=0,fun L' _=>n-(iAt L' 0).toNat,⟨k+1,by omega,by omega,rfl,rfl,fun j _ _=>by omega⟩,?_⟩
 rintro y hp ⟨i,hi1,hi2,eL,rfl,hz⟩
 obtain rfl:y=(i:Int):=by simpa using eL
 refine ⟨_,rfl,_,X.c0,B6 (fun hlt=>?_) (fun hge=>hK0 fun j a b=>hz j a (by omega))⟩
 have hin:i<n:=by omega
 have hi':i<T.rows:=by rw [X.rows];exact hin
 have hk':k<T.cols:=by rw [X.cols];exact hk
 refine ⟨_,rfl,_,X.c2,_,rfl,_,X.c1,?_⟩
 obtain ⟨wm,im,e0,e1⟩:=X.t.at hi' hk'
 refine Iv X.t hi' ⟨_,_,_,rfl,B3 _,_,rfl,by omega,by omega,_,_,_,_,e0,e1,?_⟩
 refine F5 (im.mono X.t.sep.le) ⟨_,rfl,B3 _,Bc (B6 (fun e=>?_) (fun e=>hK1 i hi1 hin e))⟩
 rw [show B4 ((i:Int)+1)=((i+1:Nat):Int) by rw [B5]<;>omega]
 refine ⟨⟨i+1,by omega,by omega,rfl,rfl,fun j a b=>?_⟩,by simp only [Re];omega⟩
 by_cases c:j=i
 ·rw [c];exact e
 ·exact hz j a (by omega)
theorem Yg(X:El h g o be T M S n k w z L D)(hk:k<n)(hn:n<=10000)(hz:z≠0)(hM:∀ a b,k<=a->a<n->b<n->ZB m (M a b))(bz:ZB m z)(hm1:1<=m)(hm:2*m+1<=100000000)
 (hK:∀ h' g' o' w',g.le g'->El h' g' o' be T (fun a b=>if k<a then (M k k*M a b-M a k*M k b).tdiv z else M a b) S n (k+1) w' (M k k) L D->(∀ b,¬ onT T b->b≠be->o' b=o b)->K (.tuple #[]) h'):FCall Tryz.prog Lj #[.pointer (some ⟨be,0,none⟩)] h K:=by
 refine A1i _ ?_
 unfold A2x
 refine ⟨_,rfl,_,X.c1,?_⟩
 rw [show B4 ((k:Int)+1)=((k+1:Nat):Int) by rw [B5]<;>omega]
 refine ⟨fun L' hp=>∃ (i:Nat) (g1 o1:Heap),k<i/\i<=n/\L'=[I (i:Int)]/\g.le g1/\El hp g1 o1 be T (fun a b=>if k<a/\a<i then (M k k*M a b-M a k*M k b).tdiv z else M a b) S n k w z L D/\(∀ b,¬ onT T b->b≠be->o1 b=o b),fun L' _=>n-(iAt L' 0).toNat,⟨k+1,g,o,by omega,by omega,rfl,B3 _,⟨X.t.congr (fun a b _ _=>by rw [if_neg (by omega)]) (fun _ _=>rfl),X.rows,X.cols,X.hd,X.off,X.last⟩,fun _ _ _=>rfl⟩,?_⟩
 rintro y hp ⟨i,g1,o1,hi1,hi2,eL,lg,X1,ko⟩
 obtain rfl:y=(i:Int):=by simpa using eL
 refine ⟨_,rfl,_,X1.c0,B6 (fun hlt=>?_) (fun hge=>?_)⟩
 ·have hin:i<n:=by omega
  refine ⟨_,rfl,_,X1.c2,_,rfl,_,_,_,_,X1.c3,X1.c4,?_⟩
  have er:=X.rows
  have ec:=X.cols
  refine A3p (m:=m) X1.t (i:=i) (p:=k) (c:=k) (by omega) (by omega) (by omega) (by omega) X1.last hz hm1 hm (fun b hb=>by rw [if_neg (by omega)];exact hM i b (by omega) hin (by omega)) (fun b hb=>by rw [if_neg (by omega)];exact hM k b (Nat.le_refl _) hk (by omega)) bz ?_
  intro h2 g2 o2 l2 t2 ko2
  rw [show B4 ((i:Int)+1)=((i+1:Nat):Int) by rw [B5]<;>omega]
  have hbe:be≠T.bE:=fun e=>X.off (.inr (.inl e))
  obtain ⟨e,he⟩:=X1.hd
  refine ⟨rfl,⟨i+1,g2,o2,by omega,by omega,rfl,A0 lg l2,⟨t2.congr (fun a b _ _=>?_) (fun _ _=>rfl),er,ec,⟨e,by rw [ko2 _ hbe];exact he⟩,X.off,A3h _ _ _ _ l2 X1.last⟩,fun b hb hb2=>by rw [ko2 b (fun e=>hb (.inr (.inl e)))];exact ko b hb hb2⟩,by simp only [Re];omega⟩
  by_cases c:a=i
  ·have q1:¬ (k<k/\k<i):=by omega
   have q2:¬ (k<i/\i<i):=by omega
   simp only [if_neg q1,if_neg q2]
   rw [if_pos c,if_pos (show k<a/\a<i+1 by omega),c]
  ·rw [if_neg c]
   by_cases c2:k<a/\a<i
   ·rw [if_pos c2,if_pos (by omega)]
   ·rw [if_neg c2,if_neg (show ¬ (k<a/\a<i+1) by omega)]
 ·have hie:i=n:=by omega
  subst hie
  have hk':k<T.rows:=by rw [X.rows];exact hk
  have hk2:k<T.cols:=by rw [X.cols];exact hk
  refine ⟨_,rfl,_,X1.c2,?_⟩
  obtain ⟨wm,im,e0,e1⟩:=X1.t.at hk' hk2
  rw [if_neg (by omega)] at im
  refine Iv X1.t hk' ⟨_,_,_,rfl,_,rfl,by omega,by omega,_,_,_,_,e0,e1,?_⟩
  refine ⟨_,rfl,?_⟩
  refine X1.set (n':=i) (k':=k) (w':=wm) (z':=M k k) (L':=L) (D':=D) (vs:=[.bool wm.s,.slice wm.A wm.n wm.c]) Zy rfl rfl (by intro x hx;simp only [List.mem_cons,List.not_mem_nil,or_false] at hx;rcases hx with rfl|rfl<;>rfl) (by omega) rfl im rfl ?_
  intro h3 o3 X3 ko3
  refine ⟨_,rfl,_,X3.c1,_,rfl,?_⟩
  rw [show B4 ((k:Int)+1)=((k+1:Nat):Int) by rw [B5]<;>omega]
  refine X3.set (n':=i) (k':=k+1) (w':=wm) (z':=M k k) (L':=L) (D':=D) (vs:=[I ((k+1:Nat):Int)]) A5u rfl rfl (by intro x hx;simp only [List.mem_cons,List.not_mem_nil,or_false] at hx;subst hx;rfl) (by omega) rfl im rfl ?_
  intro h4 o4 X4 ko4
  refine hK h4 g1 o4 wm lg ⟨X4.t.congr (fun a b ha hb=>?_) (fun _ _=>rfl),X4.rows,X4.cols,X4.hd,X4.off,X4.last⟩ (fun b hb hb2=>by rw [ko4 b hb2,ko3 b hb2];exact ko b hb hb2)
  have:a<i:=by rw [<- X.rows];exact ha
  by_cases c:k<a
  ·rw [if_pos ⟨c,this⟩,if_pos c]
  ·rw [if_neg (fun x=>c x.1),if_neg c]
end
theorem B8m{l s r:Rat}(hl:l≠0)(hs:s≠0):l*(s*r)/l/s=r:=by
 have h1:=Rat.mul_inv_cancel _ hl
 have h2:=Rat.mul_inv_cancel _ hs
 rw [Rat.div_def,Rat.div_def]
 grind
section
variable {E:Nat->Rat} {n k:Nat}
theorem A6v(sy:Wb n (mtx E n))(hk:k<=n)(ok:∀ m,m<k->Kj (mtx E n) n m):LdR n k (mtx E n) (elE E n n k):=LdR.run sy k hk ok
theorem B1v(hk:k<n):A37 n k (elP E n n k)=A1u n k (elE E n n k):=(A6w E (Nat.le_of_lt hk)).row hk
theorem A2d(sy:Wb n (mtx E n))(hk:k<n)(ok:∀ m,m<=k->Kj (mtx E n) n m)(e:ldA (mtx E n) k k k=0):elP E n n (k+1)=elP E n n k:=by
 have r:=B1v (E:=E) hk
 rw [(A6v sy (by omega) fun m hm=>ok m (by omega)).none hk e (ok k (Nat.le_refl _))] at r
 show Tu n k (elP E n n k)=_
 unfold Tu
 rw [r,if_neg (Nat.lt_irrefl n)]
theorem A2c(sy:Wb n (mtx E n))(hk:k<n)(ok:∀ m,m<k->Kj (mtx E n) n m)(e:ldA (mtx E n) k k k≠0):
 (∀ i j,k<i->i<n->(elP E n n (k+1)).M i j=((elP E n n k).M k k*(elP E n n k).M i j-(elP E n n k).M i k*(elP E n n k).M k j).tdiv (elP E n n k).last)/\(elP E n n (k+1)).last=(elP E n n k).M k k/\∀ i,k<i->(elP E n n (k+1)).S i=(elP E n n k).S i:=by
 have R:=A6v sy (by omega) ok
 have r:=B1v (E:=E) hk
 rw [R.row hk e] at r
 have hl:=R.len
 rw [<- B8a E (Nat.le_of_lt hk)] at hl
 have se:elP E n n (k+1)=Tu n k (elP E n n k):=rfl
 unfold Tu at se
 rw [r,if_pos hk] at se
 generalize elP E n n k=s at *
 have x1:=Tm s.cs.length k
 have x2:∀ i,k<i->xch s.cs.length k i=i:=fun i hi=>by unfold xch;rw [if_neg (by omega),if_neg (by omega)]
 rw [se]
 refine ⟨fun i j hi _=>?_,rfl,fun i hi=>?_⟩
 ·show clr (fun i=>s.M (xch s.cs.length k i)) s.cs.length k s.last i j=_
  unfold clr
  rw [if_neg (by omega)]
  show (s.M (xch s.cs.length k s.cs.length) k*s.M (xch s.cs.length k i) j-s.M (xch s.cs.length k i) k*s.M (xch s.cs.length k s.cs.length) j).tdiv s.last=_
  rw [x1,x2 i hi]
 ·show s.S (xch s.cs.length k i)=_
  rw [x2 i hi]
theorem B9p(sy:Wb n (mtx E n)):∀ k,k<=n->(∀ m,m<k->Kj (mtx E n) n m)->∀ i,k<=i->i<n->(elP E n n k).S i=Qz E n i:=by
 intro k
 induction k with
 | zero=>intro _ _ i _ _;rfl
 | succ k ih=>
  intro hk ok i hi hin
  have ih':=ih (by omega) (fun m hm=>ok m (by omega)) i (by omega) hin
  by_cases e:ldA (mtx E n) k k k=0
  ·rw [A2d sy hk (fun m hm=>ok m (by omega)) e];exact ih'
  ·rw [(A2c sy hk (fun m hm=>ok m (by omega)) e).2.2 i (by omega)];exact ih'
structure LdF (E:Nat->Rat) (n k Q:Nat):Prop where
 val:∀ i j,k<=i->i<n->j<n->((elP E n n k).M i j:Rat)=(elP E n n k).last*(Qz E n i*ldA (mtx E n) k i j)
 last:(elP E n n k).last≠0
 zM:∀ a b,a<n->b<n->ZB Q ((elP E n n k).M a b)
 zl:ZB Q (elP E n n k).last
 zS:∀ a,a<n->Sz Q (Qz E n a)
 zA:∀ i j,k<=i->i<n->j<n->Sz Q (ldA (mtx E n) k i j)
theorem ldF{m Q:Nat}(hs:∀ i,i<n*n->Sz m (E i))(hQ1:3^n*bnd n m+bnd n m<=Q)(sy:Wb n (mtx E n))(hk:k<=n)(ok:∀ m,m<k->Kj (mtx E n) n m):LdF E n k Q:=by
 have rel:=A6w E (rows:=n) (cols:=n) hk
 have R:=A6v sy hk ok
 have hlen:=R.len
 have z:=B5t (E:=E) (rows:=n) (cols:=n) (c:=k) hs hk
 have hbn1:1<=bnd n m:=by unfold bnd;omega
 have hb3:3^(elP E n n k).cs.length*bnd n m<=3^n*bnd n m:=Nat.mul_le_mul_right _ (Nat.pow_le_pow_right (by decide) z.len)
 have hS:=B9p sy k hk ok
 have val:∀ i j,k<=i->i<n->j<n->((elP E n n k).M i j:Rat)=(elP E n n k).last*(Qz E n i*ldA (mtx E n) k i j):=fun i j hi hin hj=>by
  rw [rel.val i j hin hj,if_neg (by omega),R.low i j hi hin hj,hS i hi hin]
 have zS:∀ a,a<n->Sz (bnd n m) (Qz E n a):=fun a ha=>Zx fun j hj=>hs _ (S7 ha hj)
 refine ⟨val,rel.last,fun a b ha hb=>(z.M a b ha hb).mono (by omega),z.last.mono (by omega),fun a ha=>(zS a ha).mono (by omega),fun i j hi hin hj=>?_⟩
 have e:ldA (mtx E n) k i j=Rat.divInt ((elP E n n k).M i j) (elP E n n k).last/Qz E n i:=by
  have hp:=Nu E n i
  rw [Rat.divInt_eq_div,val i j hi hin hj,B8m (T3 rel.last) (by grind)]
 rw [e]
 exact ((Da rel.last (z.M i j hin hj) z.last).div (zS i hin) hbn1).mono (by omega)
end
def Uf(A:Nat->Nat->Rat)(n k:Nat):Nat->Rat:=fun t=>if t%n<k then ldL A (t/n) (t%n) else 0
def Xx(A:Nat->Nat->Rat)(k:Nat):Nat->Rat:=fun j=>if j<k then ldD A j else 0
structure Ld (h g o:Heap) (be bl bd:Nat) (T:Tb) (E:Nat->Rat) (n k:Nat) (M:Nat->Nat->Int) (w:IV) (Lf Df:Nat->Rat):Prop where
 e:El h g o be T M (Qz E n) n k w (elP E n n k).last (.slice (some ⟨bl,0,none⟩) (n*n) (n*n)) (.slice (some ⟨bd,0,none⟩) n n)
 m:∀ i j,k<=i->i<n->j<n->M i j=(elP E n n k).M i j
 l:QB g o bl (n*n) Lf
 d:QB g o bd n Df
 tl:¬ onT T bl
 td:¬ onT T bd
 el:be≠bl
 ed:be≠bd
 ld:bl≠bd
section
variable {h g o:Heap} {be bl bd:Nat} {T:Tb} {E:Nat->Rat} {n k:Nat} {M:Nat->Nat->Int} {w:IV} {Lf Df:Nat->Rat} {K:Value->Heap->Prop} {Q:Nat}
theorem Ld.next(X:Ld h g o be bl bd T E n k M w Lf Df){h' g':Heap}(s:Sep h' g' o)(l:g.le g'):Ld h' g' o be bl bd T E n k M w Lf Df:=⟨X.e.next s l,X.m,X.l.ko l rfl,X.d.ko l rfl,X.tl,X.td,X.el,X.ed,X.ld⟩
theorem Ld.congr(X:Ld h g o be bl bd T E n k M w Lf Df){Lf' Df':Nat->Rat}(e1:∀ i,i<n*n->Lf i=Lf' i)(e2:∀ i,i<n->Df i=Df' i):Ld h g o be bl bd T E n k M w Lf' Df':=⟨X.e,X.m,X.l.congr e1,X.d.congr e2,X.tl,X.td,X.el,X.ed,X.ld⟩
theorem Ld.storeL(X:Ld h g o be bl bd T E n k M w Lf Df){i:Nat}(hi:i<n*n){v:QV}{z:Rat}(hv:RQ g v z){K:Unit->Heap->Prop}
 (x:∀ h' o',Ld h' g o' be bl bd T E n k M w (fun a=>if a=i then z else Lf a) Df->K () h'):wpH Tryz.prog (Instr.storeAt G0 (.pointer (some (Addr.add ⟨bl,0,none⟩ (i*4)))) v.v) K h:=by
 refine X.l.store X.e.t.sep hi hv ?_
 intro h' o' s' q ko
 exact x h' o' ⟨X.e.away s' X.tl X.el ko,X.m,q,X.d.ko (B3 _) (ko _ X.ld.symm),X.tl,X.td,X.el,X.ed,X.ld⟩
theorem Ld.storeD(X:Ld h g o be bl bd T E n k M w Lf Df){i:Nat}(hi:i<n){v:QV}{z:Rat}(hv:RQ g v z){K:Unit->Heap->Prop}
 (x:∀ h' o',Ld h' g o' be bl bd T E n k M w Lf (fun a=>if a=i then z else Df a)->K () h'):wpH Tryz.prog (Instr.storeAt G0 (.pointer (some (Addr.add ⟨bd,0,none⟩ (i*4)))) v.v) K h:=by
 refine X.d.store X.e.t.sep hi hv ?_
 intro h' o' s' q ko
 exact x h' o' ⟨X.e.away s' X.td X.ed ko,X.m,X.l.ko (B3 _) (ko _ X.ld),q,X.tl,X.td,X.el,X.ed,X.ld⟩
theorem Ld.at(X:Ld h g o be bl bd T E n k M w Lf Df)(gl:Gl g)(F:LdF E n k Q){i j:Nat}(hk:k<=i)(hi:i<n)(hj:j<n)(hQ1:1<=Q)(hQ:Q<=6400000000)
 (hK:∀ w' h' g',g.le g'->Sep h' g' o->h.le h'->RQ g' w' (ldA (mtx E n) k i j)->K w'.v h'):FCall Tryz.prog Xt #[.pointer (some ⟨be,0,none⟩),I (i:Int),I (j:Int)] h K:=by
 have em:=X.m i j hk hi hj
 have hS:=Nu E n i
 refine B3u (m:=Q) X.e gl hi hj (by rw [em];exact F.zM i j hi hj) F.zl (F.zS i hi) (by rw [em];exact Da F.last (F.zM i j hi hj) F.zl) hQ1 hQ ?_
 intro w' h' g' lg s lh iq
 refine hK w' h' g' lg s lh ?_
 rw [em,Rat.divInt_eq_div,F.val i j hk hi hj,B8m (T3 F.last) (by grind)] at iq
 exact iq
theorem Ld.partner(X:Ld h g o be bl bd T E n k M w Lf Df)(F:LdF E n k Q)(hk:k<n)(hn:n<=10000):FCall Tryz.prog Cn #[.pointer (some ⟨be,0,none⟩)] h (fun r h'=>h'=h/\∃ (a:Nat) (b:Bool),r= .tuple #[I (a:Int),.bool b]/\(b=true->k<a/\a<n/\ldA (mtx E n) k a k≠0)/\(b=false->∀ j,k<j->j<n->ldA (mtx E n) k j k=0)):=by
 have key:∀ i,k<=i->i<n->(M i k=0↔ldA (mtx E n) k i k=0):=fun i hki hi=>by
  have hv:=F.val i k hki hi hk
  have h3:=T3 F.last
  have h4:Qz E n i≠0:=by have:=Nu E n i;grind
  rw [X.m i k hki hi hk]
  constructor
  ·intro e
   rw [e] at hv
   have h0:((0:Int):Rat)=0:=rfl
   rw [h0] at hv
   rcases Rat.mul_eq_zero.1 hv.symm with e1|e1
   ·exact absurd e1 h3
   ·rcases Rat.mul_eq_zero.1 e1 with e2|e2
    ·exact absurd e2 h4
    ·exact e2
  ·intro e
   rw [e,Rat.mul_zero,Rat.mul_zero] at hv
   exact_mod_cast hv
 refine Xc X.e hk hn (fun i h1 h2 h3=>⟨rfl,i,true,rfl,fun _=>⟨h1,h2,fun e=>h3 ((key i (by omega) h2).2 e)⟩,fun e=>by cases e⟩) (fun hz=>⟨rfl,0,false,rfl,(fun e=>by cases e),fun _ j h1 h2=>(key j (by omega) h2).1 (hz j h1 h2)⟩)
end
theorem B14{q:Rat}:q.num.sign<0↔q<0:=by
 have h1:q.num.sign<0↔q.num<0:=by
  rcases Int.lt_trichotomy q.num 0 with c|c|c
  ·rw [Int.sign_eq_neg_one_of_neg c];exact ⟨fun _=>c,fun _=>by decide⟩
  ·rw [c];exact ⟨fun h=>by simp at h,fun h=>by omega⟩
  ·rw [Int.sign_eq_one_of_pos c];exact ⟨fun h=>by omega,fun h=>by omega⟩
 have h2:=Rat.num_nonneg (q:=q)
 rw [h1]
 constructor
 ·intro h
  refine Classical.byContradiction fun hn=>?_
  have:0<=q:=by grind
  have:=h2.2 this
  omega
 ·intro h
  refine Classical.byContradiction fun hn=>?_
  have:=h2.1 (by omega)
  grind
theorem Ps{n i j:Nat}(hj:j<n):(i*n+j)/n=i/\(i*n+j)%n=j:=by
 refine ⟨?_,?_⟩
 ·rw [Nat.mul_comm,Nat.mul_add_div (by omega),Nat.div_eq_of_lt hj,Nat.add_zero]
 ·rw [Nat.mul_comm,Nat.mul_add_mod,Nat.mod_eq_of_lt hj]
def B36(A:Nat->Nat->Rat)(n k i:Nat):Nat->Rat:=fun t=>if t%n=k/\t/n<i then ldL A (t/n) k else Uf A n k t
theorem A22(A:Nat->Nat->Rat){n k i:Nat}(h:i=n\/ldA A k k k=0/\k<i):∀ t,t<n*n->B36 A n k i t=Uf A n (k+1) t:=by
 intro t ht
 unfold B36 Uf
 have hd:t/n<n:=Nat.div_lt_of_lt_mul ht
 by_cases c:t%n=k
 ·rw [if_pos (show t%n<k+1 by omega),c]
  by_cases c2:t/n<i
  ·rw [if_pos ⟨rfl,c2⟩]
  ·rw [if_neg (fun x=>c2 x.2),if_neg (Nat.lt_irrefl k)]
   rcases h with h|⟨h1,h2⟩
   ·omega
   ·unfold ldL
    rw [if_neg (by omega),if_neg (by omega),if_pos h1]
 ·rw [if_neg (fun x=>c x.1)]
  by_cases c2:t%n<k
  ·rw [if_pos c2,if_pos (by omega)]
  ·rw [if_neg c2,if_neg (by omega)]
theorem A75(A:Nat->Nat->Rat)(k:Nat):(fun a=>if a=k then ldA A k k k else Xx A k a)=Xx A (k+1):=by
 funext a
 unfold Xx ldD
 by_cases c:a=k
 ·rw [if_pos c,if_pos (by omega),c]
 ·rw [if_neg c]
  by_cases c2:a<k
  ·rw [if_pos c2,if_pos (by omega)]
  ·rw [if_neg c2,if_neg (by omega)]
section
variable {h:Heap} {A:Option Addr} {E:Nat->Rat} {n cap m Q:Nat} {K:Value->Heap->Prop}
theorem Hd(gl:Gl h)(rq:RowV RQr h A (n*n) E)(hcap:n*n<=cap)(hn1:1<=n)(hn:n<=64)(sy:Wb n (mtx E n))(hs:∀ i,i<n*n->Sz m (E i))(hQ1:3^n*bnd n m+bnd n m<=Q)(hQ:2*Q+1<=100000000)
 (hK1:(∀ k,k<n->Kj (mtx E n) n k)->∀ h' g' o' be bl bd T M w,h.le h'->h.le g'->Ld h' g' o' be bl bd T E n n M w (Uf (mtx E n) n n) (Xx (mtx E n) n)->K (.tuple #[.pointer (some ⟨be,0,none⟩),.bool true]) h')
 (hK0:∀ k,k<n->(∀ k',k'<k->Kj (mtx E n) n k')->¬ Kj (mtx E n) n k->∀ h' g' o' be bl bd T M w,h.le h'->h.le g'->Ld h' g' o' be bl bd T E n k M w (Uf (mtx E n) n k) (Xx (mtx E n) k)->K (.tuple #[.pointer (some ⟨be,0,none⟩),.bool false]) h'):FCall Tryz.prog Bl #[.slice A (n*n) cap,I (n:Int)] h K:=by
 have hnn:n*n<=64*64:=Nat.mul_le_mul hn hn
 have hnp:1<=n*n:=Nat.mul_pos hn1 hn1
 have hb:bnd n m<=Q:=by omega
 have hbe:bnd n m=1+n*m+m:=rfl
 refine Vx _ _ _ _ ?_
 unfold Ti
 refine Kk _ _ _ _ ?_
 unfold Gj
 refine Ue (m:=m) gl rq hcap hn1 (by omega) hn1 (by omega) hs (by omega) ?_
 intro h1 g1 o1 T lg1 t1 er ec
 refine ⟨_,rfl,?_⟩
 refine t1.sep.call (Ev (by decide) (by decide) ?_)
 intro s2 A2 n2 c2 g2 l2 i2 h2 sp2
 have t2:=t1.next sp2 l2
 refine ⟨_,_,_,_,rfl,Vh ?_⟩
 intro be hbe2
 have fr:∀ {hh gg oo:Heap} {k x b},Sep hh gg oo->oo k=some x->hh b=none->k≠b:=by
  rintro hh gg oo k x b s e hb rfl
  rw [s.own k x e] at hb;cases hb
 obtain ⟨⟨y1,z1⟩,⟨y2,z2⟩,⟨y3,z3⟩⟩:=t2.own
 have off1:∀ {hh gg oo:Heap} {b},Tab hh gg oo T (Wa E n) (Qz E n)->hh b=none->¬ onT T b:=by
  intro hh gg oo b t hb hx
  obtain ⟨⟨y1,z1⟩,⟨y2,z2⟩,⟨y3,z3⟩⟩:=t.own
  rcases hx with rfl|rfl|rfl
  ·exact fr t.sep z1 hb rfl
  ·exact fr t.sep z2 hb rfl
  ·exact fr t.sep z3 hb rfl
 have s3:=t2.sep.new hbe2 (.cells (Value.agg #[I (n:Int),I (0:Int),.pointer (some ⟨T.bt,0,none⟩),.bool s2,.slice A2 n2 c2,.slice none 0 0,.slice none 0 0]).cells Il)
 have X3:El _ g2 _ be T (Wa E n) (Qz E n) n 0 ⟨s2,A2,n2,c2⟩ 1 (.slice none 0 0) (.slice none 0 0):=⟨t2.keep s3 (B3 _) (fun k x e _=>by rw [B8 _ _ (fr t2.sep e hbe2)];exact e),er,ec,⟨Il,C3 _ _ _⟩,off1 t2 hbe2,i2⟩
 refine ⟨_,rfl,_,rfl,?_⟩
 clear t1
 have lh3:h.le (h2.put be (.cells (Value.agg #[I (n:Int),I (0:Int),.pointer (some ⟨T.bt,0,none⟩),.bool s2,.slice A2 n2 c2,.slice none 0 0,.slice none 0 0]).cells Il)):=A0 lg1 (A0 l2 X3.t.sep.le)
 generalize (h2.put be (.cells (Value.agg #[I (n:Int),I (0:Int),.pointer (some ⟨T.bt,0,none⟩),.bool s2,.slice A2 n2 c2,.slice none 0 0,.slice none 0 0]).cells Il))=h3 at *
 generalize (o1.put be (.cells (Value.agg #[I (n:Int),I (0:Int),.pointer (some ⟨T.bt,0,none⟩),.bool s2,.slice A2 n2 c2,.slice none 0 0,.slice none 0 0]).cells Il))=o3 at *
 have lg2:h.le g2:=A0 lg1 l2
 have ewn:B4 ((n:Int)*(n:Int))=((n*n:Nat):Int):=by rw [<- Int.natCast_mul];exact O7 (by omega)
 rw [ewn]
 have ownbe:∀ {hh gg oo M k w z L D},El hh gg oo be T M (Qz E n) n k w z L D->∃ x,oo be=some x:=fun X=>by obtain ⟨e,he⟩:=X.hd;exact ⟨_,he⟩
 refine Dn B4x (zx:=Et) rfl (by omega) (by omega) (by omega) (by omega) ?_
 intro bl hbl
 simp only [Int.toNat_natCast]
 refine ⟨_,_,_,rfl,_,rfl,?_⟩
 have nbl:be≠bl:=by obtain ⟨x,hx⟩:=ownbe X3;exact fr X3.t.sep hx hbl
 have X4:=X3.away (X3.t.sep.new hbl (.cells ((List.replicate (n*n) Et).flatMap enc).toArray G0)) (off1 X3.t hbl) nbl (fun y hy=>B8 _ _ hy)
 have q4:QB g2 (o3.put bl (.cells ((List.replicate (n*n) Et).flatMap enc).toArray G0)) bl (n*n) (fun _=>0):=⟨_,RowX.mk,List.length_replicate,fun i hi=>⟨Et,by rw [List.getElem?_replicate,if_pos hi],RQ.zero⟩⟩
 have tl:=off1 X3.t hbl
 refine X4.set (n':=n) (k':=0) (w':=⟨s2,A2,n2,c2⟩) (z':=1) (L':=.slice (some ⟨bl,0,none⟩) (n*n) (n*n)) (D':=.slice none 0 0) (vs:=[.slice (some ⟨bl,0,none⟩) (n*n) (n*n)]) A5t rfl rfl (by intro x hx;simp only [List.mem_cons,List.not_mem_nil,or_false] at hx;subst hx;rfl) (by omega) rfl X4.last rfl ?_
 intro h5 o5 X5 ko5
 have q5:=q4.ko (B3 _) (ko5 _ nbl.symm)
 refine Dn B4x (zx:=Et) rfl (by omega) (by omega) (by omega) (by omega) ?_
 intro bd hbd
 simp only [Int.toNat_natCast]
 refine ⟨_,_,_,rfl,_,rfl,?_⟩
 have nbd:be≠bd:=by obtain ⟨x,hx⟩:=ownbe X5;exact fr X5.t.sep hx hbd
 have nld:bl≠bd:=by obtain ⟨xs,⟨e,hx⟩,_⟩:=q5;exact fr X5.t.sep hx hbd
 have td:=off1 X5.t hbd
 have X6:=X5.away (X5.t.sep.new hbd (.cells ((List.replicate n Et).flatMap enc).toArray G0)) td nbd (fun y hy=>B8 _ _ hy)
 have d6:QB g2 (o5.put bd (.cells ((List.replicate n Et).flatMap enc).toArray G0)) bd n (fun _=>0):=⟨_,RowX.mk,List.length_replicate,fun i hi=>⟨Et,by rw [List.getElem?_replicate,if_pos hi],RQ.zero⟩⟩
 have q6:=q5.ko (o':=o5.put bd (.cells ((List.replicate n Et).flatMap enc).toArray G0)) (B3 _) (B8 _ _ nld)
 refine X6.set (n':=n) (k':=0) (w':=⟨s2,A2,n2,c2⟩) (z':=1) (L':=.slice (some ⟨bl,0,none⟩) (n*n) (n*n)) (D':=.slice (some ⟨bd,0,none⟩) n n) (vs:=[.slice (some ⟨bd,0,none⟩) n n]) A5t rfl rfl (by intro x hx;simp only [List.mem_cons,List.not_mem_nil,or_false] at hx;subst hx;rfl) (by omega) rfl X6.last rfl ?_
 intro h7 o7 X7 ko7
 have X0:Ld h7 g2 o7 be bl bd T E n 0 (Wa E n) ⟨s2,A2,n2,c2⟩ (Uf (mtx E n) n 0) (Xx (mtx E n) 0):=⟨X7,fun _ _ _ _ _=>rfl,(q6.ko (B3 _) (ko7 _ nbl.symm)).congr (fun i _=>by unfold Uf;rw [if_neg (by omega)]),(d6.ko (B3 _) (ko7 _ nbd.symm)).congr (fun i _=>by unfold Xx;rw [if_neg (by omega)]),tl,td,nbl,nbd,nld⟩
 clear X7 X6 X5 X4 X3 q6 d6 q5 q4 ko7 ko5
 have hQp:1<=Q:=by omega
 have ix:∀ {i j:Nat},i<n->j<n->B4 (B4 ((i:Int)*(n:Int))+(j:Int))=((i*n+j:Nat):Int):=fun {i j} hi hj=>by
  have:=S7 hi hj
  rw [<- Int.natCast_mul,O7 (by omega)]
  exact O7 (n:=i*n+j) (by omega)
 have ew1:∀ {i:Nat},i<n->B4 ((i:Int)+1)=((i+1:Nat):Int):=fun {i} hi=>by rw [B5]<;>omega
 refine ⟨fun L hq=>∃ (k:Nat) (g' o':Heap) (M:Nat->Nat->Int) (w:IV),k<=n/\L=[.bool true,I (k:Int)]/\h.le g'/\(∀ k',k'<k->Kj (mtx E n) n k')/\Ld hq g' o' be bl bd T E n k M w (Uf (mtx E n) n k) (Xx (mtx E n) k),fun L _=>n-(iAt L 1).toNat,⟨0,g2,o7,_,_,by omega,rfl,lg2,fun k' hk'=>by omega,X0⟩,?_⟩
 clear X0
 rintro poss z5 hq ⟨k,g',o',M,w,hk,eL,lg,ok,X⟩
 simp only [List.cons.injEq,Value.bool.injEq,Value.int.injEq,true_and,and_true] at eL
 obtain ⟨rfl,rfl⟩:=eL
 refine B6 (fun hlt=>?_) (fun hge=>by
  have:k=n:=by omega
  subst this
  exact hK1 ok hq g' o' be bl bd T M w (A0 lg X.e.t.sep.le) lg X)
 have hkn:k<n:=by omega
 have F:=ldF hs hQ1 sy hk ok
 refine X.at (gl.mono lg) F (Nat.le_refl _) hkn hkn hQp (by omega) ?_
 intro w1 h1 g1 l1 s1 lh1 i1
 refine ⟨_,_,_,_,_,_,_,_,rfl,?_⟩
 have X1:=X.next s1 l1
 have lg1':h.le g1:=A0 lg l1
 refine FCall.mono (X1.partner F hkn (by omega)) ?_
 rintro r h1' ⟨rfl,a,b,rfl,hb1,hb0⟩
 have i1':RQ h1' w1 (ldA (mtx E n) k k k):=Z2 _ _ _ _ s1.le i1
 refine ⟨_,_,rfl,fun L hx=>L=[.bool true]/\hx=h1'/\Kj (mtx E n) n k,?_,?_⟩
 ·refine A04 i1' ⟨_,rfl,B6 (fun hneg=>?_) (fun hpos=>?_)⟩
  ·have hneg':=B14.1 hneg
   exact hK0 k hkn ok (fun x=>absurd x.1 (by grind)) h1' g1 o' be bl bd T M w (A0 lg1' s1.le) lg1' X1
  ·have hnn:0<=ldA (mtx E n) k k k:=by
    have:¬ ldA (mtx E n) k k k<0:=fun c=>hpos (B14.2 c)
    grind
   refine Fi i1' ⟨_,rfl,B6 (fun e0=>?_) (fun ne0=>⟨rfl,rfl,hnn,fun e=>absurd e ne0⟩)⟩
   cases b with
   | true=>
    obtain ⟨b1,b2,b3⟩:=hb1 rfl
    exact hK0 k hkn ok (fun x=>b3 (x.2 e0 a b1 b2)) h1' g1 o' be bl bd T M w (A0 lg1' s1.le) lg1' X1
   | false=>exact ⟨rfl,rfl,hnn,fun _ j c1 c2=>hb0 rfl j c1 c2⟩
 rintro p1 hx ⟨eL,rfl,okk⟩
 simp only [List.cons.injEq,Value.bool.injEq,and_true] at eL
 subst eL
 have ok': ∀ k',k'<=k->Kj (mtx E n) n k':=fun k' hk'=>by
  by_cases c:k'=k
  ·rw [c];exact okk
  ·exact ok k' (by omega)
 refine ⟨_,rfl,_,_,_,X1.e.c5,?_⟩
 refine s1.call (Ao (by omega) ?_)
 intro w2 g3 l3 i3 h4 s4
 refine ⟨_,_,_,_,_,_,_,_,rfl,s1.le_le s4 l3,_,rfl,?_⟩
 rw [ix hkn hkn]
 have X2:=X1.next s4 l3
 have hkk:=S7 hkn hkn
 refine ⟨by omega,by omega,?_⟩
 refine X2.storeL hkk (z:=1) i3 ?_
 intro h5 o5 X5
 refine ⟨_,rfl,_,_,_,X5.e.c6,_,rfl,by omega,by omega,?_⟩
 have i13:RQ g3 w1 (ldA (mtx E n) k k k):=Z2 _ _ _ _ l3 i1
 refine X5.storeD hkn i13 ?_
 intro h6 o6 X6
 have X7:Ld h6 g3 o6 be bl bd T E n k M w (B36 (mtx E n) n k (k+1)) (Xx (mtx E n) (k+1)):=X6.congr (fun t ht=>by
  show (if t=k*n+k then 1 else Uf (mtx E n) n k t)=_
  unfold B36
  have dm:=Nat.div_add_mod t n
  by_cases c:t=k*n+k
  ·obtain ⟨d1,d2⟩:=Ps (i:=k) hkn
   rw [if_pos c,c,d1,d2,if_pos ⟨rfl,by omega⟩,A6a]
  ·rw [if_neg c]
   by_cases c2:t%n=k/\t/n<k+1
   ·rw [if_pos c2]
    have hlt:t/n<k:=by
     refine Classical.byContradiction fun hno=>c ?_
     have:t/n=k:=by omega
     rw [c2.1,this,Nat.mul_comm] at dm
     exact dm.symm
    rw [A0h hlt]
    unfold Uf
    rw [if_neg (by omega)]
   ·rw [if_neg c2]) (fun t _=>by rw [<- A75])
 clear X6 X5 X2 X1
 have lg3:h.le g3:=A0 lg1' l3
 refine Fi (Z2 _ _ _ _ X7.e.t.sep.le i13) ⟨_,rfl,B6 (fun e0=>?_) (fun ne0=>?_)⟩
 ·refine ⟨_,rfl,_,X7.e.c1,_,rfl,?_⟩
  rw [ew1 hkn]
  refine X7.e.set (n':=n) (k':=k+1) (w':=w) (z':=(elP E n n k).last) (L':=.slice (some ⟨bl,0,none⟩) (n*n) (n*n)) (D':=.slice (some ⟨bd,0,none⟩) n n) (vs:=[I ((k+1:Nat):Int)]) A5u rfl rfl (by intro x hx;simp only [List.mem_cons,List.not_mem_nil,or_false] at hx;subst hx;rfl) (by omega) rfl X7.e.last rfl ?_
  intro h8 o8 Y ko
  have es:=A2d sy hkn ok' e0
  refine ⟨⟨k+1,g3,o8,M,w,by omega,rfl,lg3,fun k' hk'=>ok' k' (by omega),⟨by rw [es];exact Y,fun i j a b c=>by rw [es];exact X7.m i j (by omega) b c,(X7.l.ko (B3 _) (ko _ X7.el.symm)).congr (A22 _ (.inr ⟨e0,by omega⟩)),X7.d.ko (B3 _) (ko _ X7.ed.symm),X7.tl,X7.td,X7.el,X7.ed,X7.ld⟩⟩,?_⟩
  show n-((k+1:Nat):Int).toNat<n-((k:Nat):Int).toNat
  omega
 rw [ew1 hkn]
 refine ⟨fun L hx=>∃ (i:Nat) (g4 o4:Heap),k<i/\i<=n/\L=[I (i:Int)]/\g3.le g4/\Ld hx g4 o4 be bl bd T E n k M w (B36 (mtx E n) n k i) (Xx (mtx E n) (k+1)),fun L _=>n-(iAt L 0).toNat,⟨k+1,g3,o6,by omega,by omega,rfl,B3 _,X7⟩,?_⟩
 clear X7
 rintro z6 hx ⟨i,g4,o4,hi1,hi2,eL,l4,X8⟩
 obtain rfl:z6=(i:Int):=by simpa using eL
 have lg4:h.le g4:=A0 lg3 l4
 refine B6 (fun hlt2=>?_) (fun hge2=>?_)
 ·have hin:i<n:=by omega
  refine ⟨_,rfl,_,_,_,X8.e.c5,?_⟩
  refine X8.at (gl.mono lg4) F (by omega) hin hkn hQp (by omega) ?_
  intro w9 h9 g9 l9 s9 lh9 i9
  refine ⟨_,_,_,_,_,_,_,_,rfl,lh9,?_⟩
  refine s9.call (Ks (m:=Q) (gl.mono (A0 lg4 l9)).tz i9 (Z2 _ _ _ _ (A0 l4 l9) i13) (F.zA i k (by omega) hin hkn) (F.zA k k (Nat.le_refl _) hkn hkn) hQp (by omega) ?_)
  intro w10 g10 l10 i10 h10 s10
  refine ⟨_,_,_,_,_,_,_,_,rfl,s9.le_le s10 l10,_,rfl,?_⟩
  rw [ix hin hkn]
  have hik:=S7 hin hkn
  refine ⟨by omega,by omega,?_⟩
  refine ((X8.next s9 l9).next s10 l10).storeL hik i10 ?_
  intro h11 o11 X11
  rw [ew1 hin]
  refine ⟨⟨i+1,g10,o11,by omega,by omega,rfl,A0 l4 (A0 l9 l10),X11.congr (fun t ht=>?_) (fun _ _=>rfl)⟩,by simp only [Re];omega⟩
  show (if t=i*n+k then ldA (mtx E n) k i k/ldA (mtx E n) k k k else B36 (mtx E n) n k i t)=_
  unfold B36
  have dm:=Nat.div_add_mod t n
  by_cases c:t=i*n+k
  ·obtain ⟨d1,d2⟩:=Ps (i:=i) hkn
   rw [if_pos c,c,d1,d2,if_pos ⟨rfl,by omega⟩]
   unfold ldL
   rw [if_neg (by omega),if_neg (by omega),if_neg ne0]
  ·rw [if_neg c]
   by_cases c2:t%n=k/\t/n<i
   ·rw [if_pos c2,if_pos ⟨c2.1,by omega⟩]
   ·rw [if_neg c2,if_neg]
    rintro ⟨c3,c4⟩
    have:t/n=i:=by
     have:¬ t/n<i:=fun x=>c2 ⟨c3,x⟩
     omega
    rw [c3,this,Nat.mul_comm] at dm
    exact c dm.symm
 ·have ein:i=n:=by omega
  subst ein
  refine Yg (m:=Q) X8.e hkn (by omega) F.last (fun a b ka ha hb=>by rw [X8.m a b ka ha hb];exact F.zM a b ha hb) F.zl hQp hQ ?_
  intro h9 g9 o9 w9 l9 Y ko
  obtain ⟨es1,es2,_⟩:=A2c sy hkn ok ne0
  refine ⟨rfl,⟨k+1,g9,o9,_,w9,by omega,rfl,A0 lg4 l9,fun k' hk'=>ok' k' (by omega),⟨by rw [es2,<- X8.m k k (Nat.le_refl _) hkn hkn];exact Y,fun i j a b c=>?_,(X8.l.ko l9 (ko _ X8.tl X8.el.symm)).congr (A22 _ (.inl rfl)),X8.d.ko l9 (ko _ X8.td X8.ed.symm),X8.tl,X8.td,X8.el,X8.ed,X8.ld⟩⟩,?_⟩
  ·rw [if_pos (show k<i by omega),es1 i j (by omega) b,X8.m k k (Nat.le_refl _) hkn hkn,X8.m i j (by omega) b c,X8.m i k (by omega) b hkn,X8.m k j (Nat.le_refl _) hkn c]
  ·show i-((k+1:Nat):Int).toNat<i-((k:Nat):Int).toNat
   omega
end
def ns(f:Nat->Nat):Nat->Nat
 | 0=>0
 | n+1=>ns f n+f n
theorem A9p{f f':Nat->Nat}: ∀ n,(∀ i,i<n->f i=f' i)->ns f n=ns f' n:=by
 intro n
 induction n with
 | zero=>exact fun _=>rfl
 | succ n ih=>intro h;rw [ns,ns,ih fun i hi=>h i (by omega),h n (by omega)]
theorem B34{f:Nat->Nat}: ∀ n,(∀ i,i<n->f i=0)->ns f n=0:=by
 intro n
 induction n with
 | zero=>exact fun _=>rfl
 | succ n ih=>intro h;rw [ns,ih fun i hi=>h i (by omega),h n (by omega)]
theorem A9o{f f':Nat->Nat}{t:Nat}(h0:f t=0)(h1:∀ i,i≠t->f' i=f i):∀ n,t<n->ns f' n=ns f n+f' t:=by
 intro n
 induction n with
 | zero=>intro h;omega
 | succ n ih=>
  intro h
  rw [ns,ns]
  by_cases c:t=n
  ·rw [<- c,h0,A9p t fun i hi=>h1 i (by omega)]
   omega
  ·rw [ih (by omega),h1 n (fun x=>c x.symm)]
   omega
theorem B58{f:Nat->Nat}{a b k:Nat}(hk:∀ i,i<k->f i=0):∀ n,k<n->f k<=a->(∀ i,k<i->i<n->f i<=b)->ns f n<=a+(n-k-1)*b:=by
 intro n
 induction n with
 | zero=>intro h;omega
 | succ n ih=>
  intro h ha hb
  rw [ns]
  by_cases c:k=n
  ·rw [<- c,B34 k hk];omega
  ·have h1:=ih (by omega) ha fun i h1 h2=>hb i h1 (by omega)
   have h2:=hb n (by omega) (by omega)
   have h3:(n+1-k-1)*b=(n-k-1)*b+b:=by
    rw [show n+1-k-1=(n-k-1)+1 by omega,Nat.add_mul,Nat.one_mul]
   omega
theorem A5x(f:Nat->Nat):∀ n i,i<=n->ns f i<=ns f n:=by
 intro n
 induction n with
 | zero=>intro i h;rw [show i=0 by omega];exact Nat.le_refl _
 | succ n ih=>
  intro i h
  by_cases c:i=n+1
  ·rw [c];exact Nat.le_refl _
  ·have:=ih i (by omega)
   rw [ns];omega
theorem B57(f:Nat->Nat){n i:Nat}(h:i<n):f i<=ns f n:=by
 have:=A5x f n (i+1) h
 rw [ns] at this
 omega
def Seed(A:Nat->Nat->Rat)(n k:Nat)(v:Nat->Rat):Prop:=
 (v k=1/\(∀ i,k<i->i<n->v i=0)/\ldA A k k k<0)\/
 (∃ p,k<p/\p<n/\v p=1/\(∀ i,k<i->i<n->i≠p->v i=0)/\ldA A k k k=0/\ldA A k p k≠0/\v k=(ldA A k p p+1)/(ldA A k p k * -2))
theorem Seed.congr{A:Nat->Nat->Rat}{n k:Nat}{v v':Nat->Rat}(s:Seed A n k v)(h:∀ i,k<=i->i<n->v i=v' i)(hk:k<n):Seed A n k v':=by
 rcases s with ⟨h1,h2,h3⟩|⟨p,p1,p2,h1,h2,h3,h4,h5⟩
 ·exact .inl ⟨by rw [<- h k (Nat.le_refl _) hk];exact h1,fun i a b=>by rw [<- h i (by omega) b];exact h2 i a b,h3⟩
 ·exact .inr ⟨p,p1,p2,by rw [<- h p (by omega) p2];exact h1,fun i a b c=>by rw [<- h i (by omega) b];exact h2 i a b c,h3,h4,by rw [<- h k (Nat.le_refl _) hk];exact h5⟩
theorem Seed.neg{A:Nat->Nat->Rat}{n k:Nat}{v:Nat->Rat}(s:Seed A n k v)(hs:Wb n A)(hk:k<n)(hok:∀ m,m<k->Kj A n m)(hv:∀ m,m<k->sm n (fun i=>ldL A i m*v i)=0):qf n A v<0:=by
 rcases s with ⟨h1,h2,h3⟩|⟨p,p1,p2,h1,h2,h3,h4,h5⟩
 ·exact B38 hs hk hok hv h1 h2 h3
 ·exact B37 hs p1 p2 hok hv h1 h2 h3 h4 h5
def Zi(n k Q:Nat):Nat:=(n-k)*(2*Q+2)+4*Q+10
structure Wv (E:Nat->Rat) (n k Q t:Nat) (v:Nat->Rat) (s:Nat->Nat):Prop where
 seed:Seed (mtx E n) n k v
 low:∀ i,i<t->v i=0
 zero:∀ m,t<=m->m<k->sm n (fun i=>ldL (mtx E n) i m*v i)=0
 sz:∀ i,i<n->Sz (s i) (v i)
 tot:ns (fun i=>if i<t then 0 else 2*Q+1+s i) n+(2*Q+2)<=2^(k-t)*Zi n k Q
theorem Qs:Sz 1 (1:Rat):=(⟨ZB.one (Nat.le_refl 1),ZB.one (Nat.le_refl 1)⟩:Sz 1 1)
theorem B1d{E:Nat->Rat}{n Q m:Nat}(F:LdF E n m Q)(hm:m<n)(hQ:1<=Q){i:Nat}(hi:i<n):Sz (2*Q) (ldL (mtx E n) i m):=by
 unfold ldL
 by_cases c:i=m
 ·rw [if_pos c];exact Qs.mono (by omega)
 ·rw [if_neg c]
  by_cases c2:i<m
  ·rw [if_pos c2];exact (Sz.zero (Nat.le_refl 1)).mono (by omega)
  ·rw [if_neg c2]
   split
   ·exact (Sz.zero (Nat.le_refl 1)).mono (by omega)
   ·exact ((F.zA i m (by omega) hi hm).div (F.zA m m (Nat.le_refl _) hm hm) hQ).mono (by omega)
section
variable {h g o:Heap} {be bl bd bv:Nat} {T:Tb} {E:Nat->Rat} {n k Q W m:Nat} {M:Nat->Nat->Int} {w:IV} {K:Value->Heap->Prop}
theorem Ld.off(X:Ld h g o be bl bd T E n k M w (Uf (mtx E n) n k) (Xx (mtx E n) k)){h' o':Heap}(s:Sep h' g o'){b:Nat}(hb:¬ onT T b)(h1:be≠b)(h2:bl≠b)(h3:bd≠b)(ko:∀ y,y≠b->o' y=o y):Ld h' g o' be bl bd T E n k M w (Uf (mtx E n) n k) (Xx (mtx E n) k):=
 ⟨X.e.away s hb h1 ko,X.m,X.l.ko (B3 _) (ko _ h2),X.d.ko (B3 _) (ko _ h3),X.tl,X.td,X.el,X.ed,X.ld⟩
structure Lv (h g o:Heap) (be bl bd bv:Nat) (T:Tb) (E:Nat->Rat) (n k:Nat) (M:Nat->Nat->Int) (w:IV) (v:Nat->Rat):Prop where
 x:Ld h g o be bl bd T E n k M w (Uf (mtx E n) n k) (Xx (mtx E n) k)
 q:QB g o bv n v
 t:¬ onT T bv
 e:be≠bv
 l:bl≠bv
 d:bd≠bv
theorem Lv.next{v:Nat->Rat}(X:Lv h g o be bl bd bv T E n k M w v){h' g':Heap}(s:Sep h' g' o)(l:g.le g'):Lv h' g' o be bl bd bv T E n k M w v:=⟨X.x.next s l,X.q.ko l rfl,X.t,X.e,X.l,X.d⟩
theorem Lv.store{v:Nat->Rat}(X:Lv h g o be bl bd bv T E n k M w v){i:Nat}(hi:i<n){u:QV}{z:Rat}(hu:RQ g u z){K:Unit->Heap->Prop}
 (x:∀ h' o',Lv h' g o' be bl bd bv T E n k M w (fun a=>if a=i then z else v a)->K () h'):wpH Tryz.prog (Instr.storeAt G0 (.pointer (some (Addr.add ⟨bv,0,none⟩ (i*4)))) u.v) K h:=by
 refine X.q.store X.x.e.t.sep hi hu ?_
 intro h' o' s' q ko
 exact x h' o' ⟨X.x.off s' X.t X.e X.l X.d ko,q,X.t,X.e,X.l,X.d⟩
theorem Lv.congr{v v':Nat->Rat}(X:Lv h g o be bl bd bv T E n k M w v)(e:∀ i,i<n->v i=v' i):Lv h g o be bl bd bv T E n k M w v':=⟨X.x,X.q.congr e,X.t,X.e,X.l,X.d⟩
theorem Wi(X:Ld h g o be bl bd T E n k M w (Uf (mtx E n) n k) (Xx (mtx E n) k))(gl:Gl g)(hF:∀ m,m<=k->LdF E n m Q)(hk:k<n)(hn:n<=64)(sy:Wb n (mtx E n))(ok:∀ m,m<k->Kj (mtx E n) n m)(hno:¬ Kj (mtx E n) n k)(hQ1:1<=Q)(hW:2^k*Zi n k Q<=W)(hW2:W<=1000000000)
 (hK:∀ h' v bv,g.le h'->RowV RQr h' (some ⟨bv,0,none⟩) n v->(∀ i,i<n->Sz W (v i))->qf n (mtx E n) v<0->K (.slice (some ⟨bv,0,none⟩) n n) h'):FCall Tryz.prog Li #[.pointer (some ⟨be,0,none⟩)] h K:=by
 have F:=hF k (Nat.le_refl _)
 have hCW:Zi n k Q<=W:=Nat.le_trans (Nat.le_mul_of_pos_left _ (Nat.pow_pos (by decide))) hW
 have hQW:4*Q+10<=W:=Nat.le_trans (by unfold Zi;omega) hCW
 refine A1g _ ?_
 unfold A2v
 refine ⟨_,rfl,_,X.e.c0,_,rfl,_,X.e.c1,?_⟩
 refine Dn B4x (zx:=Et) rfl (by omega) (by omega) (by omega) (by omega) ?_
 intro bv hbv
 simp only [Int.toNat_natCast]
 refine ⟨_,_,_,rfl,?_⟩
 have fr:∀ {k x},o k=some x->k≠bv:=by
  rintro k x e rfl
  rw [X.e.t.sep.own k x e] at hbv;cases hbv
 have tv:¬ onT T bv:=by
  obtain ⟨⟨y1,z1⟩,⟨y2,z2⟩,⟨y3,z3⟩⟩:=X.e.t.own
  rintro (rfl|rfl|rfl)
  ·exact fr z1 rfl
  ·exact fr z2 rfl
  ·exact fr z3 rfl
 have nbe:be≠bv:=by obtain ⟨e,he⟩:=X.e.hd;exact fr he
 have nbl:bl≠bv:=by obtain ⟨xs,⟨e,he⟩,_⟩:=X.l;exact fr he
 have nbd:bd≠bv:=by obtain ⟨xs,⟨e,he⟩,_⟩:=X.d;exact fr he
 have Y0:Lv _ g _ be bl bd bv T E n k M w (fun _=>0):=⟨X.off (X.e.t.sep.new hbv (.cells ((List.replicate n Et).flatMap enc).toArray G0)) tv nbe nbl nbd (fun y hy=>B8 _ _ hy),⟨_,RowX.mk,List.length_replicate,fun i hi=>⟨Et,by rw [List.getElem?_replicate,if_pos hi],RQ.zero⟩⟩,tv,nbe,nbl,nbd⟩
 rw [show B0b G0 h bv (List.replicate n Et)=h.put bv (.cells ((List.replicate n Et).flatMap enc).toArray G0) from rfl]
 generalize (h.put bv (.cells ((List.replicate n Et).flatMap enc).toArray G0))=h0 at *
 generalize (o.put bv (.cells ((List.replicate n Et).flatMap enc).toArray G0))=o0 at *
 clear X
 have ewm:B4 ((k:Int)-1)=(k:Int)-1:=by rw [B5]<;>omega
 rw [ewm]
 have tot1:ns (fun i=>if i<k then 0 else 2*Q+1+1) n+(2*Q+2)<=2^(k-k)*Zi n k Q:=by
  have:=B58 (f:=fun i=>if i<k then 0 else 2*Q+1+1) (a:=2*Q+2) (b:=2*Q+2) (k:=k) (fun i hi=>if_pos hi) n hk (by rw [if_neg (Nat.lt_irrefl k)];omega) (fun i h1 _=>by rw [if_neg (by omega)];omega)
  have e:(n-k)*(2*Q+2)=(n-k-1)*(2*Q+2)+(2*Q+2):=by rw [<- Nat.succ_mul];congr 1;omega
  rw [Nat.sub_self,Nat.pow_zero,Nat.one_mul]
  unfold Zi
  omega
 have one:∀ (J:Heap->Prop),(∀ (hp g' o':Heap) (v:Nat->Rat) (s:Nat->Nat),g.le g'->Lv hp g' o' be bl bd bv T E n k M w v->Wv E n k Q k v s->J hp)->∀ {h1 g1:Heap},Sep h1 g1 o0->g.le g1->ldA (mtx E n) k k k<0->FCall Tryz.prog Aa #[I (1:Int)] h1 (fun r11 hp14=>∃ (t590:Bool) (t591A:Option Addr) (t591n:Nat) (t591c:Nat) (t592:Bool) (t593A:Option Addr) (t593n:Nat) (t593c:Nat),r11= .agg #[.bool t590,.slice t591A t591n t591c,.bool t592,.slice t593A t593n t593c]/\∃ a4,some (⟨bv,0,none⟩:Addr)=some a4/\0<=(k:Int)/\(k:Int)<((n:Nat):Int)/\wpH Tryz.prog (Instr.storeAt G0 (.pointer (some (Addr.add a4 (((k:Int)).toNat*4)))) (.agg #[.bool t590,.slice t591A t591n t591c,.bool t592,.slice t593A t593n t593c])) (fun _ hp15=>J hp15) hp14):=by
  intro J hJ h1 g1 s1 l1 hneg
  refine s1.call (Ao (by omega) ?_)
  intro w2 g2 l2 i2 h2 s2
  refine ⟨_,_,_,_,_,_,_,_,rfl,_,rfl,by omega,by omega,?_⟩
  refine (Y0.next s2 (A0 l1 l2)).store hk (z:=1) i2 ?_
  intro h3 o3 Y3
  refine hJ h3 g2 o3 _ (fun _=>1) (A0 l1 l2) Y3 ⟨.inl ⟨if_pos rfl,fun i a _=>if_neg (by omega),hneg⟩,fun i hi=>if_neg (by omega),fun m a b=>by omega,fun i hi=>?_,tot1⟩
  split
  ·exact Qs
  ·exact Sz.zero (Nat.le_refl 1)
 refine ⟨fun L hp=>L=[]/\∃ (g' o':Heap) (v:Nat->Rat) (s:Nat->Nat),g.le g'/\Lv hp g' o' be bl bd bv T E n k M w v/\Wv E n k Q k v s,?_,?_⟩
 ·refine FCall.mono (Y0.x.partner F hk (by omega)) ?_
  rintro r h1 ⟨rfl,a,b,rfl,hb1,hb0⟩
  refine ⟨_,_,rfl,?_⟩
  have neg0:(b=false->ldA (mtx E n) k k k<0)/\(ldA (mtx E n) k k k≠0->ldA (mtx E n) k k k<0):=by
   refine ⟨fun e=>?_,fun e=>?_⟩
   ·refine Classical.byContradiction fun hn=>hno ⟨by grind,fun _ j c1 c2=>hb0 e j c1 c2⟩
   ·refine Classical.byContradiction fun hn=>hno ⟨by grind,fun x=>absurd x e⟩
  cases b with
  | false=>
   show FCall _ _ _ _ _
   exact one _ (fun hp g' o' v s a b c=>⟨rfl,g',o',v,s,a,b,c⟩) Y0.x.e.t.sep (B3 _) (neg0.1 rfl)
  | true=>
   obtain ⟨b1,b2,b3⟩:=hb1 rfl
   show FCall _ _ _ _ _
   refine Y0.x.at gl F (Nat.le_refl _) hk hk hQ1 (by omega) ?_
   intro w1 h1 g1 l1 s1 _ i1
   refine ⟨_,_,_,_,_,_,_,_,rfl,?_⟩
   refine Fi (Z2 _ _ _ _ s1.le i1) ⟨_,rfl,B6 (fun e0=>?_) (fun ne0=>?_)⟩
   rotate_left
   ·exact one _ (fun hp g' o' v s a b c=>⟨rfl,g',o',v,s,a,b,c⟩) s1 l1 (neg0.2 ne0)
   have Y1:=Y0.next s1 l1
   refine Y1.x.at (gl.mono l1) F (by omega) b2 hk hQ1 (by omega) ?_
   intro w2 h2 g2 l2 s2 _ i2
   refine ⟨_,_,_,_,_,_,_,_,rfl,?_⟩
   have Y2:=Y1.next s2 l2
   have l02:=A0 l1 l2
   refine Y2.x.at (gl.mono l02) F (by omega) b2 b2 hQ1 (by omega) ?_
   intro w3 h3 g3 l3 s3 _ i3
   refine ⟨_,_,_,_,_,_,_,_,rfl,?_⟩
   refine s3.call (Ao (by omega) ?_)
   intro w4 g4 l4 i4 h4 s4
   have l04:=A0 l02 (A0 l3 l4)
   refine ⟨_,_,_,_,_,_,_,_,rfl,_,rfl,by omega,by omega,?_⟩
   refine ((Y2.next s3 l3).next s4 l4).store b2 (z:=1) i4 ?_
   intro h5 o5 Y5
   refine Y5.x.e.t.sep.call (Ao (by omega) ?_)
   intro w6 g6 l6 i6 h6 s6
   refine ⟨_,_,_,_,_,_,_,_,rfl,Y5.x.e.t.sep.le_le s6 l6,?_⟩
   have l36:=A0 l4 l6
   have za:=F.zA a a (by omega) b2 b2
   have zb:=F.zA a k (by omega) b2 hk
   refine s6.call (Ry (m:=Q) (gl.mono (A0 l04 l6)).tz (Z2 _ _ _ _ l36 i3) i6 za (Qs.mono hQ1) (by omega) ?_)
   intro w7 g7 l7 i7 h7 s7
   refine ⟨_,_,_,_,_,_,_,_,rfl,s6.le_le s7 l7,?_⟩
   refine s7.call (Ao (by omega) ?_)
   intro w8 g8 l8 i8 h8 s8
   refine ⟨_,_,_,_,_,_,_,_,rfl,s7.le_le s8 l8,?_⟩
   have em2:((-2:Int):Rat)= -2:=by decide +kernel
   rw [em2] at i8
   have s2z:Sz 2 (-2:Rat):=⟨by unfold ZB;decide +kernel,by unfold ZB;decide +kernel⟩
   have l48:=A0 l6 (A0 l7 l8)
   refine s8.call (Kr (m:=Q+2) (gl.mono (A0 l04 l48)).tz (Z2 _ _ _ _ (A0 l3 (A0 l4 l48)) i2) i8 (zb.mono (by omega)) (s2z.mono (by omega)) (by omega) ?_)
   intro w9 g9 l9 i9 h9 s9
   refine ⟨_,_,_,_,_,_,_,_,rfl,s8.le_le s9 l9,?_⟩
   have zn:Sz (Q+2) (ldA (mtx E n) k a a+((1:Int):Rat)):=(za.add Qs).mono (by omega)
   have zd:Sz (Q+2) (ldA (mtx E n) k a k * -2):=zb.mul s2z
   refine s9.call (Ks (m:=Q+2) (gl.mono (A0 l04 (A0 l48 l9))).tz (Z2 _ _ _ _ (A0 l8 l9) i7) i9 zn zd (by omega) (by omega) ?_)
   intro w10 g10 l10 i10 h10 s10
   refine ⟨_,_,_,_,_,_,_,_,rfl,s9.le_le s10 l10,_,rfl,by omega,by omega,?_⟩
   have l510:=A0 l48 (A0 l9 l10)
   refine ((((((Y5.next s6 l6).next s7 l7).next s8 l8).next s9 l9).next s10 l10)).store hk i10 ?_
   intro h11 o11 Y11
   refine ⟨rfl,g10,o11,_,fun i=>if i=k then 2*Q+4 else 1,A0 l04 l510,Y11,.inr ⟨a,b1,b2,?_,fun i c1 c2 c3=>?_,e0,b3,if_pos rfl⟩,fun i hi=>?_,fun m c1 c2=>by omega,fun i hi=>?_,?_⟩
   ·try dsimp only
    rw [if_neg (by omega),if_pos rfl]
   ·try dsimp only
    rw [if_neg (by omega),if_neg c3]
   ·try dsimp only
    rw [if_neg (by omega),if_neg (by omega)]
   ·try dsimp only
    by_cases c:i=k
    ·rw [if_pos c,if_pos c]
     exact (zn.div zd (by omega)).mono (by omega)
    ·rw [if_neg c,if_neg c]
     split
     ·exact Qs
     ·exact Sz.zero (Nat.le_refl 1)
   ·have:=B58 (f:=fun i=>if i<k then 0 else 2*Q+1+if i=k then 2*Q+4 else 1) (a:=4*Q+5) (b:=2*Q+2) (k:=k) (fun i hi=>if_pos hi) n hk (by rw [if_neg (Nat.lt_irrefl k),if_pos rfl];omega) (fun i c1 _=>by rw [if_neg (by omega),if_neg (by omega)];omega)
    have e:(n-k)*(2*Q+2)=(n-k-1)*(2*Q+2)+(2*Q+2):=by rw [<- Nat.succ_mul];congr 1;omega
    rw [Nat.sub_self,Nat.pow_zero,Nat.one_mul]
    unfold Zi
    omega
 rintro hq ⟨_,g1,o1,v0,s0,lg,Y,V⟩
 refine ⟨fun L hp=>∃ (t:Nat) (g' o':Heap) (v:Nat->Rat) (s:Nat->Nat),t<=k/\L=[I ((t:Int)-1)]/\g.le g'/\Lv hp g' o' be bl bd bv T E n k M w v/\Wv E n k Q t v s,fun L _=>(iAt L 0+1).toNat,⟨k,g1,o1,v0,s0,Nat.le_refl _,rfl,lg,Y,V⟩,?_⟩
 clear Y V Y0 one tot1
 rintro z hp ⟨t,g2,o2,v,s,ht,eL,lg2,Y2,V2⟩
 obtain rfl:z=(t:Int)-1:=by simpa using eL
 have htW:ns (fun i=>if i<t then 0 else 2*Q+1+s i) n+(2*Q+2)<=W:=Nat.le_trans V2.tot (Nat.le_trans (Nat.mul_le_mul_right _ (Nat.pow_le_pow_right (by decide) (by omega))) hW)
 refine B6 (fun hge=>?_) (fun hlt=>?_)
 rotate_left
 ·have t0:t=0:=by omega
  subst t0
  refine hK hp v bv (A0 lg2 Y2.x.e.t.sep.le) (Y2.q.rowV Y2.x.e.t.sep) (fun i hi=>(V2.sz i hi).mono ?_) (V2.seed.neg sy hk ok fun m hm=>V2.zero m (Nat.zero_le _) hm)
  have:=B57 (fun i=>if i<0 then 0 else 2*Q+1+s i) hi
  rw [if_neg (by omega)] at this
  omega
 obtain ⟨j,rfl⟩:∃ j,t=j+1:=⟨t-1,by omega⟩
 have ej:((j+1:Nat):Int)-1=(j:Int):=by omega
 rw [ej]
 have hjn:j<n:=by omega
 have ewj:B4 ((j:Int)+1)=((j+1:Nat):Int):=by rw [B5]<;>omega
 rw [ewj]
 have hv0:=V2.low j (by omega)
 generalize hf:(fun i=>if i<j+1 then 0 else 2*Q+1+s i)=f at *
 have hfi:∀ i,j<i->f i=2*Q+1+s i:=fun i hi=>by rw [<- hf];dsimp only;rw [if_neg (by omega)]
 have hfj:f j=0:=by rw [<- hf];dsimp only;rw [if_pos (by omega)]
 have hnn:n*n<=64*64:=Nat.mul_le_mul hn hn
 refine ⟨fun L hx=>∃ (i:Nat) (g3 o3:Heap) (r:Rat),j<i/\i<=n/\L=[I (i:Int)]/\g2.le g3/\Lv hx g3 o3 be bl bd bv T E n k M w (fun a=>if a=j then r else v a)/\r= - sm i (fun a=>if a<=j then 0 else ldL (mtx E n) a j*v a)/\Sz (1+ns f i) r,fun L _=>n-(iAt L 0).toNat,⟨j+1,g2,o2,0,by omega,by omega,rfl,B3 _,Y2.congr (fun i _=>by
  by_cases c:i=j
  ·rw [if_pos c,c,hv0]
  ·rw [if_neg c]),by rw [Dk fun i hi=>if_pos (by omega)];grind,Sz.zero (by omega)⟩,?_⟩
 rintro z2 hx ⟨i,g3,o3,r,hi1,hi2,eL,l3,Y3,er,sr⟩
 obtain rfl:z2=(i:Int):=by simpa using eL
 have lg3:=A0 lg2 l3
 refine B6 (fun hlti=>?_) (fun hgei=>?_)
 ·have hin:i<n:=by omega
  have hij:=S7 hin hjn
  have ix:B4 (B4 ((i:Int)*(n:Int))+(j:Int))=((i*n+j:Nat):Int):=by
   rw [<- Int.natCast_mul,O7 (by omega)]
   exact O7 (n:=i*n+j) (by omega)
  obtain ⟨wj,iwj,a0,a1,a2,a3⟩:=Y3.q.at hjn
  rw [if_pos rfl] at iwj
  obtain ⟨wl,iwl,b0,b1,b2,b3⟩:=Y3.x.l.at hij
  obtain ⟨d1,d2⟩:=Ps (i:=i) hjn
  have elow:Uf (mtx E n) n k (i*n+j)=ldL (mtx E n) i j:=by unfold Uf;rw [d1,d2,if_pos (by omega)]
  rw [elow] at iwl
  obtain ⟨wi,iwi,c0,c1,c2,c3⟩:=Y3.q.at hin
  rw [if_neg (by omega)] at iwi
  have sp:=Y3.x.e.t.sep
  refine ⟨_,rfl,by omega,by omega,_,_,_,_,_,_,_,_,sp.cell a0,sp.cell a1,sp.cell a2,sp.cell a3,_,rfl,_,_,_,Y3.x.e.c5,_,rfl,?_⟩
  rw [ix]
  refine ⟨by omega,by omega,_,_,_,_,_,_,_,_,sp.cell b0,sp.cell b1,sp.cell b2,sp.cell b3,_,rfl,by omega,by omega,_,_,_,_,_,_,_,_,sp.cell c0,sp.cell c1,sp.cell c2,sp.cell c3,?_⟩
  have hmi:=A5x f n (i+1) hin
  have emi:ns f (i+1)=ns f i+(2*Q+1+s i):=by rw [ns,hfi i hi1]
  have sl:=B1d (hF j (by omega)) hjn hQ1 hin
  have sv:=V2.sz i hin
  refine sp.call (Kr (m:=W) (gl.mono lg3).tz iwl iwi (sl.mono (by omega)) (sv.mono (by omega)) (by omega) ?_)
  intro w4 g4 l4 i4 h4 s4
  refine ⟨_,_,_,_,_,_,_,_,rfl,sp.le_le s4 l4,?_⟩
  have spr:Sz (2*Q+s i) (ldL (mtx E n) i j*v i):=sl.mul sv
  refine s4.call (A36 (m:=W) (gl.mono (A0 lg3 l4)).tz (Z2 _ _ _ _ l4 iwj) i4 (sr.mono (by omega)) (spr.mono (by omega)) (by omega) ?_)
  intro w5 g5 l5 i5 h5 s5
  refine ⟨_,_,_,_,_,_,_,_,rfl,s4.le_le s5 l5,_,rfl,by omega,by omega,?_⟩
  refine ((Y3.next s4 l4).next s5 l5).store hjn i5 ?_
  intro h6 o6 Y6
  rw [show B4 ((i:Int)+1)=((i+1:Nat):Int) by rw [B5]<;>omega]
  refine ⟨⟨i+1,g5,o6,r-ldL (mtx E n) i j*v i,by omega,by omega,rfl,A0 l3 (A0 l4 l5),Y6.congr (fun a _=>?_),?_,?_⟩,by simp only [Re];omega⟩
  ·by_cases c:a=j
   ·rw [if_pos c,if_pos c]
   ·rw [if_neg c,if_neg c,if_neg c]
  ·rw [sm,if_neg (by omega),er];grind
  ·exact (sr.sub spr).mono (by omega)
 ·have ein:i=n:=by omega
  subst ein
  have ewj2:B4 ((j:Int)-1)=(j:Int)-1:=by rw [B5]<;>omega
  rw [ewj2]
  refine ⟨⟨j,g3,o3,fun a=>if a=j then r else v a,fun a=>if a=j then 1+ns f i else s a,by omega,rfl,lg3,Y3,⟨V2.seed.congr (fun a ha _=>by rw [if_neg (by omega)]) hk,fun a ha=>by rw [if_neg (by omega)];exact V2.low a (by omega),fun m hm hmk=>?_,fun a ha=>?_,?_⟩⟩,?_⟩
  ·by_cases c:m=j
   ·rw [c]
    have e:sm i (fun a=>ldL (mtx E i) a j*if a=j then r else v a)=sm i (fun a=>(if a=j then r else 0)+if a<=j then 0 else ldL (mtx E i) a j*v a):=by
     refine F7 fun a ha=>?_
     by_cases c1:a=j
     ·rw [if_pos c1,if_pos c1,if_pos (by omega),c1,A6a,Rat.one_mul,Rat.add_zero]
     ·rw [if_neg c1,if_neg c1]
      by_cases c2:a<=j
      ·rw [if_pos c2,A0h (show a<j by omega),Rat.zero_mul,Rat.add_zero]
      ·rw [if_neg c2,Rat.zero_add]
    rw [e,Mh,Ok hjn fun a _ c=>if_neg c,if_pos rfl,er]
    grind
   ·rw [<- V2.zero m (by omega) hmk]
    refine F7 fun a ha=>?_
    by_cases c1:a=j
    ·rw [c1,A0h (show j<m by omega),Rat.zero_mul,Rat.zero_mul]
    ·rw [if_neg c1]
  ·by_cases c:a=j
   ·rw [if_pos c,if_pos c];exact sr
   ·rw [if_neg c,if_neg c];exact V2.sz a ha
  ·rw [A9o (f:=f) (f':=fun a=>if a<j then 0 else 2*Q+1+if a=j then 1+ns f i else s a) hfj (fun a ha=>by
    by_cases c:a<j
    ·rw [if_pos c,<- hf];dsimp only;rw [if_pos (by omega)]
    ·rw [if_neg c,if_neg ha,hfi a (by omega)]) i hjn,if_neg (Nat.lt_irrefl j),if_pos rfl]
   have h1:=V2.tot
   rw [hf] at h1
   have h2:2^(k-j)*Zi i k Q=2*(2^(k-(j+1))*Zi i k Q):=by
    rw [show k-j=(k-(j+1))+1 by omega,Nat.pow_succ,Nat.mul_comm _ 2,Nat.mul_assoc]
   rw [h2]
   omega
  ·show ((j:Int)-1+1).toNat<((j:Int)+1).toNat
   omega
end
def SymT(q:Nat)(ls:Nat->List UInt8):Prop:=∀ i j,i<q->j<i->ls (i*q+j)=ls (j*q+i)
def A8s(r c:Int)(n:Nat)(ls:Nat->List UInt8)(q:Nat):Prop:=MOk r c n ls q q/\SymT q ls
def SqE(r c:Int)(n:Nat)(ls:Nat->List UInt8)(e:Int):Prop:=(¬ Mx r c n ls/\e=1)\/(Mx r c n ls/\(¬ ∃ q,A8s r c n ls q)/\e=4)
theorem SymT.symm{q:Nat}{ls:Nat->List UInt8}(h:SymT q ls):Wb q (mtx (rvs ls) q):=fun i j hi hj=>by
 show rv (ls (i*q+j))=rv (ls (j*q+i))
 rcases Nat.lt_trichotomy i j with c|c|c
 ·rw [h j i hj c]
 ·rw [c]
 ·rw [h i j hi c]
section
variable {h:Heap} {K:Value->Heap->Prop} {A:Option Addr} {n cap m:Nat} {r c:Int} {ls:Nat->List UInt8}
theorem MOk.sq{q q':Nat}(mk:MOk r c n ls q q')(e:r=c):q=q':=by have:=mk.er;have:=mk.ec;omega
theorem Sl(gl:Gl h)(rv':RowV SSr h A n ls)(hn:n<=1000000)(hl:∀ i,i<n->(ls i).length<=100000000)
 (hK1:∀ q,A8s r c n ls q->∀ b h',Own RQr h h' b (q*q) (rvs ls)->K (.tuple #[.slice (some ⟨b,0,none⟩) (q*q) (q*q),I 0]) h')
 (hK0:∀ e,SqE r c n ls e->∀ h',h.le h'->K (.tuple #[.slice none 0 0,I e]) h'):FCall Tryz.prog Ux #[A9r r c A n cap] h K:=by
 refine B10 _ _ _ _ _ ?_
 unfold B6l
 refine A3g gl rv' hn hl ?_ (fun hno h1 l1=>⟨_,_,_,_,rfl,hK0 1 (.inl ⟨hno,rfl⟩) h1 l1⟩)
 intro q q' mk b h1 own
 refine ⟨_,_,_,_,rfl,?_⟩
 show Br _ _ _
 refine R4 (fun hne=>hK0 4 (.inr ⟨⟨_,_,mk⟩,(fun ⟨a,x,_⟩=>hne (by have:=x.er;have:=x.ec;omega)),rfl⟩) h1 own.le) (fun heq=>?_)
 obtain rfl:=mk.sq heq
 have:=mk.r2
 obtain ⟨rfl,rfl,_,_,_,_,rfl,hnum⟩:=id mk
 have sv:RowV SSr h1 A (q*q) ls:=rv'.mono Ky own.le
 have hqq:q*q<=64*64:=Nat.mul_le_mul (by omega) (by omega)
 have ix:∀ {i j:Nat},i<q->j<q->B4 (B4 ((i:Int)*(q:Int))+(j:Int))=((i*q+j:Nat):Int):=fun {i j} hi hj=>by
  have:=S7 hi hj
  rw [<- Int.natCast_mul,O7 (by omega)]
  exact O7 (n:=i*q+j) (by omega)
 have bad:∀ {i j:Nat},i<q->j<i->ls (i*q+j)≠ls (j*q+i)->¬ ∃ a,A8s (q:Int) (q:Int) (q*q) ls a:=by
  rintro i j hi hj hne ⟨a,x,y⟩
  obtain rfl:a=q:=by have:=x.er;omega
  exact hne (y i j hi hj)
 refine ⟨fun L hp=>∃ i:Nat,i<=q/\L=[I (i:Int)]/\hp=h1/\∀ a b,a<i->b<a->ls (a*q+b)=ls (b*q+a),fun L _=>q-(iAt L 0).toNat,⟨0,by omega,rfl,rfl,fun a b ha=>by omega⟩,?_⟩
 rintro z hp ⟨i,hi,eL,rfl,hh⟩
 obtain rfl:z=(i:Int):=by simpa using eL
 refine B6 (fun hlt=>?_) (fun hge=>hK1 q ⟨mk,fun a b ha hb=>hh a b (by omega) hb⟩ b hp own)
 have hiq:i<q:=by omega
 refine ⟨fun L hx=>∃ j:Nat,j<=i/\L=[I (j:Int)]/\hx=hp/\∀ b,b<j->ls (i*q+b)=ls (b*q+i),fun L _=>i-(iAt L 0).toNat,⟨0,by omega,rfl,rfl,fun b hb=>by omega⟩,?_⟩
 rintro z2 hx ⟨j,hj,eL,rfl,hg⟩
 obtain rfl:z2=(j:Int):=by simpa using eL
 refine B6 (fun hlt2=>?_) (fun hge2=>?_)
 ·have hji:j<i:=by omega
  have i1:=S7 hiq (show j<q by omega)
  have i2:=S7 (show j<q by omega) hiq
  obtain ⟨u,rfl,hc⟩:=sv.sat i1
  obtain ⟨u',eu,hd⟩:=sv.sat i2
  simp only [Option.some.injEq] at eu
  subst eu
  rw [ix hiq (show j<q by omega),ix (show j<q by omega) hiq]
  refine ⟨_,rfl,by omega,by omega,_,hc,_,rfl,by omega,by omega,_,hd,?_⟩
  rw [Jt]
  refine Bc (B6 (fun e=>?_) (fun e=>hK0 4 (.inr ⟨⟨_,_,mk⟩,bad hiq hji e,rfl⟩) hx own.le))
  rw [show B4 ((j:Int)+1)=((j+1:Nat):Int) by rw [B5]<;>omega]
  refine ⟨⟨j+1,by omega,rfl,rfl,fun b hb=>?_⟩,by simp only [Re];omega⟩
  by_cases c:b=j
  ·rw [c];exact e
  ·exact hg b (by omega)
 ·rw [show B4 ((i:Int)+1)=((i+1:Nat):Int) by rw [B5]<;>omega]
  refine ⟨⟨i+1,by omega,rfl,rfl,fun a b ha hb=>?_⟩,by simp only [Re];omega⟩
  by_cases c:a=i
  ·rw [c];exact hg b (by omega)
  ·exact hh a b (by omega) hb
theorem Xm(rv':RowV SSr h A n ls)(hn:n<=1000000)(hl:∀ i,i<n->(ls i).length<=100000000)
 (hK1:∀ q,A8s r c n ls q->∀ bo cp h',h.le h'->q<=cp->RowsV h' (some ⟨bo,0,none⟩) q q (mtx (rvs ls) q)->K (.tuple #[.slice (some ⟨bo,0,none⟩) q cp,I 0]) h')
 (hK0:∀ e,SqE r c n ls e->∀ h',h.le h'->K (.tuple #[.slice none 0 0,I e]) h'):FCall Tryz.prog Pm #[A9r r c A n cap] h K:=by
 refine A4h _ _ _ _ _ ?_
 unfold A8h
 refine A3k rv' hn hl ?_ (fun hno h1 l1=>⟨_,_,_,_,rfl,hK0 1 (.inl ⟨hno,rfl⟩) h1 l1⟩)
 intro q q' mk bo h1 l1 rs
 refine ⟨_,_,_,_,rfl,?_⟩
 show Br _ _ _
 refine R4 (fun hne=>hK0 4 (.inr ⟨⟨_,_,mk⟩,(fun ⟨a,x,_⟩=>hne (by have:=x.er;have:=x.ec;omega)),rfl⟩) h1 l1) (fun heq=>?_)
 obtain rfl:=mk.sq heq
 have:=mk.r2
 obtain ⟨rfl,rfl,_,_,_,_,rfl,hnum⟩:=id mk
 have sv:RowV SSr h1 A (q*q) ls:=rv'.mono Ky l1
 have hqq:q*q<=64*64:=Nat.mul_le_mul (by omega) (by omega)
 have ix:∀ {i j:Nat},i<q->j<q->B4 (B4 ((i:Int)*(q:Int))+(j:Int))=((i*q+j:Nat):Int):=fun {i j} hi hj=>by
  have:=S7 hi hj
  rw [<- Int.natCast_mul,O7 (by omega)]
  exact O7 (n:=i*q+j) (by omega)
 have bad:∀ {i j:Nat},i<q->j<i->ls (i*q+j)≠ls (j*q+i)->¬ ∃ a,A8s (q:Int) (q:Int) (q*q) ls a:=by
  rintro i j hi hj hne ⟨a,x,y⟩
  obtain rfl:a=q:=by have:=x.er;omega
  exact hne (y i j hi hj)
 refine ⟨fun L hp=>∃ i:Nat,i<=q/\L=[I (i:Int)]/\hp=h1/\∀ a b,a<i->b<a->ls (a*q+b)=ls (b*q+a),fun L _=>q-(iAt L 0).toNat,⟨0,by omega,rfl,rfl,fun a b ha=>by omega⟩,?_⟩
 rintro z hp ⟨i,hi,eL,rfl,hh⟩
 obtain rfl:z=(i:Int):=by simpa using eL
 refine B6 (fun hlt=>?_) (fun hge=>hK1 q ⟨mk,fun a b ha hb=>hh a b (by omega) hb⟩ bo _ hp l1 (Nat.le_refl _) rs)
 have hiq:i<q:=by omega
 refine ⟨fun L hx=>∃ j:Nat,j<=i/\L=[I (j:Int)]/\hx=hp/\∀ b,b<j->ls (i*q+b)=ls (b*q+i),fun L _=>i-(iAt L 0).toNat,⟨0,by omega,rfl,rfl,fun b hb=>by omega⟩,?_⟩
 rintro z2 hx ⟨j,hj,eL,rfl,hg⟩
 obtain rfl:z2=(j:Int):=by simpa using eL
 refine B6 (fun hlt2=>?_) (fun hge2=>?_)
 ·have hji:j<i:=by omega
  have i1:=S7 hiq (show j<q by omega)
  have i2:=S7 (show j<q by omega) hiq
  obtain ⟨u,rfl,hc⟩:=sv.sat i1
  obtain ⟨u',eu,hd⟩:=sv.sat i2
  simp only [Option.some.injEq] at eu
  subst eu
  rw [ix hiq (show j<q by omega),ix (show j<q by omega) hiq]
  refine ⟨_,rfl,by omega,by omega,_,hc,_,rfl,by omega,by omega,_,hd,?_⟩
  rw [Jt]
  refine Bc (B6 (fun e=>?_) (fun e=>hK0 4 (.inr ⟨⟨_,_,mk⟩,bad hiq hji e,rfl⟩) hx l1))
  rw [show B4 ((j:Int)+1)=((j+1:Nat):Int) by rw [B5]<;>omega]
  refine ⟨⟨j+1,by omega,rfl,rfl,fun b hb=>?_⟩,by simp only [Re];omega⟩
  by_cases c:b=j
  ·rw [c];exact e
  ·exact hg b (by omega)
 ·rw [show B4 ((i:Int)+1)=((i+1:Nat):Int) by rw [B5]<;>omega]
  refine ⟨⟨i+1,by omega,rfl,rfl,fun a b ha hb=>?_⟩,by simp only [Re];omega⟩
  by_cases c:a=i
  ·rw [c];exact hg b (by omega)
  ·exact hh a b (by omega) hb
structure FacV (h:Heap) (q:Nat) (A1:Option Addr) (A2:Option Addr) (E:Nat->Rat):Prop where
 l:RowV SSr h A1 (q*q) (fun t=>N5 (Uf (mtx E q) q q t))
 d:RowV SSr h A2 q (fun t=>N5 (Xx (mtx E q) q t))
theorem Ms{Q:Nat}(gl:Gl h)(rv':RowV SSr h A n ls)(hn:n<=1000000)(hl:∀ i,i<n->(ls i).length<=100000000)(hs:∀ i,i<n->Sz m (rv (ls i)))(hb:∀ q,MOk r c n ls q q->3^q*bnd q m+bnd q m<=Q)(hQ:Q<=20000000)
 (hK1:∀ q,A8s r c n ls q->(∀ k,k<q->Kj (mtx (rvs ls) q) q k)->∀ b1 b2 h',h.le h'->FacV h' q (some ⟨b1,0,none⟩) (some ⟨b2,0,none⟩) (rvs ls)->K (.tuple #[.agg #[I r,I c,.slice (some ⟨b1,0,none⟩) (q*q) (q*q),.slice (some ⟨b2,0,none⟩) q q],.bool true,I 0]) h')
 (hK2:∀ q,A8s r c n ls q->(¬ ∀ k,k<q->Kj (mtx (rvs ls) q) q k)->∀ h',h.le h'->K (.tuple #[.agg #[I 0,I 0,.slice none 0 0,.slice none 0 0],.bool false,I 0]) h')
 (hK0:∀ e,SqE r c n ls e->∀ h',h.le h'->K (.tuple #[.agg #[I 0,I 0,.slice none 0 0,.slice none 0 0],.bool false,I e]) h'):FCall Tryz.prog Jo #[A9r r c A n cap] h K:=by
 refine A4i _ _ _ _ _ ?_
 unfold A8j
 refine Sl gl rv' hn hl ?_ (fun e he h1 l1=>⟨_,_,_,_,rfl,R4 (fun _=>hK0 e he h1 l1) (fun e0=>by rcases he with ⟨_,x⟩|⟨_,_,x⟩<;>omega)⟩)
 intro q sq b h1 own
 obtain ⟨mk,st⟩:=id sq
 have hbq:=hb q mk
 have:=mk.r1;have:=mk.r2
 obtain ⟨rfl,rfl,_,_,_,_,rfl,hnum⟩:=id mk
 refine ⟨_,_,_,_,rfl,R4 (fun hne=>absurd rfl hne) (fun _=>?_)⟩
 refine Hd (Q:=Q) (gl.mono own.le) (own.vis Z2) (Nat.le_refl _) (by omega) (by omega) st.symm hs hbq (by omega) ?_ ?_
 ·intro ok h2 g2 o2 be bl bd T M w lh lg X
  have hqq:q*q<=64*64:=Nat.mul_le_mul (by omega) (by omega)
  have hQp:1<=Q:=by unfold bnd at hbq;omega
  have F:=fun k (hk:k<=q)=>ldF hs hbq st.symm hk fun m hm=>ok m (by omega)
  have g02:Gl g2:=gl.mono (A0 own.le lg)
  refine ⟨_,_,rfl,?_⟩
  show Br false _ _
  refine ⟨_,rfl,_,_,_,X.e.c5,?_⟩
  have gh2:Gl h2:=gl.mono (A0 own.le lh)
  refine Ff (m:=2*Q) gh2 (X.l.rowV X.e.t.sep) (by omega) (fun i hi=>?_) (by omega) ?_
  ·unfold Uf
   have hm:i%q<q:=Nat.mod_lt _ (by omega)
   rw [if_pos hm]
   exact B1d (F _ (by omega)) hm hQp (Nat.div_lt_of_lt_mul hi)
  intro b3 h3 own3
  refine ⟨_,_,_,rfl,own3.le,_,rfl,_,_,_,D5 own3.le X.e.c6,?_⟩
  refine Ff (m:=Q) (gh2.mono own3.le) ((X.d.rowV X.e.t.sep).mono Z2 own3.le) (by omega) (fun i hi=>?_) (by omega) ?_
  ·unfold Xx ldD
   rw [if_pos hi]
   exact (F i (by omega)).zA i i (Nat.le_refl _) hi hi
  intro b4 h4 own4
  exact ⟨_,_,_,rfl,own4.le,hK1 q sq ok b3 b4 h4 (A0 (A0 own.le lh) (A0 own3.le own4.le)) ⟨(own3.vis Ky).mono Ky own4.le,own4.vis Ky⟩⟩
 ·intro k hk ok hno h2 g2 o2 be bl bd T M w lh lg X
  refine ⟨_,_,rfl,?_⟩
  show Br true _ _
  exact hK2 q sq (fun x=>hno (x k hk)) h2 (A0 own.le lh)
theorem Jp{Q:Nat}(gl:Gl h)(rv':RowV SSr h A n ls)(hn:n<=1000000)(hl:∀ i,i<n->(ls i).length<=100000000)(hs:∀ i,i<n->Sz m (rv (ls i)))(hb:∀ q,MOk r c n ls q q->3^q*bnd q m+bnd q m<=Q){W:Nat}(hW:∀ q k,MOk r c n ls q q->k<q->2^k*Zi q k Q<=W)(hW2:W<=40000000)
 (hK1:∀ q,A8s r c n ls q->(¬ ∀ k,k<q->Kj (mtx (rvs ls) q) q k)->∀ v b h',h.le h'->RowV SSr h' (some ⟨b,0,none⟩) q (fun i=>N5 (v i))->(∀ i,i<q->Sz W (v i))->qf q (mtx (rvs ls) q) v<0->K (.tuple #[.slice (some ⟨b,0,none⟩) q q,.bool true,I 0]) h')
 (hK2:∀ q,A8s r c n ls q->(∀ k,k<q->Kj (mtx (rvs ls) q) q k)->∀ h',h.le h'->K (.tuple #[.slice none 0 0,.bool false,I 0]) h')
 (hK0:∀ e,SqE r c n ls e->∀ h',h.le h'->K (.tuple #[.slice none 0 0,.bool false,I e]) h'):FCall Tryz.prog Lk #[A9r r c A n cap] h K:=by
 refine A1j _ _ _ _ _ ?_
 unfold A2y
 refine Sl gl rv' hn hl ?_ (fun e he h1 l1=>⟨_,_,_,_,rfl,R4 (fun _=>hK0 e he h1 l1) (fun e0=>by rcases he with ⟨_,x⟩|⟨_,_,x⟩<;>omega)⟩)
 intro q sq b h1 own
 obtain ⟨mk,st⟩:=id sq
 have hbq:=hb q mk
 have hWq:=hW q
 have:=mk.r1;have:=mk.r2
 obtain ⟨rfl,rfl,_,_,_,_,rfl,hnum⟩:=id mk
 have hQp:1<=Q:=by unfold bnd at hbq;omega
 have hQW:4*Q+10<=W:=by
  have:=hWq 0 mk (by omega)
  unfold Zi at this
  omega
 refine ⟨_,_,_,_,rfl,R4 (fun hne=>absurd rfl hne) (fun _=>?_)⟩
 refine Hd (Q:=Q) (gl.mono own.le) (own.vis Z2) (Nat.le_refl _) (by omega) (by omega) st.symm hs hbq (by omega) ?_ ?_
 ·intro ok h2 g2 o2 be bl bd T M w lh lg X
  refine ⟨_,_,rfl,?_⟩
  show Br true _ _
  exact hK2 q sq ok h2 (A0 own.le lh)
 ·intro k hk ok hno h2 g2 o2 be bl bd T M w lh lg X
  refine ⟨_,_,rfl,?_⟩
  show Br false _ _
  have l02:h.le g2:=A0 own.le lg
  refine Wi (Q:=Q) (W:=W) X (gl.mono l02) (fun m hm=>ldF hs hbq st.symm (by omega) fun k' hk'=>ok k' (by omega)) hk (by omega) st.symm ok hno hQp (hWq k mk hk) (by omega) ?_
  intro h3 v bv l3 rq sz neg
  refine ⟨_,_,_,rfl,?_⟩
  have l03:=A0 l02 l3
  refine Ff (m:=W) (gl.mono l03) rq (by omega) sz hW2 ?_
  intro b4 h4 own4
  exact ⟨_,_,_,rfl,hK1 q sq (fun x=>hno (x k hk)) v b4 h4 (A0 l03 own4.le) (own4.vis Ky) sz neg⟩
end
theorem Er{X Y:Prop}(x:X):Br true X Y:=x
theorem Br.no{X Y:Prop}(y:Y):Br false X Y:=y
theorem B6o:N5 0=[48]:=A4x
theorem B9k:N5 (1/2)=[49,47,50]:=by
 have e1:L5 1=[49]:=by decide +kernel
 have e2:L5 2=[50]:=by decide +kernel
 have h1:(1/2:Rat).den=2:=by decide +kernel
 have h2:(1/2:Rat).num=1:=by decide +kernel
 simp [N5,Im,e1,e2,h1,h2]
abbrev E4:Nat->Rat:=fun i=>([4,2,2,1]:List Rat).getD i 0
abbrev E0:Nat->Rat:=fun i=>([0,1,1,0]:List Rat).getD i 0
theorem aw4:ldA (mtx E4 2) 0 0 0=4/\ldA (mtx E4 2) 1 1 1=0:=by decide +kernel
theorem aw5:∀ t,t<4->Uf (mtx E4 2) 2 2 t=([1,0,1/2,1]:List Rat).getD t 0:=by decide +kernel
theorem aw6:∀ t,t<2->Xx (mtx E4 2) 2 t=([4,0]:List Rat).getD t 0:=by decide +kernel
theorem aw7:ldA (mtx E0 2) 0 0 0=0/\ldA (mtx E0 2) 0 1 0≠0:=by decide +kernel
theorem B8b:∀ k,k<2->Kj (mtx E4 2) 2 k:=by
 intro k hk
 have h:=aw4
 by_cases c:k=0
 ·subst c
  exact ⟨by rw [h.1];decide +kernel,fun e=>by rw [h.1] at e;exact absurd e (by decide +kernel)⟩
 ·have:k=1:=by omega
  subst this
  exact ⟨by rw [h.2];exact Rat.le_refl,fun _ i h1 h2=>by omega⟩
theorem B8c:¬ ∀ k,k<2->Kj (mtx E0 2) 2 k:=fun x=>aw7.2 ((x 0 (by omega)).2 aw7.1 1 (by omega) (by omega))
theorem A67(l:List Rat)(hl:∀ q∈l,(N5 q).length<=1){i:Nat}(hi:i<(l.map N5).length):((l.map N5).getD i []).length<=1:=by
 rw [List.getD_eq_getElem?_getD,List.getElem?_eq_getElem hi]
 have hi':i<l.length:=by simpa using hi
 simp only [List.getElem_map,Option.getD_some]
 exact hl _ (List.getElem_mem hi')
theorem Ov(l:List Rat){i:Nat}(hi:i<l.length):(l.map N5).getD i []=N5 (l.getD i 0):=by
 rw [List.getD_eq_getElem?_getD,List.getD_eq_getElem?_getD,List.getElem?_map,List.getElem?_eq_getElem hi]
 rfl
theorem B8l(l:List Rat)(hl:l.length=4):MOk 2 2 4 (fun i=>(l.map N5).getD i []) 2 2:=by
 refine MOk.of (r:=2) (c:=2) ⟨by omega,by omega,by omega,by omega,by omega⟩ fun i hi=>⟨l.getD i 0,Ov l (by omega)⟩
theorem B4y(l:List Rat)(hl:l.length=4)(e:l.getD 2 0=l.getD 1 0):SymT 2 (fun i=>(l.map N5).getD i []):=fun i j hi hj=>by
 have h1:i=1:=by omega
 have h2:j=0:=by omega
 subst h1
 subst h2
 show (l.map N5).getD 2 []=(l.map N5).getD 1 []
 rw [Ov l (by omega),Ov l (by omega),e]
theorem A13{h:Heap}{K:Value->Heap->Prop}(gl:Gl h)(hK:∀ h',h.le h'->K (.bool true) h'):FCall Tryz.prog Gu #[] h K:=by
 refine A84 ?_
 unfold B2a
 have b4:∀ q,MOk 2 2 4 (fun i=>(([4,2,2,1]:List Rat).map N5).getD i []) q q->3^q*bnd q 4+bnd q 4<=1000:=fun q mk=>by
  have:=mk.er
  have:q=2:=by omega
  subst this
  decide
 have b0:∀ q,MOk 2 2 4 (fun i=>(([0,1,1,0]:List Rat).map N5).getD i []) q q->3^q*bnd q 4+bnd q 4<=1000:=fun q mk=>by
  have:=mk.er
  have:q=2:=by omega
  subst this
  decide
 have mk4:=B8l [4,2,2,1] rfl
 have mk0:=B8l [0,1,1,0] rfl
 have st4:=B4y [4,2,2,1] rfl rfl
 have st0:=B4y [0,1,1,0] rfl rfl
 have ne4:∀ e,¬ SqE 2 2 4 (fun i=>(([4,2,2,1]:List Rat).map N5).getD i []) e:=fun e x=>by
  rcases x with ⟨x,_⟩|⟨_,x,_⟩
  ·exact x ⟨_,_,mk4⟩
  ·exact x ⟨2,mk4,st4⟩
 have ne0:∀ e,¬ SqE 2 2 4 (fun i=>(([0,1,1,0]:List Rat).map N5).getD i []) e:=fun e x=>by
  rcases x with ⟨x,_⟩|⟨_,x,_⟩
  ·exact x ⟨_,_,mk0⟩
  ·exact x ⟨2,mk0,st0⟩
 have z4:∀ {i:Nat},i<4->((([4,2,2,1]:List Rat).map N5).getD i []).length<=1:=fun {i} hi=>A67 _ (by simp [B4v,B8j,B7j]) (by simpa using hi)
 have z0:∀ {i:Nat},i<4->((([0,1,1,0]:List Rat).map N5).getD i []).length<=1:=fun {i} hi=>A67 _ (by simp [B4v,B6o]) (by simpa using hi)
 refine Uh Iq (ls:=[4,2,2,1].map N5) rfl (by simp) (by rw [show ([4,2,2,1]:List Rat).map N5=[[52],[50],[50],[49]] by simp [B4v,B8j,B7j]];rfl) ?_
 intro b1 h1 l1 s1
 have r1:=Fh s1
 refine ⟨_,_,_,rfl,?_⟩
 refine Ms (m:=4) (Q:=1000) (gl.mono l1) r1 (by simp) (fun i hi=>Nat.le_trans (z4 (by simpa using hi)) (by omega)) (fun i hi=>B2v (k:=1) (z4 (by simpa using hi)) (by omega)) b4 (by omega) ?_ (fun q sq hno _ _=>?_) (fun e he _ _=>absurd he (ne4 e))
 rotate_left
 ·obtain rfl:q=2:=by have:=sq.1.er;omega
  rw [Tw] at hno
  exact absurd B8b hno
 intro q sq ok1 c1 c2 h2 l2 fv
 obtain rfl:q=2:=by have:=sq.1.er;omega
 have fl:=fv.l
 have fd:=fv.d
 rw [Tw] at fl fd
 refine ⟨_,_,_,_,_,_,_,_,_,_,rfl,?_⟩
 refine Uh Iq (ls:=[0,1,1,0].map N5) rfl (by simp) (by rw [show ([0,1,1,0]:List Rat).map N5=[[48],[49],[49],[48]] by simp [B4v,B6o]];rfl) ?_
 intro b3 h3 l3 s3
 have r3:=Fh s3
 have l13:=A0 l1 (A0 l2 l3)
 refine ⟨_,_,_,rfl,?_⟩
 refine Ms (m:=4) (Q:=1000) (gl.mono l13) r3 (by simp) (fun i hi=>Nat.le_trans (z0 (by simpa using hi)) (by omega)) (fun i hi=>B2v (k:=1) (z0 (by simpa using hi)) (by omega)) b0 (by omega) (fun q sq ok _ _ _ _ _=>?_) ?_ (fun e he _ _=>absurd he (ne0 e))
 ·obtain rfl:q=2:=by have:=sq.1.er;omega
  rw [Tw] at ok
  exact absurd ok B8c
 intro q sq0 _ h4 l4
 refine ⟨_,_,_,_,_,_,_,_,_,_,rfl,Er (Er ?_)⟩
 refine Uh Iq (ls:=[4,0].map N5) rfl (by simp) (by rw [show ([4,0]:List Rat).map N5=[[52],[48]] by simp [B7j,B6o]];rfl) ?_
 intro b5 h5 l5 s5
 have r5:=Fh s5
 refine ⟨_,_,_,rfl,?_⟩
 have l25:=A0 l3 (A0 l4 l5)
 refine Jf (fd.mono Ky l25) r5 (by omega) (fun _ _=>⟨_,rfl,Er ?_⟩) (fun hno=>absurd ⟨by simp,fun i hi=>?_⟩ hno)
 rotate_left
 ·rw [Ov _ (by simpa using hi),aw6 i hi]
 refine Uh Iq (ls:=[1,0,1/2,1].map N5) rfl (by simp) (by rw [show ([1,0,1/2,1]:List Rat).map N5=[[49],[48],[49,47,50],[49]] by simp only [List.map_cons,List.map_nil,B4v,B6o,B9k]];rfl) ?_
 intro b6 h6 l6 s6
 have r6:=Fh s6
 refine ⟨_,_,_,rfl,?_⟩
 refine Jf (fl.mono Ky (A0 l25 l6)) r6 (by omega) (fun _ _=>⟨_,rfl,Er (Er ?_)⟩) (fun hno=>absurd ⟨by simp,fun i hi=>?_⟩ hno)
 rotate_left
 ·rw [Ov _ (by simpa using hi),aw5 i hi]
 exact hK h6 (A0 l13 (A0 l4 (A0 l5 l6)))
section
variable {h:Heap} {A:Option Addr} {n cap:Nat} {r c:Int} {ls:Nat->List UInt8}
theorem A5c{m:Nat}(sm:Small r c n ls 5 12)(hm:m=48):(∀ i,i<n->(ls i).length<=100000000)/\(∀ i,i<n->Sz m (rv (ls i)))/\n<=1000000/\∀ rows cols,MOk r c n ls rows cols->rows<=5/\cols<=5:=by
 subst hm
 refine ⟨fun i hi=>by have:=sm.hl i hi;omega,fun i hi=>B2v (k:=12) (by have:=sm.hl i hi;omega) (by omega),by have:=sm.hn;omega,fun rows cols mk=>⟨by have:=mk.er;have:=sm.hr;omega,by have:=mk.ec;have:=sm.hc;omega⟩⟩
theorem B5d{q:Nat}(h:q<=5):3^q*bnd q 48+bnd q 48<=71000:=by
 have h1:bnd q 48<=289:=by unfold bnd;omega
 have h2:3^q*bnd q 48<=3^5*289:=Nat.mul_le_mul (Nat.pow_le_pow_right (show 3>0 by decide) h) h1
 have h3:3^5*289=70227:=by decide
 omega
theorem B5c{q k:Nat}(h:q<=5)(hk:k<q):2^k*Zi q k 71000<=20000000:=by
 have h1:Zi q k 71000<=1000000:=by
  unfold Zi
  exact Nat.le_trans (Nat.add_le_add_right (Nat.add_le_add_right (Nat.mul_le_mul_right _ (show q-k<=5 by omega)) _) _) (by decide)
 have h2:2^k<=16:=Nat.le_trans (Nat.pow_le_pow_right (show 2>0 by decide) (show k<=4 by omega)) (by decide)
 have h3:2^k*Zi q k 71000<=16*1000000:=Nat.mul_le_mul h2 h1
 omega
theorem law_ldlWitnessRaw(gl:Gl h)(s:RowV SSr h A n ls):FCall Tryz.prog Ei #[A9r r c A n cap] h (B8f h):=by
 refine Ly _ _ _ _ _ ?_
 unfold Hi
 have aw:∀ h',h.le h'->FCall Tryz.prog Gu #[] h' (fun r hp=>∃ t,r= .bool t/\B8f h (.bool t) hp):=fun h' l=>A13 (gl.mono l) fun h'' l''=>⟨_,rfl,rfl,A0 l l''⟩
 refine A0i s (by omega) (fun sm=>⟨_,rfl,Br.no ?_⟩) (fun _=>⟨_,rfl,Er (aw h (B3 _))⟩)
 obtain ⟨hl,hs,hn6,hrc⟩:=A5c sm rfl
 have hb:∀ q,MOk r c n ls q q->3^q*bnd q 48+bnd q 48<=71000:=fun q mk=>B5d (hrc q q mk).1
 have hW:∀ q k,MOk r c n ls q q->k<q->2^k*Zi q k 71000<=20000000:=fun q k mk hk=>B5c (hrc q q mk).1 hk
 have notboth:∀ {q e},A8s r c n ls q->SqE r c n ls e->False:=fun {q e} sq x=>by
  rcases x with ⟨x,_⟩|⟨_,x,_⟩
  ·exact x ⟨_,_,sq.1⟩
  ·exact x ⟨q,sq⟩
 refine Xm s hn6 hl ?_ ?_
 ·intro q sq bo cp h1 l1 _ rs
  refine ⟨_,_,_,_,rfl,?_⟩
  refine Jp (Q:=71000) (W:=20000000) (gl.mono l1) (s.mono Ky l1) hn6 hl hs hb hW (by omega) ?_ ?_ (fun e he _ _=>(notboth sq he).elim)
  ·intro q' sq' hno v b2 h2 l2 rv2 sz neg
   exact ⟨_,_,_,_,_,rfl,Er (Er (aw h2 (A0 l1 l2)))⟩
  ·intro q' sq' ok h2 l2
   exact ⟨_,_,_,_,_,rfl,Er (Er (aw h2 (A0 l1 l2)))⟩
 ·intro e he h1 l1
  refine ⟨_,_,_,_,rfl,?_⟩
  refine Jp (Q:=71000) (W:=20000000) (gl.mono l1) (s.mono Ky l1) hn6 hl hs hb hW (by omega) (fun q sq _ _ _ _ _ _ _=>(notboth sq he).elim) (fun q sq _ _ _=>(notboth sq he).elim) ?_
  intro e' he' h2 l2
  have ee:e=e':=by
   rcases he with ⟨x,rfl⟩|⟨x,y,rfl⟩<;>rcases he' with ⟨x',rfl⟩|⟨x',y',rfl⟩
   ·rfl
   ·exact absurd x' x
   ·exact absurd x x'
   ·rfl
  subst ee
  refine ⟨_,_,_,_,_,rfl,?_⟩
  refine E7 (fun _=>E7 (fun _=>aw h2 (A0 l1 l2)) (fun _=>Er (Er (aw h2 (A0 l1 l2))))) (fun x=>absurd rfl x)
end
end Go.Proofs.YtajkakhfcokljaaGreatDoor
namespace Go.Proofs.YtajkakhfcokljaaGreatDoor
set_option maxRecDepth 20000
open Go Go.RowKit
theorem B5z(s:ByteArray):bs s.data.toList=s:=by
 cases s;simp [bs]
theorem A5r{H:Type}{enc:TypeId × Value->H}{P:Program}{W:World}{base:Nat}{sp:Nat->Bool}{held:Bool}{t e:TypeId}{fuel:Nat}{A:Option Addr}{len cap:Nat}{x:DataW H × List MemPlace}(ht:P.underlying t=some (.slice e))(he:P.underlying e=some .string)(hc:P.cellsOf e=1)
 (hf:DataW.trod enc P W base sp held fuel t [.slice A len cap]=some x):∃ ls:Nat->List UInt8,RowV SSr (memOf W) A len ls/\len<=maxLen:=by
 rcases Deep.open_strs ht he hc hf with ⟨hcs,_⟩|⟨a,l,c,m,Sx,hcs,_,hl,hm,hmm,_,hcell⟩
 ·simp at hcs
  obtain ⟨rfl,rfl,rfl⟩:=hcs
  exact ⟨fun _=>[],RowV.nil,Nat.zero_le _⟩
 ·simp at hcs
  obtain ⟨rfl,rfl,rfl⟩:=hcs
  have hlm:len<=m:=by rw [hmm];split<;>omega
  have sl:SlV (memOf W) (some a) (((List.range len).map fun i=>(Sx i).data.toList).map fun l=>Value.string (bs l)):=by
   refine .inr ⟨a,rfl,fun i v hv=>?_⟩
   rw [List.getElem?_map,List.getElem?_map] at hv
   by_cases hi:i<len
   ·rw [List.getElem?_range hi] at hv
    simp only [Option.map_some,Option.some.injEq,B5z] at hv
    rw [<- hv]
    exact Kz (hcell i (by omega)).1
   ·rw [List.getElem?_eq_none (by simpa using hi)] at hv;cases hv
  have:=Fh sl
  rw [List.length_map,List.length_range] at this
  exact ⟨_,this,by omega⟩
theorem open_mat{H:Type}{enc:TypeId × Value->H}{P:Program}{W:World}{base:Nat}{sp:Nat->Bool}{held:Bool}{r:Reach}{b0:Nat}{t e:TypeId}{f0 f1 f2:Field}{v:Value}{d:DataW H}{ps:List MemPlace}(ht:P.underlying t=some (.struct #[f0,f1,f2]))(u0:P.underlying f0.type=some (.int .i64))(u1:P.underlying f1.type=some (.int .i64))(u2:P.underlying f2.type=some (.slice e))(ue:P.underlying e=some .string)
 (hoff:f0.offset=0/\f1.offset=1/\f2.offset=2/\P.cellsOf f0.type=1/\P.cellsOf f1.type=1/\P.cellsOf f2.type=1/\P.cellsOf t=3/\P.cellsOf e=1)
 (hval:Value.okWide P W r b0 t v) (hd:DataW.Trod enc P W base sp held t v d ps):∃ (x y:Int) (A:Option Addr) (len cap:Nat) (ls:Nat->List UInt8),v= .agg #[.int .i64 x,.int .i64 y,.slice A len cap]/\RowV SSr (memOf W) A len ls/\len<=maxLen:=by
 obtain ⟨o0,o1,o2,c0,c1,c2,ct,ce⟩:=hoff
 obtain ⟨cs,rfl,hcs⟩:=WideShapes.okWide_struct ht hval
 obtain ⟨fuel,hf⟩:=hd
 obtain ⟨y0,y1,y2,n,hx,hl,g0,g1,g2⟩:=Deep.trod_struct3 ht hf
 rw [o0,c0] at g0
 rw [o1,c1] at g1
 rw [o2,c2] at g2
 obtain ⟨s0,e0,_,_⟩:=DataW.trod_int u0 g0
 obtain ⟨s1,e1,_,_⟩:=DataW.trod_int u1 g1
 rw [ct] at hcs
 have hlen:cs.toList.length=3:=by simpa using hcs
 obtain ⟨p,q,z,hm⟩:∃ p q z,cs.toList=[p,q,z]:=by
  match h:cs.toList,hlen with
  | [p,q,z],_=>exact ⟨p,q,z,rfl⟩
 simp only [Value.cells] at e0 e1 g2
 rw [hm] at e0 e1 g2
 simp at e0 e1 g2
 have hA:∃ A len cap,z= .slice A len cap:=by
  rcases Deep.open_strs u2 ue ce g2 with ⟨hcs,_⟩|⟨a,l,c,m,Sx,hcs,_⟩
  ·simp at hcs;exact ⟨_,_,_,hcs⟩
  ·simp at hcs;exact ⟨_,_,_,hcs⟩
 obtain ⟨A,len,cap,rfl⟩:=hA
 obtain ⟨ls,hr,hml⟩:=A5r u2 ue ce g2
 have:cs=#[.int .i64 s0,.int .i64 s1,.slice A len cap]:=by rw [<- Array.toArray_toList (xs:=cs),hm,e0,e1]
 exact ⟨s0,s1,A,len,cap,ls,by rw [this],hr,hml⟩
end Go.Proofs.YtajkakhfcokljaaGreatDoor
