/-
  Texts of this proof, merged by a program of ours.
-/
import Derived.Test.YthilnfgnpdeofaaGreatDoorProg
import Derived.Test.YthilnfgnpdeofaaGreatDoorG05
namespace Go.Proofs.YthilnfgnpdeofaaGreatDoor
open Go
set_option maxRecDepth 100000
set_option linter.unusedVariables false
variable {h:Heap} {K:Value->Heap->Prop}
abbrev F9:Nat:=188
abbrev T0:Nat:=158
abbrev H2:Nat:=189
abbrev Q7:Nat:=216
abbrev R3:Nat:=214
abbrev O2:Nat:=199
abbrev I0:Nat:=200
abbrev Q5:Nat:=243
abbrev Y5:Nat:=248
abbrev Y6:Nat:=210
abbrev R2:Nat:=251
abbrev C9:Nat:=191
abbrev Ah:Nat:=215
abbrev Cy:Nat:=249
abbrev V1:Nat:=171
abbrev N0:Nat:=204
abbrev H1:Nat:=228
abbrev Hr:Nat:=250
abbrev Ai:Nat:=244
abbrev Q6:Nat:=245
abbrev Hq:Nat:=247
abbrev Aj:Nat:=227
abbrev R5:Nat:=246
abbrev R4:Nat:=253
abbrev Kz:Nat:=208
abbrev Cx:Nat:=177
abbrev Hp:Nat:=206
abbrev K5:Nat:=229
abbrev U5:Nat:=142
abbrev Ly:Nat:=100
abbrev Gh:Nat:=163
abbrev Cw:Nat:=196
abbrev J9:Nat:=220
abbrev K4:Nat:=237
abbrev T8:Nat:=192
abbrev F3:Nat:=218
abbrev R6:Nat:=235
abbrev Y7:Nat:=187
abbrev O9:Nat:=190
abbrev Uh:Nat:=153
abbrev Et:Nat:=156
abbrev Pg:Nat:=155
abbrev Ug:Nat:=137
abbrev G0:Nat:=135
abbrev Y4:Nat:=138
abbrev Ui:Nat:=175
abbrev Jn:Nat:=77
abbrev B6r:Nat:=166
abbrev Lx:Nat:=152
abbrev Ph:Nat:=178
abbrev Jm:Nat:=136
abbrev B2x:Nat:=125
abbrev Pi:Nat:=134
abbrev A5d:Nat:=176
abbrev B3u:Nat:=271
abbrev B6t:Nat:=273
abbrev R7:Nat:=150
abbrev Da:Nat:=160
abbrev Nr:Nat:=151
abbrev Uj:Nat:=207
abbrev Dg:Nat:=203
abbrev Df:Nat:=198
abbrev I8:Nat:=226
abbrev K0:Nat:=231
abbrev Nv:Nat:=239
abbrev P9:Nat:=211
abbrev Z1:Nat:=230
abbrev A1k:Nat:=165
abbrev Cz:Nat:=205
abbrev Pj:Nat:=254
abbrev Up:Nat:=212
abbrev Gk:Nat:=233
abbrev Hu:Nat:=213
abbrev Y9:Nat:=234
abbrev T4:Nat:=92
abbrev C1:Nat:=157
theorem N6:SliceT Tryz.prog T4 C1 (U 0) 1 8:=⟨by kernel_rfl,by kernel_rfl,rfl,by decide⟩
theorem D8:Tryz.prog.cellsOf C1=1/\(Tryz.prog.info? C1).isSome=true:=⟨by kernel_rfl,by kernel_rfl⟩
abbrev A3x:Nat:=163
abbrev Co:Nat:=92
theorem A11:SliceT Tryz.prog A3x Co (.slice none 0 0) 1 24:=⟨by kernel_rfl,by kernel_rfl,rfl,by decide⟩
def B4n(P:Program)(d:OA)(f c:Nat)(h:Heap)(K:Value->Heap->Prop):Prop:=
 ∃ (e:List Value->Heap->Prop) (g:List Value->Heap->Nat),e [I (f:Int)] h/\
 ∀ (a:Int),∀ b,e [I a] b->Br (decide (a>(0:Int))) (∃ j,d=some j/\0<=B4 (a-1)/\B4 (a-1)<(f:Int)/\∃ (i:Int),b.cell? (j.add ((B4 (a-1)).toNat*1))=some (U i)/\Br (i==(0:Int)) (e [I (B4 (a-1))] b/\g [I (B4 (a-1))] b<g [I a] b)
 ((0<=a/\a<=(c:Int))/\K (.slice (J4 d c 0 1) ((a.toNat)-0) (c-0)) b))
 ((0<=a/\a<=(c:Int))/\K (.slice (J4 d c 0 1) ((a.toNat)-0) (c-0)) b)
theorem A9a(a:OA)(b d:Nat)(hvc:B4n Tryz.prog a b d h K):FCall Tryz.prog F9 #[.slice a b d] h K:=
 B8 Tryz.func188 (c:=C2 Tryz.f188) (by kernel_rfl) (rs:=[.tmp 2]) (by kernel_rfl) (fa:=⟨[(2,⟨[3],[],[.int .i64 0],⟨([3]++Lrg 6 12),[]⟩⟩)],[],[],[],[]⟩)
  (cfg:=⟨21,[],none,[],[],false⟩) (args:=[.slice a b d]) (by kernel_rfl) Bodies.nil (Eq.mp (by kernel_rfl) hvc)
def Xv(P:Program)(a:Int)(h:Heap)(K:Value->Heap->Prop):Prop:=
 Br (a==(0:Int)) (K (.slice none 0 0) h)
 (wpH P (Instr.buildSlice 92 1 #[(0,U a)]) (fun e f=>∃ (b:OA) (c d:Nat),e= .slice b c d/\K (.slice b c d) f) h)
theorem Xu(a:Int)(hvc:Xv Tryz.prog a h K):FCall Tryz.prog T0 #[U a] h K:=
 B8 Tryz.func158 (c:=C2 Tryz.f158) (by kernel_rfl) (rs:=[.tmp 2]) (by kernel_rfl) (fa:=⟨[],[],[],[],[]⟩)
  (cfg:=⟨7,[],none,[],[],false⟩) (args:=[U a]) (by kernel_rfl) Bodies.nil (Eq.mp (by kernel_rfl) hvc)
def Kf(P:Program)(f:OA)(c x:Nat)(g:OA)(d y:Nat)(h:Heap)(K:Value->Heap->Prop):Prop:=
 Br ((c:Int) != (d:Int)) (FCall P Up #[I (c:Int),I (d:Int)] h (fun u v=>∃ (i:Int),u=I i/\K (I i) v))
 (∃ (e:List Value->Heap->Prop) (j:List Value->Heap->Nat),e [I (B4 ((c:Int)-1))] h/\
 ∀ (a:Int),∀ b,e [I a] b->Br (decide (a>=(0:Int))) (∃ q,f=some q/\0<=a/\a<(c:Int)/\∃ (k:Int),b.cell? (q.add (a.toNat*1))=some (U k)/\∃ r,g=some r/\0<=a/\a<(d:Int)/\∃ (l:Int),b.cell? (r.add (a.toNat*1))=some (U l)/\Br (k != l) (∃ s,f=some s/\0<=a/\a<(c:Int)/\∃ (m:Int),b.cell? (s.add (a.toNat*1))=some (U m)/\∃ t,g=some t/\0<=a/\a<(d:Int)/\∃ (n:Int),b.cell? (t.add (a.toNat*1))=some (U n)/\FCall P Hu #[U m,U n] b (fun w p=>∃ (o:Int),w=I o/\Heap.le b p/\K (I o) p))
 (e [I (B4 (a-1))] b/\j [I (B4 (a-1))] b<j [I a] b))
 (K (I 0) b))
theorem Nh(a:OA)(b d:Nat)(e:OA)(f g:Nat)(hvc:Kf Tryz.prog a b d e f g h K):FCall Tryz.prog H2 #[.slice a b d,.slice e f g] h K:=
 B8 Tryz.func189 (c:=C2 Tryz.f189) (by kernel_rfl) (rs:=[.tmp 4]) (by kernel_rfl) (fa:=⟨[(4,⟨[5],[],[.int .i64 0],⟨([4,5]++Lrg 19 22),[]⟩⟩)],[],[(6,((Lrg 0 9),[[],[],[0,1],[0,1,2],[],[],[4,5],[4,5,6],(Lrg 0 8)])),(7,((Lrg 0 10),[[],[],[0,1],[0,1,2],[],[],[4,5],[4,5,6],(Lrg 0 8),(Lrg 0 9)]))],[],[]⟩)
  (cfg:=⟨41,[],none,[212,213],[],false⟩) (args:=[.slice a b d,.slice e f g]) (by kernel_rfl) (B0 Tryz.call212 (B0 Tryz.call213 Bodies.nil)) (Eq.mp (by kernel_rfl) hvc)
def A1u(P:Program)(f:OA)(e H:Nat)(C:OA)(j J:Nat)(h:Heap)(K:Value->Heap->Prop):Prop:=
 ∃ (k:List Value->Heap->Prop) (o:List Value->Heap->Nat),k [U 0,I 0] h/\
 ∀ (g:Int) (a:Int),∀ c,k [U g,I a] c->Br (decide (a<(j:Int))) (∃ x,C=some x/\0<=a/\a<(j:Int)/\∃ (p:Int),c.cell? (x.add (a.toNat*1))=some (U p)/\∃ y,f=some y/\0<=a/\a<(e:Int)/\∃ (q:Int),c.cell? (y.add (a.toNat*1))=some (U q)/\ECall P P9 #[U q,U p,U g] c (fun D E=>∃ (r:Int) (l:Int),D= .tuple #[U r,U l]/\∃ z,f=some z/\0<=a/\a<(e:Int)/\wpH P (Instr.storeAt 157 (.pointer (some (z.add (a.toNat*1)))) (U r)) (fun _ v=>k [U l,I (B4 (a+1))] v/\o [U l,I (B4 (a+1))] v<o [U g,I a] c) E))
 (∃ (m:List Value->Heap->Prop) (s:List Value->Heap->Nat),m [U g,I (j:Int)] c/\
 ∀ (i:Int) (b:Int),∀ d,m [U i,I b] d->Br (i != (0:Int)) (Br (decide (b<(e:Int))) (∃ A,f=some A/\0<=b/\b<(e:Int)/\∃ (t:Int),d.cell? (A.add (b.toNat*1))=some (U t)/\ECall P P9 #[U t,U 0,U i] d (fun F G=>∃ (u:Int) (n:Int),F= .tuple #[U u,U n]/\∃ B,f=some B/\0<=b/\b<(e:Int)/\wpH P (Instr.storeAt 157 (.pointer (some (B.add (b.toNat*1)))) (U u)) (fun _ w=>m [U n,I (B4 (b+1))] w/\s [U n,I (B4 (b+1))] w<s [U i,I b] d) G))
 (K (.tuple #[]) d))
 (K (.tuple #[]) d))
theorem A0k(a:OA)(b d:Nat)(e:OA)(f g:Nat)(hvc:A1u Tryz.prog a b d e f g h K):FCall Tryz.prog Q7 #[.slice a b d,.slice e f g] h K:=
 B8 Tryz.func216 (c:=C2 Tryz.f216) (by kernel_rfl) (rs:=[]) (by kernel_rfl) (fa:=⟨[(2,⟨[4,10],[],[.int .u64 0,.int .i64 0],⟨([4,5,6]++Lrg 10 19),[]⟩⟩),(7,⟨[4,7],[],[.int .u64 0,.int .i64 0],⟨([4,7]++Lrg 31 22),[]⟩⟩)],[],[],[],[]⟩)
  (cfg:=⟨53,[],none,[],[],false⟩) (args:=[.slice a b d,.slice e f g]) (by kernel_rfl) Bodies.nil (Eq.mp (by kernel_rfl) hvc)
def Jy(P:Program)(f:OA)(e H:Nat)(C:OA)(j J:Nat)(h:Heap)(K:Value->Heap->Prop):Prop:=
 ∃ (k:List Value->Heap->Prop) (o:List Value->Heap->Nat),k [U 0,I 0] h/\
 ∀ (g:Int) (a:Int),∀ c,k [U g,I a] c->Br (decide (a<(j:Int))) (∃ x,C=some x/\0<=a/\a<(j:Int)/\∃ (p:Int),c.cell? (x.add (a.toNat*1))=some (U p)/\∃ y,f=some y/\0<=a/\a<(e:Int)/\∃ (q:Int),c.cell? (y.add (a.toNat*1))=some (U q)/\ECall P Z1 #[U q,U p,U g] c (fun D E=>∃ (r:Int) (l:Int),D= .tuple #[U r,U l]/\∃ z,f=some z/\0<=a/\a<(e:Int)/\wpH P (Instr.storeAt 157 (.pointer (some (z.add (a.toNat*1)))) (U r)) (fun _ v=>k [U l,I (B4 (a+1))] v/\o [U l,I (B4 (a+1))] v<o [U g,I a] c) E))
 (∃ (m:List Value->Heap->Prop) (s:List Value->Heap->Nat),m [U g,I (j:Int)] c/\
 ∀ (i:Int) (b:Int),∀ d,m [U i,I b] d->Br (i != (0:Int)) (Br (decide (b<(e:Int))) (∃ A,f=some A/\0<=b/\b<(e:Int)/\∃ (t:Int),d.cell? (A.add (b.toNat*1))=some (U t)/\ECall P Z1 #[U t,U 0,U i] d (fun F G=>∃ (u:Int) (n:Int),F= .tuple #[U u,U n]/\∃ B,f=some B/\0<=b/\b<(e:Int)/\wpH P (Instr.storeAt 157 (.pointer (some (B.add (b.toNat*1)))) (U u)) (fun _ w=>m [U n,I (B4 (b+1))] w/\s [U n,I (B4 (b+1))] w<s [U i,I b] d) G))
 (K (.tuple #[]) d))
 (K (.tuple #[]) d))
theorem Na(a:OA)(b d:Nat)(e:OA)(f g:Nat)(hvc:Jy Tryz.prog a b d e f g h K):FCall Tryz.prog R3 #[.slice a b d,.slice e f g] h K:=
 B8 Tryz.func214 (c:=C2 Tryz.f214) (by kernel_rfl) (rs:=[]) (by kernel_rfl) (fa:=⟨[(2,⟨[4,10],[],[.int .u64 0,.int .i64 0],⟨([4,5,6]++Lrg 10 19),[]⟩⟩),(7,⟨[4,7],[],[.int .u64 0,.int .i64 0],⟨([4,7]++Lrg 31 22),[]⟩⟩)],[],[],[],[]⟩)
  (cfg:=⟨53,[],none,[],[],false⟩) (args:=[.slice a b d,.slice e f g]) (by kernel_rfl) Bodies.nil (Eq.mp (by kernel_rfl) hvc)
def Xz(P:Program)(m:OA)(e n:Nat)(o:OA)(f p:Nat)(h:Heap)(K:Value->Heap->Prop):Prop:=
 ∃ (g:List Value->Heap->Prop),(Br (decide ((e:Int)<(f:Int))) (g [.slice o f p,.slice m e n] h)
 (g [.slice m e n,.slice o f p] h))/\
 ∀ (i:OA) (a j:Nat) (q:OA) (k r:Nat),∀ l,g [.slice i a j,.slice q k r] l->Br ((k:Int)==(0:Int)) (K (.slice i a j) l)
 (wpH P (Instr.makeSlice 92 (I (B4 ((a:Int)+1))) (I (B4 ((a:Int)+1)))) (fun w x=>∃ (b:OA) (c d:Nat),w= .slice b c d/\wpH P (Builtin.copy_ #[92,92] 3 #[.slice b c d,.slice i a j]) (fun y z=>∃ (v:Int),y=I v/\FCall P Q7 #[.slice b c d,.slice q k r] z (fun A B=>A= .tuple #[]/\FCall P F9 #[.slice b c d] B (fun C D=>∃ (s:OA) (t u:Nat),C= .slice s t u/\K (.slice s t u) D))) x) l)
theorem Xy(a:OA)(b d:Nat)(e:OA)(f g:Nat)(hvc:Xz Tryz.prog a b d e f g h K):FCall Tryz.prog O2 #[.slice a b d,.slice e f g] h K:=
 B8 Tryz.func199 (c:=C2 Tryz.f199) (by kernel_rfl) (rs:=[.tmp 4]) (by kernel_rfl) (fa:=⟨[],[(3,⟨[0,1],[],[.slice none 0 0,.slice none 0 0],⟨[0,1,6,7,8,9,10,11,12],[]⟩⟩)],[],[],[]⟩)
  (cfg:=⟨29,[],none,[188,216],[216],false⟩) (args:=[.slice a b d,.slice e f g]) (by kernel_rfl) (B0 Tryz.call188 (B0 Tryz.call216 Bodies.nil)) (Eq.mp (by kernel_rfl) hvc)
def Gw(P:Program)(d:OA)(e f:Nat)(l:OA)(g m:Nat)(h:Heap)(K:Value->Heap->Prop):Prop:=
 Br ((g:Int)==(0:Int)) (K (.slice d e f) h)
 (FCall P Cz #[.slice d e f] h (fun n o=>∃ (a:OA) (b c:Nat),n= .slice a b c/\FCall P R3 #[.slice a b c,.slice l g m] o (fun p q=>p= .tuple #[]/\FCall P F9 #[.slice a b c] q (fun r s=>∃ (i:OA) (j k:Nat),r= .slice i j k/\K (.slice i j k) s))))
theorem Lk(a:OA)(b d:Nat)(e:OA)(f g:Nat)(hvc:Gw Tryz.prog a b d e f g h K):FCall Tryz.prog I0 #[.slice a b d,.slice e f g] h K:=
 B8 Tryz.func200 (c:=C2 Tryz.f200) (by kernel_rfl) (rs:=[.tmp 4]) (by kernel_rfl) (fa:=⟨[],[],[],[],[]⟩)
  (cfg:=⟨17,[],none,[188,205,214],[214],false⟩) (args:=[.slice a b d,.slice e f g]) (by kernel_rfl) (B0 Tryz.call188 (B0 Tryz.call205 (B0 Tryz.call214 Bodies.nil))) (Eq.mp (by kernel_rfl) hvc)
def So(P:Program)(g:OA)(c k:Nat)(b:Int)(h:Heap)(K:Value->Heap->Prop):Prop:=
 Br ((c:Int)==(0:Int)) (K (.slice g c k) h)
 (Br (b==(0:Int)) (K (.slice g c k) h)
 (wpH P (Instr.makeSlice 92 (I (B4 ((B4 ((c:Int)+(B4 (C4 (Int.tdiv b (64:Int))))))+1))) (I (B4 ((B4 ((c:Int)+(B4 (C4 (Int.tdiv b (64:Int))))))+1)))) (fun w x=>∃ (e:OA) (f l:Nat),w= .slice e f l/\∃ (i:List Value->Heap->Prop) (m:List Value->Heap->Nat),i [I 0] x/\
 ∀ (a:Int),∀ d,i [I a] d->Br (decide (a<(c:Int))) (∃ s,g=some s/\0<=a/\a<(c:Int)/\∃ (j:Int),d.cell? (s.add (a.toNat*1))=some (U j)/\∃ t,e=some t/\0<=B4 (a+(B4 (C4 (Int.tdiv b (64:Int)))))/\B4 (a+(B4 (C4 (Int.tdiv b (64:Int)))))<(f:Int)/\∃ (n:Int),d.cell? (t.add ((B4 (a+(B4 (C4 (Int.tdiv b (64:Int)))))).toNat*1))=some (U n)/\Br (decide (Int.tmod b (64:Int)<0)) False
 (∃ u,e=some u/\0<=B4 (a+(B4 (C4 (Int.tdiv b (64:Int)))))/\B4 (a+(B4 (C4 (Int.tdiv b (64:Int)))))<(f:Int)/\wpH P (Instr.storeAt 157 (.pointer (some (u.add ((B4 (a+(B4 (C4 (Int.tdiv b (64:Int)))))).toNat*1)))) (U (bor .u64 n (C4 (j*2^(min (Int.tmod b (64:Int)).toNat 64)))))) (fun _ y=>Br (decide (C4 ((64:Int)-(Int.tmod b (64:Int)))<0)) False
 (∃ v,e=some v/\0<=B4 ((B4 (a+(B4 (C4 (Int.tdiv b (64:Int))))))+1)/\B4 ((B4 (a+(B4 (C4 (Int.tdiv b (64:Int))))))+1)<(f:Int)/\wpH P (Instr.storeAt 157 (.pointer (some (v.add ((B4 ((B4 (a+(B4 (C4 (Int.tdiv b (64:Int))))))+1)).toNat*1)))) (U (Int.fdiv j (2^(min (C4 ((64:Int)-(Int.tmod b (64:Int)))).toNat 64))))) (fun _ r=>i [I (B4 (a+1))] r/\m [I (B4 (a+1))] r<m [I a] d) y)) d))
 (FCall P F9 #[.slice e f l] d (fun z A=>∃ (o:OA) (p q:Nat),z= .slice o p q/\K (.slice o p q) A))) h))
theorem Vc(a:OA)(b d:Nat)(e:Int)(hvc:So Tryz.prog a b d e h K):FCall Tryz.prog Q5 #[.slice a b d,U e] h K:=
 B8 Tryz.func243 (c:=C2 Tryz.f243) (by kernel_rfl) (rs:=[.tmp 4]) (by kernel_rfl) (fa:=⟨[(6,⟨[31],[],[.int .i64 0],⟨([8,9]++Lrg 31 27),[]⟩⟩)],[],[],[],[]⟩)
  (cfg:=⟨60,[],none,[188],[],false⟩) (args:=[.slice a b d,U e]) (by kernel_rfl) (B0 Tryz.call188 Bodies.nil) (Eq.mp (by kernel_rfl) hvc)
def Qb(P:Program)(k:OA)(c C:Nat)(b:Int)(h:Heap)(K:Value->Heap->Prop):Prop:=
 Br (decide ((C4 (Int.tdiv b (64:Int)))>=(C4 (c:Int)))) (K (.slice none 0 0) h)
 (wpH P (Instr.makeSlice 92 (I (B4 ((c:Int)-(B4 (C4 (Int.tdiv b (64:Int))))))) (I (B4 ((c:Int)-(B4 (C4 (Int.tdiv b (64:Int)))))))) (fun y z=>∃ (f:OA) (d l:Nat),y= .slice f d l/\∃ (i:List Value->Heap->Prop) (j:List Value->Heap->Nat),i [I 0] z/\
 ∀ (a:Int),∀ e,i [I a] e->Br (decide (a<(d:Int))) (∃ t,k=some t/\0<=B4 (a+(B4 (C4 (Int.tdiv b (64:Int)))))/\B4 (a+(B4 (C4 (Int.tdiv b (64:Int)))))<(c:Int)/\∃ (m:Int),e.cell? (t.add ((B4 (a+(B4 (C4 (Int.tdiv b (64:Int)))))).toNat*1))=some (U m)/\Br (decide (Int.tmod b (64:Int)<0)) False
 (∃ u,f=some u/\0<=a/\a<(d:Int)/\wpH P (Instr.storeAt 157 (.pointer (some (u.add (a.toNat*1)))) (U (Int.fdiv m (2^(min (Int.tmod b (64:Int)).toNat 64))))) (fun _ g=>Br (decide ((B4 ((B4 (a+(B4 (C4 (Int.tdiv b (64:Int))))))+1))<(c:Int))) (∃ v,f=some v/\0<=a/\a<(d:Int)/\∃ (n:Int),g.cell? (v.add (a.toNat*1))=some (U n)/\∃ w,k=some w/\0<=B4 ((B4 (a+(B4 (C4 (Int.tdiv b (64:Int))))))+1)/\B4 ((B4 (a+(B4 (C4 (Int.tdiv b (64:Int))))))+1)<(c:Int)/\∃ (o:Int),g.cell? (w.add ((B4 ((B4 (a+(B4 (C4 (Int.tdiv b (64:Int))))))+1)).toNat*1))=some (U o)/\Br (decide (C4 ((64:Int)-(Int.tmod b (64:Int)))<0)) False
 (∃ x,f=some x/\0<=a/\a<(d:Int)/\wpH P (Instr.storeAt 157 (.pointer (some (x.add (a.toNat*1)))) (U (bor .u64 n (C4 (o*2^(min (C4 ((64:Int)-(Int.tmod b (64:Int)))).toNat 64)))))) (fun _ s=>i [I (B4 (a+1))] s/\j [I (B4 (a+1))] s<j [I a] e) g))
 (i [I (B4 (a+1))] g/\j [I (B4 (a+1))] g<j [I a] e)) e))
 (FCall P F9 #[.slice f d l] e (fun A B=>∃ (p:OA) (q r:Nat),A= .slice p q r/\K (.slice p q r) B))) h)
theorem Rf(a:OA)(b d:Nat)(e:Int)(hvc:Qb Tryz.prog a b d e h K):FCall Tryz.prog Y5 #[.slice a b d,U e] h K:=
 B8 Tryz.func248 (c:=C2 Tryz.f248) (by kernel_rfl) (rs:=[.tmp 4]) (by kernel_rfl) (fa:=⟨[(6,⟨[27],[],[.int .i64 0],⟨([8]++Lrg 27 38),[]⟩⟩)],[],[(10,((Lrg 0 17),[[],[],[0,1],[0,1,2],[],[],[],[5,6],[5,6,7],[4,5,6,7,8],[4,5,6,7,8,9],[],[11],(Lrg 4 9),(Lrg 0 14),(Lrg 0 15),(Lrg 0 16)]))],[],[]⟩)
  (cfg:=⟨67,[],none,[188],[],false⟩) (args:=[.slice a b d,U e]) (by kernel_rfl) (B0 Tryz.call188 Bodies.nil) (Eq.mp (by kernel_rfl) hvc)
def Qj(P:Program)(i:OA)(j D:Nat)(w:OA)(k E:Nat)(x:Int)(h:Heap)(K:Value->Heap->Prop):Prop:=
 ∃ (d:List Value->Heap->Prop) (l:List Value->Heap->Nat),d [U 0,I 0] h/\
 ∀ (c:Int) (a:Int),∀ b,d [U c,I a] b->Br (decide (a<(k:Int))) (∃ t,w=some t/\0<=a/\a<(k:Int)/\∃ (m:Int),b.cell? (t.add (a.toNat*1))=some (U m)/\FCall P Df #[U m,U x] b (fun y z=>∃ (e:Int) (n:Int),y= .tuple #[U e,U n]/\ECall P P9 #[U n,U c,U 0] z (fun A r=>∃ (o:Int) (f:Int),A= .tuple #[U o,U f]/\∃ u,i=some u/\0<=a/\a<(j:Int)/\∃ (p:Int),r.cell? (u.add (a.toNat*1))=some (U p)/\ECall P P9 #[U p,U o,U 0] r (fun B C=>∃ (q:Int) (g:Int),B= .tuple #[U q,U g]/\∃ v,i=some v/\0<=a/\a<(j:Int)/\wpH P (Instr.storeAt 157 (.pointer (some (v.add (a.toNat*1)))) (U q)) (fun _ s=>d [U (C4 ((C4 (e+f))+g)),I (B4 (a+1))] s/\l [U (C4 ((C4 (e+f))+g)),I (B4 (a+1))] s<l [U c,I a] b) C))))
 (K (U c) b)
theorem Rj(a:OA)(b d:Nat)(e:OA)(f g:Nat)(i:Int)(hvc:Qj Tryz.prog a b d e f g i h K):FCall Tryz.prog Y6 #[.slice a b d,.slice e f g,U i] h K:=
 B8 Tryz.func210 (c:=C2 Tryz.f210) (by kernel_rfl) (rs:=[.tmp 6]) (by kernel_rfl) (fa:=⟨[(3,⟨[7,16],[],[.int .u64 0,.int .i64 0],⟨([7,8,9,10,11,12,13]++Lrg 16 36),[]⟩⟩)],[],[],[],[]⟩)
  (cfg:=⟨53,[],none,[198],[],false⟩) (args:=[.slice a b d,.slice e f g,U i]) (by kernel_rfl) (B0 Tryz.call198 Bodies.nil) (Eq.mp (by kernel_rfl) hvc)
def Dt(P:Program)(i:OA)(j D:Nat)(w:OA)(k E:Nat)(x:Int)(h:Heap)(K:Value->Heap->Prop):Prop:=
 ∃ (d:List Value->Heap->Prop) (l:List Value->Heap->Nat),d [U 0,I 0] h/\
 ∀ (c:Int) (a:Int),∀ b,d [U c,I a] b->Br (decide (a<(k:Int))) (∃ t,w=some t/\0<=a/\a<(k:Int)/\∃ (m:Int),b.cell? (t.add (a.toNat*1))=some (U m)/\FCall P Df #[U m,U x] b (fun y z=>∃ (e:Int) (n:Int),y= .tuple #[U e,U n]/\ECall P P9 #[U n,U c,U 0] z (fun A r=>∃ (o:Int) (f:Int),A= .tuple #[U o,U f]/\∃ u,i=some u/\0<=a/\a<(j:Int)/\∃ (p:Int),r.cell? (u.add (a.toNat*1))=some (U p)/\ECall P Z1 #[U p,U o,U 0] r (fun B C=>∃ (q:Int) (g:Int),B= .tuple #[U q,U g]/\∃ v,i=some v/\0<=a/\a<(j:Int)/\wpH P (Instr.storeAt 157 (.pointer (some (v.add (a.toNat*1)))) (U q)) (fun _ s=>d [U (C4 ((C4 (e+f))+g)),I (B4 (a+1))] s/\l [U (C4 ((C4 (e+f))+g)),I (B4 (a+1))] s<l [U c,I a] b) C))))
 (K (U c) b)
theorem Ia(a:OA)(b d:Nat)(e:OA)(f g:Nat)(i:Int)(hvc:Dt Tryz.prog a b d e f g i h K):FCall Tryz.prog R2 #[.slice a b d,.slice e f g,U i] h K:=
 B8 Tryz.func251 (c:=C2 Tryz.f251) (by kernel_rfl) (rs:=[.tmp 6]) (by kernel_rfl) (fa:=⟨[(3,⟨[7,16],[],[.int .u64 0,.int .i64 0],⟨([7,8,9,10,11,12,13]++Lrg 16 36),[]⟩⟩)],[],[],[],[]⟩)
  (cfg:=⟨53,[],none,[198],[],false⟩) (args:=[.slice a b d,.slice e f g,U i]) (by kernel_rfl) (B0 Tryz.call198 Bodies.nil) (Eq.mp (by kernel_rfl) hvc)
def T2(P:Program)(K:Value->Heap->Prop)(s:OA)(b t:Nat)(u:OA)(g:Nat)(e:OA)(i d:Nat)(v:Heap):Prop:=
 ∃ (f:List Value->Heap->Prop) (j:List Value->Heap->Nat),f [I 0] v/\
 ∀ (a:Int),∀ c,f [I a] c->Br (decide (a<(g:Int))) (∃ q,u=some q/\0<=a/\a<(g:Int)/\∃ (k:Int),c.cell? (q.add (a.toNat*1))=some (U k)/\(0<=B4 (a+(b:Int))/\B4 (a+(b:Int))<=(d:Int))/\(0<=a/\a<=(((B4 (a+(b:Int))).toNat:Nat):Int))/\FCall P Y6 #[.slice (J4 e d (a.toNat) 1) (((B4 (a+(b:Int))).toNat)-(a.toNat)) (d-(a.toNat)),.slice s b t,U k] c (fun w x=>∃ (l:Int),w=U l/\∃ r,e=some r/\0<=B4 (a+(b:Int))/\B4 (a+(b:Int))<(i:Int)/\wpH P (Instr.storeAt 157 (.pointer (some (r.add ((B4 (a+(b:Int))).toNat*1)))) (U l)) (fun _ p=>f [I (B4 (a+1))] p/\j [I (B4 (a+1))] p<j [I a] c) x))
 (FCall P F9 #[.slice e i d] c (fun y z=>∃ (m:OA) (n o:Nat),y= .slice m n o/\K (.slice m n o) z))
def Bl(P:Program)(D:OA)(m E:Nat)(F:OA)(n G:Nat)(h:Heap)(K:Value->Heap->Prop):Prop:=
 ∃ (o:List Value->Heap->Prop),(Br (decide ((m:Int)<(n:Int))) (o [.slice F n G,.slice D m E] h)
 (o [.slice D m E,.slice F n G] h))/\
 ∀ (e:OA) (a c:Nat) (f:OA) (b d:Nat),∀ l,o [.slice e a c,.slice f b d] l->Br ((b:Int)==(0:Int)) (K (.slice none 0 0) l)
 (∃ (p:List Value->Heap->Prop),(Br ((b:Int)==(1:Int)) (∃ b3,f=some b3/\0<=(0:Int)/\(0:Int)<(b:Int)/\∃ (H:Int),l.cell? (b3.add (((0:Int)).toNat*1))=some (U H)/\p [.bool (H==(1:Int))] l)
 (p [.bool false] l))/\
 ∀ (J:Bool),∀ j,p [.bool J] j->Br J (K (.slice e a c) j)
 (Br (decide ((b:Int)<(40:Int))) (wpH P (Instr.makeSlice 92 (I (B4 ((a:Int)+(b:Int)))) (I (B4 ((a:Int)+(b:Int))))) (fun b6 b7=>∃ (L:OA) (M N:Nat),b6= .slice L M N/\T2 P K e a c f b L M N b7) j)
 (Br (decide ((b:Int)<=(B4 (Int.tdiv (B4 ((a:Int)+1)) (2:Int))))) (FCall P Ah #[.slice e a c,.slice f b d] j (fun b8 b9=>∃ (O:OA) (Q R:Nat),b8= .slice O Q R/\K (.slice O Q R) b9))
 ((0<=B4 (Int.tdiv (B4 ((a:Int)+1)) (2:Int))/\B4 (Int.tdiv (B4 ((a:Int)+1)) (2:Int))<=(c:Int))/\(0<=B4 (Int.tdiv (B4 ((a:Int)+1)) (2:Int))/\B4 (Int.tdiv (B4 ((a:Int)+1)) (2:Int))<=(a:Int))/\FCall P F9 #[.slice (J4 e c 0 1) (((B4 (Int.tdiv (B4 ((a:Int)+1)) (2:Int))).toNat)-0) (c-0)] j (fun c0 C=>∃ (q:OA) (r s:Nat),c0= .slice q r s/\Heap.le j C/\(0<=B4 (Int.tdiv (B4 ((a:Int)+1)) (2:Int))/\B4 (Int.tdiv (B4 ((a:Int)+1)) (2:Int))<=(d:Int))/\(0<=B4 (Int.tdiv (B4 ((a:Int)+1)) (2:Int))/\B4 (Int.tdiv (B4 ((a:Int)+1)) (2:Int))<=(b:Int))/\FCall P F9 #[.slice (J4 f d 0 1) (((B4 (Int.tdiv (B4 ((a:Int)+1)) (2:Int))).toNat)-0) (d-0)] C (fun c1 b2=>∃ (t:OA) (u v:Nat),c1= .slice t u v/\Heap.le C b2/\FCall P C9 #[.slice q r s,.slice t u v] b2 (fun c2 c3=>∃ (w:OA) (x y:Nat),c2= .slice w x y/\FCall P C9 #[.slice (J4 e c ((B4 (Int.tdiv (B4 ((a:Int)+1)) (2:Int))).toNat) 1) (a-((B4 (Int.tdiv (B4 ((a:Int)+1)) (2:Int))).toNat)) (c-((B4 (Int.tdiv (B4 ((a:Int)+1)) (2:Int))).toNat)),.slice (J4 f d ((B4 (Int.tdiv (B4 ((a:Int)+1)) (2:Int))).toNat) 1) (b-((B4 (Int.tdiv (B4 ((a:Int)+1)) (2:Int))).toNat)) (d-((B4 (Int.tdiv (B4 ((a:Int)+1)) (2:Int))).toNat))] c3 (fun c4 c5=>∃ (z:OA) (A B:Nat),c4= .slice z A B/\FCall P O2 #[.slice q r s,.slice (J4 e c ((B4 (Int.tdiv (B4 ((a:Int)+1)) (2:Int))).toNat) 1) (a-((B4 (Int.tdiv (B4 ((a:Int)+1)) (2:Int))).toNat)) (c-((B4 (Int.tdiv (B4 ((a:Int)+1)) (2:Int))).toNat))] c5 (fun c6 c7=>∃ (S:OA) (T V:Nat),c6= .slice S T V/\FCall P O2 #[.slice t u v,.slice (J4 f d ((B4 (Int.tdiv (B4 ((a:Int)+1)) (2:Int))).toNat) 1) (b-((B4 (Int.tdiv (B4 ((a:Int)+1)) (2:Int))).toNat)) (d-((B4 (Int.tdiv (B4 ((a:Int)+1)) (2:Int))).toNat))] c7 (fun c8 c9=>∃ (W:OA) (X Z:Nat),c8= .slice W X Z/\FCall P C9 #[.slice S T V,.slice W X Z] c9 (fun d0 d1=>∃ (a0:OA) (a1 a2:Nat),d0= .slice a0 a1 a2/\FCall P I0 #[.slice a0 a1 a2,.slice w x y] d1 (fun d2 d3=>∃ (a3:OA) (a4 a5:Nat),d2= .slice a3 a4 a5/\FCall P I0 #[.slice a3 a4 a5,.slice z A B] d3 (fun d4 d5=>∃ (a6:OA) (a7 a8:Nat),d4= .slice a6 a7 a8/\wpH P (Instr.makeSlice 92 (I (B4 ((a:Int)+(b:Int)))) (I (B4 ((a:Int)+(b:Int))))) (fun d6 d7=>∃ (k:OA) (g i:Nat),d6= .slice k g i/\wpH P (Builtin.copy_ #[92,92] 3 #[.slice k g i,.slice w x y]) (fun d8 d9=>∃ (b4:Int),d8=I b4/\(0<=B4 ((2:Int)*(B4 (Int.tdiv (B4 ((a:Int)+1)) (2:Int))))/\B4 ((2:Int)*(B4 (Int.tdiv (B4 ((a:Int)+1)) (2:Int))))<=(g:Int))/\wpH P (Builtin.copy_ #[92,92] 3 #[.slice (J4 k i ((B4 ((2:Int)*(B4 (Int.tdiv (B4 ((a:Int)+1)) (2:Int))))).toNat) 1) (g-((B4 ((2:Int)*(B4 (Int.tdiv (B4 ((a:Int)+1)) (2:Int))))).toNat)) (i-((B4 ((2:Int)*(B4 (Int.tdiv (B4 ((a:Int)+1)) (2:Int))))).toNat)),.slice z A B]) (fun e0 e1=>∃ (b5:Int),e0=I b5/\(0<=B4 (Int.tdiv (B4 ((a:Int)+1)) (2:Int))/\B4 (Int.tdiv (B4 ((a:Int)+1)) (2:Int))<=(g:Int))/\FCall P Q7 #[.slice (J4 k i ((B4 (Int.tdiv (B4 ((a:Int)+1)) (2:Int))).toNat) 1) (g-((B4 (Int.tdiv (B4 ((a:Int)+1)) (2:Int))).toNat)) (i-((B4 (Int.tdiv (B4 ((a:Int)+1)) (2:Int))).toNat)),.slice a6 a7 a8] e1 (fun e2 e3=>e2= .tuple #[]/\FCall P F9 #[.slice k g i] e3 (fun e4 e5=>∃ (a9:OA) (b0 b1:Nat),e4= .slice a9 b0 b1/\K (.slice a9 b0 b1) e5))) d9) d7) d5)))))))))))))
theorem Cg(a:OA)(b d:Nat)(e:OA)(f g:Nat)(hvc:Bl Tryz.prog a b d e f g h K):FCall Tryz.prog C9 #[.slice a b d,.slice e f g] h K:=
 B8 Tryz.func191 (c:=C2 Tryz.f191) (by kernel_rfl) (rs:=[.tmp 4]) (by kernel_rfl) (fa:=⟨[(11,⟨[55],[],[.int .i64 0],⟨([7,8]++Lrg 55 22),[]⟩⟩)],[(3,⟨[0,1],[],[.slice none 0 0,.slice none 0 0],⟨[0,1,17,18,19,20,21,22,23],[]⟩⟩),(7,⟨[32],[],[.bool false],⟨(Lrg 32 10),[]⟩⟩)],[(18,([0,1,2,4,5,6,3,7,8],[[],[],[0,1],[0,1,2],[],[],[4,5],[0,1,2,3],(Lrg 0 8)])),(19,([0,1,2,4,5,6,3,7,8],[[],[],[0,1],[0,1,2],[],[],[4,5],[0,1,2,3],(Lrg 0 8)]))],[],[]⟩)
  (cfg:=⟨141,[],none,[188,191,199,200,210,215,216],[210,216],false⟩) (args:=[.slice a b d,.slice e f g]) (by kernel_rfl) (B0 Tryz.call188 (B0 Tryz.call191 (B0 Tryz.call199 (B0 Tryz.call200 (B0 Tryz.call210 (B0 Tryz.call215 (B0 Tryz.call216 Bodies.nil))))))) (Eq.mp (by kernel_rfl) hvc)
def Jz(P:Program)(x:OA)(c g:Nat)(y:OA)(b z:Nat)(h:Heap)(K:Value->Heap->Prop):Prop:=
 wpH P (Instr.makeSlice 92 (I (B4 ((c:Int)+(b:Int)))) (I (B4 ((c:Int)+(b:Int))))) (fun A B=>∃ (i:OA) (e f:Nat),A= .slice i e f/\∃ (j:List Value->Heap->Prop) (l:List Value->Heap->Nat),j [I 0] B/\
 ∀ (a:Int),∀ d,j [I a] d->Br (decide (a<(c:Int))) ((0<=a/\a<=(e:Int))/\(0<=(if (c:Int)<(B4 (a+(b:Int))) then (c:Int) else B4 (a+(b:Int)))/\(if (c:Int)<(B4 (a+(b:Int))) then (c:Int) else B4 (a+(b:Int)))<=(g:Int))/\(0<=a/\a<=((((if (c:Int)<(B4 (a+(b:Int))) then (c:Int) else B4 (a+(b:Int)))).toNat:Nat):Int))/\FCall P F9 #[.slice (J4 x g (a.toNat) 1) ((((if (c:Int)<(B4 (a+(b:Int))) then (c:Int) else B4 (a+(b:Int)))).toNat)-(a.toNat)) (g-(a.toNat))] d (fun C k=>∃ (m:OA) (n o:Nat),C= .slice m n o/\Heap.le d k/\FCall P C9 #[.slice m n o,.slice y b z] k (fun D v=>∃ (p:OA) (q r:Nat),D= .slice p q r/\Heap.le k v/\FCall P Q7 #[.slice (J4 i f (a.toNat) 1) (e-(a.toNat)) (f-(a.toNat)),.slice p q r] v (fun E w=>E= .tuple #[]/\j [I (B4 (a+(b:Int)))] w/\l [I (B4 (a+(b:Int)))] w<l [I a] d))))
 (FCall P F9 #[.slice i e f] d (fun F G=>∃ (s:OA) (t u:Nat),F= .slice s t u/\K (.slice s t u) G))) h
theorem Nb(a:OA)(b d:Nat)(e:OA)(f g:Nat)(hvc:Jz Tryz.prog a b d e f g h K):FCall Tryz.prog Ah #[.slice a b d,.slice e f g] h K:=
 B8 Tryz.func215 (c:=C2 Tryz.f215) (by kernel_rfl) (rs:=[.tmp 4]) (by kernel_rfl) (fa:=⟨[(3,⟨[6],[],[.int .i64 0],⟨([6,7]++Lrg 14 26),[]⟩⟩)],[],[(6,([0,1,2,3,4,5,6,8,7,9,10],[[],[],[0,1],[],[],[],[3,4,5],[3,4,5,6],[],[3,4,5,6,7,8],(Lrg 0 10)]))],[],[]⟩)
  (cfg:=⟨42,[],none,[188,191,216],[216],false⟩) (args:=[.slice a b d,.slice e f g]) (by kernel_rfl) (B0 Tryz.call188 (B0 Tryz.call191 (B0 Tryz.call216 Bodies.nil))) (Eq.mp (by kernel_rfl) hvc)
def Qh(P:Program)(t:OA)(c B:Nat)(u:Int)(h:Heap)(K:Value->Heap->Prop):Prop:=
 wpH P (Instr.makeSlice 92 (I (c:Int)) (I (c:Int))) (fun v w=>∃ (e:OA) (f j:Nat),v= .slice e f j/\∃ (g:List Value->Heap->Prop) (k:List Value->Heap->Nat),g [U 0,I (B4 ((c:Int)-1))] w/\
 ∀ (d:Int) (a:Int),∀ b,g [U d,I a] b->Br (decide (a>=(0:Int))) (∃ r,t=some r/\0<=a/\a<(c:Int)/\∃ (l:Int),b.cell? (r.add (a.toNat*1))=some (U l)/\FCall P Dg #[U d,U l,U u] b (fun x y=>∃ (m:Int) (i:Int),x= .tuple #[U m,U i]/\∃ s,e=some s/\0<=a/\a<(f:Int)/\wpH P (Instr.storeAt 157 (.pointer (some (s.add (a.toNat*1)))) (U m)) (fun _ q=>g [U i,I (B4 (a-1))] q/\k [U i,I (B4 (a-1))] q<k [U d,I a] b) y))
 (FCall P F9 #[.slice e f j] b (fun z A=>∃ (n:OA) (o p:Nat),z= .slice n o p/\K (.tuple #[.slice n o p,U d]) A))) h
theorem Ri(a:OA)(b d:Nat)(e:Int)(hvc:Qh Tryz.prog a b d e h K):FCall Tryz.prog Cy #[.slice a b d,U e] h K:=
 B8 Tryz.func249 (c:=C2 Tryz.f249) (by kernel_rfl) (rs:=[.tmp 4,.tmp 5]) (by kernel_rfl) (fa:=⟨[(4,⟨[7,8],[],[.int .u64 0,.int .i64 0],⟨([7,8]++Lrg 15 17),[]⟩⟩)],[],[],[],[]⟩)
  (cfg:=⟨35,[],none,[188,203],[],false⟩) (args:=[.slice a b d,U e]) (by kernel_rfl) (B0 Tryz.call188 (B0 Tryz.call203 Bodies.nil)) (Eq.mp (by kernel_rfl) hvc)
def Gx(P:Program)(l:OA)(f p:Nat)(m:Int)(h:Heap)(K:Value->Heap->Prop):Prop:=
 ∃ (d:List Value->Heap->Prop) (g:List Value->Heap->Nat),d [U 0,I (B4 ((f:Int)-1))] h/\
 ∀ (c:Int) (a:Int),∀ b,d [U c,I a] b->Br (decide (a>=(0:Int))) (∃ k,l=some k/\0<=a/\a<(f:Int)/\∃ (i:Int),b.cell? (k.add (a.toNat*1))=some (U i)/\FCall P Dg #[U c,U i,U m] b (fun o j=>∃ (n:Int) (e:Int),o= .tuple #[U n,U e]/\d [U e,I (B4 (a-1))] j/\g [U e,I (B4 (a-1))] j<g [U c,I a] b))
 (K (U c) b)
theorem Ll(a:OA)(b d:Nat)(e:Int)(hvc:Gx Tryz.prog a b d e h K):FCall Tryz.prog V1 #[.slice a b d,U e] h K:=
 B8 Tryz.func171 (c:=C2 Tryz.f171) (by kernel_rfl) (rs:=[.tmp 4]) (by kernel_rfl) (fa:=⟨[(3,⟨[5,6],[],[.int .u64 0,.int .i64 0],⟨([5,6]++Lrg 10 14),[]⟩⟩)],[],[],[],[]⟩)
  (cfg:=⟨25,[],none,[203],[],false⟩) (args:=[.slice a b d,U e]) (by kernel_rfl) (B0 Tryz.call203 Bodies.nil) (Eq.mp (by kernel_rfl) hvc)
def Mj(P:Program)(c:OA)(b d:Nat)(e:OA)(a f:Nat)(h:Heap)(K:Value->Heap->Prop):Prop:=
 Br (decide ((a:Int)>=(80:Int))) (Br (decide ((B4 ((b:Int)-(a:Int)))>=(80:Int))) (FCall P Aj #[.slice c b d,.slice e a f] h (fun z A=>∃ (g:OA) (i j:Nat) (k:OA) (l m:Nat),z= .tuple #[.slice g i j,.slice k l m]/\K (.tuple #[.slice g i j,.slice k l m]) A))
 (FCall P H1 #[.slice c b d,.slice e a f] h (fun B C=>∃ (n:OA) (o p:Nat) (q:OA) (r s:Nat),B= .tuple #[.slice n o p,.slice q r s]/\K (.tuple #[.slice n o p,.slice q r s]) C)))
 (FCall P H1 #[.slice c b d,.slice e a f] h (fun D E=>∃ (t:OA) (u v:Nat) (w:OA) (x y:Nat),D= .tuple #[.slice t u v,.slice w x y]/\K (.tuple #[.slice t u v,.slice w x y]) E))
theorem Qg(a:OA)(b d:Nat)(e:OA)(f g:Nat)(hvc:Mj Tryz.prog a b d e f g h K):FCall Tryz.prog N0 #[.slice a b d,.slice e f g] h K:=
 B8 Tryz.func204 (c:=C2 Tryz.f204) (by kernel_rfl) (rs:=[.tmp 4,.tmp 5]) (by kernel_rfl) (fa:=⟨[],[],[],[],[]⟩)
  (cfg:=⟨27,[],none,[227,228],[],false⟩) (args:=[.slice a b d,.slice e f g]) (by kernel_rfl) (B0 Tryz.call227 (B0 Tryz.call228 Bodies.nil)) (Eq.mp (by kernel_rfl) hvc)
def V6(P:Program)(d:Nat)(w:OA)(k:Nat)(e:OA)(f:Nat)(b:Int)(x:Int)(y:List Value->Heap->Prop)(z:Heap):Prop:=
 ∃ (i:List Value->Heap->Prop) (l:List Value->Heap->Nat),i [U 0,I 0] z/\
 ∀ (g:Int) (a:Int),∀ c,i [U g,I a] c->Br (decide (a<(k:Int))) (∃ r,w=some r/\0<=a/\a<(k:Int)/\∃ (m:Int),c.cell? (r.add (a.toNat*1))=some (U m)/\∃ s,e=some s/\0<=B4 (b+a)/\B4 (b+a)<(f:Int)/\∃ (n:Int),c.cell? (s.add ((B4 (b+a)).toNat*1))=some (U n)/\ECall P P9 #[U n,U m,U g] c (fun A B=>∃ (o:Int) (j:Int),A= .tuple #[U o,U j]/\∃ t,e=some t/\0<=B4 (b+a)/\B4 (b+a)<(f:Int)/\wpH P (Instr.storeAt 157 (.pointer (some (t.add ((B4 (b+a)).toNat*1)))) (U o)) (fun _ q=>i [U j,I (B4 (a+1))] q/\l [U j,I (B4 (a+1))] q<l [U g,I a] c) B))
 (∃ u,e=some u/\0<=B4 (b+(d:Int))/\B4 (b+(d:Int))<(f:Int)/\∃ (p:Int),c.cell? (u.add ((B4 (b+(d:Int))).toNat*1))=some (U p)/\∃ v,e=some v/\0<=B4 (b+(d:Int))/\B4 (b+(d:Int))<(f:Int)/\wpH P (Instr.storeAt 157 (.pointer (some (v.add ((B4 (b+(d:Int))).toNat*1)))) (U (C4 (p+g)))) (fun _ C=>y [U (C4 (x-1))] C) c)
def Du(P:Program)(b:Nat)(K:Value->Heap->Prop)(J:Int)(g:OA)(i n:Nat)(d:OA)(e c:Nat)(o:OA)(p L:Nat)(M:List Value->Heap->Prop)(q:List Value->Heap->Nat)(a:Int)(j:Heap):Prop:=
 Br (decide (a>=(0:Int))) ((0<=B4 ((B4 (a+(b:Int)))+1)/\B4 ((B4 (a+(b:Int)))+1)<=(c:Int))/\(0<=a/\a<=(((B4 ((B4 (a+(b:Int)))+1)).toNat:Nat):Int))/\FCall P Hr #[.slice (J4 d c (a.toNat) 1) (((B4 ((B4 (a+(b:Int)))+1)).toNat)-(a.toNat)) (c-(a.toNat)),.slice g i n] j (fun N O=>∃ (f:Int),N=U f/\(0<=B4 (a+(b:Int))/\B4 (a+(b:Int))<=(c:Int))/\(0<=a/\a<=(((B4 (a+(b:Int))).toNat:Nat):Int))/\FCall P R2 #[.slice (J4 d c (a.toNat) 1) (((B4 (a+(b:Int))).toNat)-(a.toNat)) (c-(a.toNat)),.slice g i n,U f] O (fun Q B=>∃ (k:Int),Q=U k/\∃ E,d=some E/\0<=B4 (a+(b:Int))/\B4 (a+(b:Int))<(e:Int)/\∃ (l:Int),B.cell? (E.add ((B4 (a+(b:Int))).toNat*1))=some (U l)/\∃ F,d=some F/\0<=B4 (a+(b:Int))/\B4 (a+(b:Int))<(e:Int)/\wpH P (Instr.storeAt 157 (.pointer (some (F.add ((B4 (a+(b:Int))).toNat*1)))) (U (C4 (l-k)))) (fun _ C=>∃ (m:List Value->Heap->Prop),(Br (decide (l<k)) (V6 P b g i d e a f m C)
 (m [U f] C))/\
 ∀ (r:Int),∀ G,m [U r] G->∃ H,o=some H/\0<=a/\a<(p:Int)/\wpH P (Instr.storeAt 157 (.pointer (some (H.add (a.toNat*1)))) (U r)) (fun _ D=>M [I (B4 (a-1))] D/\q [I (B4 (a-1))] D<q [I a] j) G) B)))
 (FCall P F9 #[.slice o p L] j (fun R S=>∃ (s:OA) (t u:Nat),R= .slice s t u/\FCall P F9 #[.slice d e c] S (fun T V=>∃ (v:OA) (w x:Nat),T= .slice v w x/\FCall P Y5 #[.slice v w x,U (C4 J)] V (fun W X=>∃ (y:OA) (z A:Nat),W= .slice y z A/\K (.tuple #[.slice s t u,.slice y z A]) X))))
def V7(P:Program)(e b:Nat)(K:Value->Heap->Prop)(f:Int)(g:OA)(i j:Nat)(k:OA)(l m:Nat)(n:OA)(o p:Nat)(q:Heap):Prop:=
 ∃ (a:List Value->Heap->Prop) (r:List Value->Heap->Nat),a [I (B4 ((e:Int)-(b:Int)))] q/\
 ∀ (c:Int),∀ d,a [I c] d->Du P b K f g i j k l m n o p a r c d
def Kb(P:Program)(d:OA)(b e:Nat)(f:OA)(a l:Nat)(h:Heap)(K:Value->Heap->Prop):Prop:=
 FCall P H2 #[.slice d b e,.slice f a l] h (fun J c=>∃ (m:Int),J=I m/\Br (decide (m<(0:Int))) (K (.tuple #[.slice none 0 0,.slice d b e]) c)
 (Br ((a:Int)==(1:Int)) (∃ F,f=some F/\0<=(0:Int)/\(0:Int)<(a:Int)/\∃ (n:Int),c.cell? (F.add (((0:Int)).toNat*1))=some (U n)/\FCall P Cy #[.slice d b e,U n] c (fun L M=>∃ (o:OA) (p q:Nat) (r:Int),L= .tuple #[.slice o p q,U r]/\FCall P T0 #[U r] M (fun N O=>∃ (s:OA) (t u:Nat),N= .slice s t u/\K (.tuple #[.slice o p q,.slice s t u]) O)))
 (∃ G,f=some G/\0<=B4 ((a:Int)-1)/\B4 ((a:Int)-1)<(a:Int)/\∃ (v:Int),c.cell? (G.add ((B4 ((a:Int)-1)).toNat*1))=some (U v)/\FCall P I8 #[U v] c (fun Q R=>∃ (g:Int),Q=I g/\FCall P Q5 #[.slice f a l,U (C4 g)] R (fun S T=>∃ (w:OA) (x y:Nat),S= .slice w x y/\wpH P (Instr.makeSlice 92 (I (B4 ((b:Int)+1))) (I (B4 ((b:Int)+1)))) (fun V W=>∃ (i:OA) (j k:Nat),V= .slice i j k/\FCall P Q5 #[.slice d b e,U (C4 g)] W (fun X Z=>∃ (z:OA) (A B:Nat),X= .slice z A B/\wpH P (Builtin.copy_ #[92,92] 3 #[.slice i j k,.slice z A B]) (fun a0 a1=>∃ (H:Int),a0=I H/\wpH P (Instr.makeSlice 92 (I (B4 ((B4 ((b:Int)-(a:Int)))+1))) (I (B4 ((B4 ((b:Int)-(a:Int)))+1)))) (fun a2 a3=>∃ (C:OA) (D E:Nat),a2= .slice C D E/\V7 P b a K g w x y i j k C D E a3) a1) Z)) T)))))
theorem Nd(a:OA)(b d:Nat)(e:OA)(f g:Nat)(hvc:Kb Tryz.prog a b d e f g h K):FCall Tryz.prog H1 #[.slice a b d,.slice e f g] h K:=
 B8 Tryz.func228 (c:=C2 Tryz.f228) (by kernel_rfl) (rs:=[.tmp 4,.tmp 5]) (by kernel_rfl) (fa:=⟨[(13,⟨[13],[],[.int .i64 0],⟨([13,14,15,16,17,18,19]++Lrg 72 79),[]⟩⟩),(23,⟨[17,115],[],[.int .u64 0,.int .i64 0],⟨([17,18,19]++Lrg 115 23),[]⟩⟩)],[(28,⟨[14],[],[.int .u64 0],⟨([14,17,18,19]++Lrg 108 39),[]⟩⟩)],[],[],[]⟩)
  (cfg:=⟨157,[],none,[158,188,189,226,243,248,249,250,251],[251],false⟩) (args:=[.slice a b d,.slice e f g]) (by kernel_rfl) (B0 Tryz.call158 (B0 Tryz.call188 (B0 Tryz.call189 (B0 Tryz.call226 (B0 Tryz.call243 (B0 Tryz.call248 (B0 Tryz.call249 (B0 Tryz.call250 (B0 Tryz.call251 Bodies.nil))))))))) (Eq.mp (by kernel_rfl) hvc)
def Xx(P:Program)(f:OA)(g E:Nat)(m:OA)(a F:Nat)(h:Heap)(K:Value->Heap->Prop):Prop:=
 ∃ w,m=some w/\0<=B4 ((a:Int)-1)/\B4 ((a:Int)-1)<(a:Int)/\∃ (c:Int),h.cell? (w.add ((B4 ((a:Int)-1)).toNat*1))=some (U c)/\∃ x,m=some x/\0<=B4 ((a:Int)-2)/\B4 ((a:Int)-2)<(a:Int)/\∃ (n:Int),h.cell? (x.add ((B4 ((a:Int)-2)).toNat*1))=some (U n)/\∃ y,f=some y/\0<=(a:Int)/\(a:Int)<(g:Int)/\∃ (o:Int),h.cell? (y.add (((a:Int)).toNat*1))=some (U o)/\Br (decide (o>=c)) (K (U 18446744073709551615) h)
 (∃ z,f=some z/\0<=(a:Int)/\(a:Int)<(g:Int)/\∃ (p:Int),h.cell? (z.add (((a:Int)).toNat*1))=some (U p)/\∃ A,f=some A/\0<=B4 ((a:Int)-1)/\B4 ((a:Int)-1)<(g:Int)/\∃ (q:Int),h.cell? (A.add ((B4 ((a:Int)-1)).toNat*1))=some (U q)/\FCall P Dg #[U p,U q,U c] h (fun C v=>∃ (r:Int) (s:Int),C= .tuple #[U r,U s]/\Heap.le h v/\∃ (i:List Value->Heap->Prop) (j:List Value->Heap->Nat),i [U r,U s] v/\
 ∀ (b:Int) (d:Int),∀ k,i [U b,U d] k->FCall P Df #[U b,U n] k (fun D e=>∃ (l:Int) (t:Int),D= .tuple #[U l,U t]/\Br (decide (l<d)) (K (U b) e)
 (Br (l==d) (∃ B,f=some B/\0<=B4 ((a:Int)-2)/\B4 ((a:Int)-2)<(g:Int)/\∃ (u:Int),e.cell? (B.add ((B4 ((a:Int)-2)).toNat*1))=some (U u)/\Br (decide (t<=u)) (K (U b) e)
 (Br (decide ((C4 (d+c))<c)) (K (U (C4 (b-1))) e)
 (i [U (C4 (b-1)),U (C4 (d+c))] e/\j [U (C4 (b-1)),U (C4 (d+c))] e<j [U b,U d] k)))
 (Br (decide ((C4 (d+c))<c)) (K (U (C4 (b-1))) e)
 (i [U (C4 (b-1)),U (C4 (d+c))] e/\j [U (C4 (b-1)),U (C4 (d+c))] e<j [U b,U d] k))))))
theorem Xw(a:OA)(b d:Nat)(e:OA)(f g:Nat)(hvc:Xx Tryz.prog a b d e f g h K):FCall Tryz.prog Hr #[.slice a b d,.slice e f g] h K:=
 B8 Tryz.func250 (c:=C2 Tryz.f250) (by kernel_rfl) (rs:=[.tmp 4]) (by kernel_rfl) (fa:=⟨[(6,⟨[8,9],[],[.int .u64 0,.int .u64 0],⟨([4,8,9,10,11]++Lrg 44 33),[]⟩⟩)],[],[(2,((Lrg 0 12),[[],[],[1],[0,1,2],[0,1,2,3],[],[],[6],[5,6,7],[5,6,7,8],[0,1,2,3,4],(Lrg 0 11)])),(5,((Lrg 0 16),[[],[],[0,1],[0,1,2],[],[],[5],[4,5,6],[4,5,6,7],[],(Lrg 0 10),(Lrg 0 11),(Lrg 0 12),(Lrg 0 12),(Lrg 0 13),(Lrg 0 15)]))],[],[]⟩)
  (cfg:=⟨77,[],none,[198,203],[],false⟩) (args:=[.slice a b d,.slice e f g]) (by kernel_rfl) (B0 Tryz.call198 (B0 Tryz.call203 Bodies.nil)) (Eq.mp (by kernel_rfl) hvc)
def Xr(P:Program)(g:OA)(a c:Nat)(b:Int)(h:Heap)(K:Value->Heap->Prop):Prop:=
 (0<=(if (a:Int)<b then (a:Int) else b)/\(if (a:Int)<b then (a:Int) else b)<=(c:Int))/\FCall P F9 #[.slice (J4 g c 0 1) ((((if (a:Int)<b then (a:Int) else b)).toNat)-0) (c-0)] h (fun i j=>∃ (d:OA) (e f:Nat),i= .slice d e f/\K (.slice d e f) j)
theorem Xq(a:OA)(b d:Nat)(e:Int)(hvc:Xr Tryz.prog a b d e h K):FCall Tryz.prog Ai #[.slice a b d,I e] h K:=
 B8 Tryz.func244 (c:=C2 Tryz.f244) (by kernel_rfl) (rs:=[.tmp 4]) (by kernel_rfl) (fa:=⟨[],[],[],[],[]⟩)
  (cfg:=⟨12,[],none,[188],[],false⟩) (args:=[.slice a b d,I e]) (by kernel_rfl) (B0 Tryz.call188 Bodies.nil) (Eq.mp (by kernel_rfl) hvc)
def Sp(P:Program)(d:OA)(a c:Nat)(b:Int)(h:Heap)(K:Value->Heap->Prop):Prop:=
 (0<=(if (a:Int)<b then (a:Int) else b)/\(if (a:Int)<b then (a:Int) else b)<=(a:Int))/\K (.slice (J4 d c (((if (a:Int)<b then (a:Int) else b)).toNat) 1) (a-(((if (a:Int)<b then (a:Int) else b)).toNat)) (c-(((if (a:Int)<b then (a:Int) else b)).toNat))) h
theorem Vd(a:OA)(b d:Nat)(e:Int)(hvc:Sp Tryz.prog a b d e h K):FCall Tryz.prog Q6 #[.slice a b d,I e] h K:=
 B8 Tryz.func245 (c:=C2 Tryz.f245) (by kernel_rfl) (rs:=[.tmp 4]) (by kernel_rfl) (fa:=⟨[],[],[],[],[]⟩)
  (cfg:=⟨11,[],none,[],[],false⟩) (args:=[.slice a b d,I e]) (by kernel_rfl) Bodies.nil (Eq.mp (by kernel_rfl) hvc)
def B4o(P:Program)(j:OA)(e k:Nat)(l:OA)(m n:Nat)(a:Int)(h:Heap)(K:Value->Heap->Prop):Prop:=
 wpH P (Instr.makeSlice 92 (I (B4 (a+(e:Int)))) (I (B4 (a+(e:Int))))) (fun q r=>∃ (d:OA) (b c:Nat),q= .slice d b c/\wpH P (Builtin.copy_ #[92,92] 3 #[.slice d b c,.slice l m n]) (fun s t=>∃ (o:Int),s=I o/\(0<=a/\a<=(b:Int))/\wpH P (Builtin.copy_ #[92,92] 3 #[.slice (J4 d c (a.toNat) 1) (b-(a.toNat)) (c-(a.toNat)),.slice j e k]) (fun u v=>∃ (p:Int),u=I p/\FCall P F9 #[.slice d b c] v (fun w x=>∃ (f:OA) (g i:Nat),w= .slice f g i/\K (.slice f g i) x)) t) r) h
theorem A9b(a:OA)(b d:Nat)(e:OA)(f g:Nat)(i:Int)(hvc:B4o Tryz.prog a b d e f g i h K):FCall Tryz.prog Hq #[.slice a b d,.slice e f g,I i] h K:=
 B8 Tryz.func247 (c:=C2 Tryz.f247) (by kernel_rfl) (rs:=[.tmp 6]) (by kernel_rfl) (fa:=⟨[],[],[],[],[]⟩)
  (cfg:=⟨23,[],none,[188],[],false⟩) (args:=[.slice a b d,.slice e f g,I i]) (by kernel_rfl) (B0 Tryz.call188 Bodies.nil) (Eq.mp (by kernel_rfl) hvc)
def V8(P:Program)(c:Nat)(K:Value->Heap->Prop)(a:Int)(M:Int)(N:OA)(O Q:Nat)(R:OA)(o S:Nat)(p:OA)(i j:Nat)(T:Heap):Prop:=
 ∃ (k:List Value->Heap->Prop) (q:List Value->Heap->Nat),k [.slice none 0 0,I (B4 ((B4 (Int.tdiv (B4 ((o:Int)-1)) (B4 ((B4 (Int.tdiv (B4 ((B4 ((c:Int)+a))-1)) a))*a))))*(B4 ((B4 (Int.tdiv (B4 ((B4 ((c:Int)+a))-1)) a))*a))))] T/\
 ∀ (d:OA) (e f:Nat) (b:Int),∀ g,k [.slice d e f,I b] g->Br (decide (b>=(0:Int))) (FCall P Q6 #[.slice R o S,I b] g (fun W X=>∃ (r:OA) (s t:Nat),W= .slice r s t/\FCall P Ai #[.slice r s t,I (B4 ((B4 (Int.tdiv (B4 ((B4 ((c:Int)+a))-1)) a))*a))] X (fun Z a0=>∃ (u:OA) (v w:Nat),Z= .slice u v w/\FCall P Hq #[.slice d e f,.slice u v w,I (B4 ((B4 (Int.tdiv (B4 ((B4 ((c:Int)+a))-1)) a))*a))] a0 (fun a1 a2=>∃ (x:OA) (y z:Nat),a1= .slice x y z/\FCall P R5 #[.slice x y z,.slice N O Q] a2 (fun a3 a4=>∃ (A:OA) (B C:Nat) (l:OA) (m n:Nat),a3= .tuple #[.slice A B C,.slice l m n]/\(0<=b/\b<=(i:Int))/\wpH P (Builtin.copy_ #[92,92] 3 #[.slice (J4 p j (b.toNat) 1) (i-(b.toNat)) (j-(b.toNat)),.slice A B C]) (fun a5 L=>∃ (V:Int),a5=I V/\k [.slice l m n,I (B4 (b-(B4 ((B4 (Int.tdiv (B4 ((B4 ((c:Int)+a))-1)) a))*a))))] L/\q [.slice l m n,I (B4 (b-(B4 ((B4 (Int.tdiv (B4 ((B4 ((c:Int)+a))-1)) a))*a))))] L<q [.slice d e f,I b] g) a4)))))
 (FCall P F9 #[.slice p i j] g (fun a6 a7=>∃ (D:OA) (E F:Nat),a6= .slice D E F/\FCall P Y5 #[.slice d e f,U (C4 (B4 ((B4 ((64:Int)*(B4 ((B4 ((B4 (Int.tdiv (B4 ((B4 ((c:Int)+a))-1)) a))*a))-(c:Int)))))+M)))] a7 (fun a8 a9=>∃ (G:OA) (H J:Nat),a8= .slice G H J/\K (.tuple #[.slice D E F,.slice G H J]) a9)))
def Fm(P:Program)(t:OA)(u v:Nat)(g:OA)(b w:Nat)(h:Heap)(K:Value->Heap->Prop):Prop:=
 ∃ (f:List Value->Heap->Prop) (i:List Value->Heap->Nat),f [I 1] h/\
 ∀ (a:Int),∀ c,f [I a] c->Br (decide (a=0)) False
 (Br (decide ((B4 (Int.tdiv (B4 ((B4 ((b:Int)+a))-1)) a))>=(80:Int))) (f [I (B4 (a*(2:Int)))] c/\i [I (B4 (a*(2:Int)))] c<i [I a] c)
 (Br (decide (a=0)) False
 (∃ s,g=some s/\0<=B4 ((b:Int)-1)/\B4 ((b:Int)-1)<(b:Int)/\∃ (j:Int),c.cell? (s.add ((B4 ((b:Int)-1)).toNat*1))=some (U j)/\FCall P I8 #[U j] c (fun x y=>∃ (d:Int),x=I d/\FCall P Q5 #[.slice g b w,U (C4 (B4 ((B4 ((64:Int)*(B4 ((B4 ((B4 (Int.tdiv (B4 ((B4 ((b:Int)+a))-1)) a))*a))-(b:Int)))))+d)))] y (fun z A=>∃ (k:OA) (l m:Nat),z= .slice k l m/\FCall P Q5 #[.slice t u v,U (C4 (B4 ((B4 ((64:Int)*(B4 ((B4 ((B4 (Int.tdiv (B4 ((B4 ((b:Int)+a))-1)) a))*a))-(b:Int)))))+d)))] A (fun B C=>∃ (n:OA) (e o:Nat),B= .slice n e o/\wpH P (Instr.makeSlice 92 (I (B4 ((e:Int)+(B4 ((B4 (Int.tdiv (B4 ((B4 ((b:Int)+a))-1)) a))*a))))) (I (B4 ((e:Int)+(B4 ((B4 (Int.tdiv (B4 ((B4 ((b:Int)+a))-1)) a))*a)))))) (fun D E=>∃ (p:OA) (q r:Nat),D= .slice p q r/\Br (decide (B4 ((B4 (Int.tdiv (B4 ((B4 ((b:Int)+a))-1)) a))*a)=0)) False
 (V8 P b K a d k l m n e o p q r E)) C))))))
def Kd(P:Program)(a:OA)(b c:Nat)(d:OA)(e f:Nat)(h:Heap)(K:Value->Heap->Prop):Prop:=
 Fm P a b c d e f h K
theorem Ng(a:OA)(b d:Nat)(e:OA)(f g:Nat)(hvc:Kd Tryz.prog a b d e f g h K):FCall Tryz.prog Aj #[.slice a b d,.slice e f g] h K:=
 B8 Tryz.func227 (c:=C2 Tryz.f227) (by kernel_rfl) (rs:=[.tmp 4,.tmp 5]) (by kernel_rfl) (fa:=⟨[(3,⟨[7],[],[.int .i64 0],⟨([7]++Lrg 20 9),[]⟩⟩),(11,⟨[13,14],[],[.slice none 0 0,.int .i64 0],⟨([13,14,15,16,17]++Lrg 67 25),[]⟩⟩)],[],[],[],[]⟩)
  (cfg:=⟨97,[],none,[188,226,243,244,245,246,247,248],[],false⟩) (args:=[.slice a b d,.slice e f g]) (by kernel_rfl) (B0 Tryz.call188 (B0 Tryz.call226 (B0 Tryz.call243 (B0 Tryz.call244 (B0 Tryz.call245 (B0 Tryz.call246 (B0 Tryz.call247 (B0 Tryz.call248 Bodies.nil)))))))) (Eq.mp (by kernel_rfl) hvc)
def Kc(P:Program)(b:OA)(c d:Nat)(e:OA)(a f:Nat)(h:Heap)(K:Value->Heap->Prop):Prop:=
 Br (decide ((a:Int)<(80:Int))) (FCall P H1 #[.slice b c d,.slice e a f] h (fun V W=>∃ (g:OA) (i j:Nat) (k:OA) (l m:Nat),V= .tuple #[.slice g i j,.slice k l m]/\K (.tuple #[.slice g i j,.slice k l m]) W))
 (Br ((Int.tmod (a:Int) (2:Int)) != (0:Int)) (FCall P H1 #[.slice b c d,.slice e a f] h (fun X Z=>∃ (n:OA) (o p:Nat) (q:OA) (r s:Nat),X= .tuple #[.slice n o p,.slice q r s]/\K (.tuple #[.slice n o p,.slice q r s]) Z))
 (FCall P Q6 #[.slice b c d,I (B4 (Int.tdiv (a:Int) (2:Int)))] h (fun a0 a1=>∃ (t:OA) (u v:Nat),a0= .slice t u v/\FCall P R4 #[.slice t u v,.slice e a f] a1 (fun a2 a3=>∃ (w:OA) (x y:Nat) (z:OA) (A B:Nat),a2= .tuple #[.slice w x y,.slice z A B]/\FCall P Ai #[.slice b c d,I (B4 (Int.tdiv (a:Int) (2:Int)))] a3 (fun a4 a5=>∃ (C:OA) (D E:Nat),a4= .slice C D E/\FCall P Hq #[.slice z A B,.slice C D E,I (B4 (Int.tdiv (a:Int) (2:Int)))] a5 (fun a6 a7=>∃ (F:OA) (G H:Nat),a6= .slice F G H/\FCall P R4 #[.slice F G H,.slice e a f] a7 (fun a8 a9=>∃ (J:OA) (L M:Nat) (N:OA) (O Q:Nat),a8= .tuple #[.slice J L M,.slice N O Q]/\FCall P Hq #[.slice w x y,.slice J L M,I (B4 (Int.tdiv (a:Int) (2:Int)))] a9 (fun b0 b1=>∃ (R:OA) (S T:Nat),b0= .slice R S T/\K (.tuple #[.slice R S T,.slice N O Q]) b1))))))))
theorem Nf(a:OA)(b d:Nat)(e:OA)(f g:Nat)(hvc:Kc Tryz.prog a b d e f g h K):FCall Tryz.prog R5 #[.slice a b d,.slice e f g] h K:=
 B8 Tryz.func246 (c:=C2 Tryz.f246) (by kernel_rfl) (rs:=[.tmp 4,.tmp 5]) (by kernel_rfl) (fa:=⟨[],[],[],[],[]⟩)
  (cfg:=⟨51,[],none,[228,244,245,247,253],[],false⟩) (args:=[.slice a b d,.slice e f g]) (by kernel_rfl) (B0 Tryz.call228 (B0 Tryz.call244 (B0 Tryz.call245 (B0 Tryz.call247 (B0 Tryz.call253 Bodies.nil))))) (Eq.mp (by kernel_rfl) hvc)
def V5(P:Program)(C:OA)(D E:Nat)(K:Value->Heap->Prop)(F:OA)(G H:Nat)(p:OA)(q r:Nat)(J:OA)(L M:Nat)(N:Heap):Prop:=
 ∃ (g:List Value->Heap->Prop) (s:List Value->Heap->Nat),g [.slice F G H,.slice J L M] N/\
 ∀ (d:OA) (e f:Nat) (a:OA) (b c:Nat),∀ o,g [.slice d e f,.slice a b c] o->FCall P H2 #[.slice a b c,.slice p q r] o (fun O A=>∃ (t:Int),O=I t/\Br (decide (t<(0:Int))) (FCall P O2 #[.slice a b c,.slice C D E] A (fun Q R=>∃ (i:OA) (j k:Nat),Q= .slice i j k/\wpH P (Instr.buildSlice 92 1 #[(0,U 1)]) (fun S T=>∃ (u:OA) (v w:Nat),S= .slice u v w/\FCall P I0 #[.slice d e f,.slice u v w] T (fun V B=>∃ (l:OA) (m n:Nat),V= .slice l m n/\g [.slice l m n,.slice i j k] B/\s [.slice l m n,.slice i j k] B<s [.slice d e f,.slice a b c] o)) R))
 (FCall P I0 #[.slice a b c,.slice p q r] A (fun W X=>∃ (x:OA) (y z:Nat),W= .slice x y z/\K (.tuple #[.slice d e f,.slice x y z]) X)))
def Ka(P:Program)(d:OA)(e f:Nat)(c:OA)(a b:Nat)(h:Heap)(K:Value->Heap->Prop):Prop:=
 (0<=B4 (Int.tdiv (a:Int) (2:Int))/\B4 (Int.tdiv (a:Int) (2:Int))<=(b:Int))/\(0<=B4 (Int.tdiv (a:Int) (2:Int))/\B4 (Int.tdiv (a:Int) (2:Int))<=(a:Int))/\FCall P F9 #[.slice (J4 c b 0 1) (((B4 (Int.tdiv (a:Int) (2:Int))).toNat)-0) (b-0)] h (fun b0 a7=>∃ (o:OA) (p q:Nat),b0= .slice o p q/\Heap.le h a7/\FCall P Q6 #[.slice d e f,I (B4 (Int.tdiv (a:Int) (2:Int)))] a7 (fun b1 b2=>∃ (g:OA) (i j:Nat),b1= .slice g i j/\∃ (k:List Value->Heap->Prop),(FCall P Q6 #[.slice d e f,I (B4 ((2:Int)*(B4 (Int.tdiv (a:Int) (2:Int)))))] b2 (fun b3 b4=>∃ (r:OA) (s t:Nat),b3= .slice r s t/\FCall P H2 #[.slice r s t,.slice (J4 c b ((B4 (Int.tdiv (a:Int) (2:Int))).toNat) 1) (a-((B4 (Int.tdiv (a:Int) (2:Int))).toNat)) (b-((B4 (Int.tdiv (a:Int) (2:Int))).toNat))] b4 (fun b5 a8=>∃ (u:Int),b5=I u/\Br (decide (u<(0:Int))) (FCall P R5 #[.slice g i j,.slice (J4 c b ((B4 (Int.tdiv (a:Int) (2:Int))).toNat) 1) (a-((B4 (Int.tdiv (a:Int) (2:Int))).toNat)) (b-((B4 (Int.tdiv (a:Int) (2:Int))).toNat))] a8 (fun b6 b7=>∃ (v:OA) (w x:Nat) (y:OA) (z A:Nat),b6= .tuple #[.slice v w x,.slice y z A]/\k [.slice v w x,.slice y z A] b7))
 (wpH P (Instr.buildSlice 92 1 #[(0,U 18446744073709551615)]) (fun b8 b9=>∃ (B:OA) (C D:Nat),b8= .slice B C D/\FCall P Pj #[.slice B C D,I (B4 (Int.tdiv (a:Int) (2:Int)))] b9 (fun c0 c1=>∃ (E:OA) (F G:Nat),c0= .slice E F G/\FCall P Hq #[.slice (J4 c b ((B4 (Int.tdiv (a:Int) (2:Int))).toNat) 1) (a-((B4 (Int.tdiv (a:Int) (2:Int))).toNat)) (b-((B4 (Int.tdiv (a:Int) (2:Int))).toNat)),.slice none 0 0,I (B4 (Int.tdiv (a:Int) (2:Int)))] c1 (fun c2 c3=>∃ (H:OA) (J L:Nat),c2= .slice H J L/\FCall P I0 #[.slice g i j,.slice H J L] c3 (fun c4 c5=>∃ (M:OA) (N O:Nat),c4= .slice M N O/\FCall P O2 #[.slice M N O,.slice (J4 c b ((B4 (Int.tdiv (a:Int) (2:Int))).toNat) 1) (a-((B4 (Int.tdiv (a:Int) (2:Int))).toNat)) (b-((B4 (Int.tdiv (a:Int) (2:Int))).toNat))] c5 (fun c6 c7=>∃ (Q:OA) (R S:Nat),c6= .slice Q R S/\k [.slice E F G,.slice Q R S] c7))))) a8))))/\
 ∀ (l:OA) (m n:Nat) (T:OA) (V W:Nat),∀ a9,k [.slice l m n,.slice T V W] a9->FCall P C9 #[.slice l m n,.slice o p q] a9 (fun c8 c9=>∃ (X:OA) (Z a0:Nat),c8= .slice X Z a0/\FCall P Ai #[.slice d e f,I (B4 (Int.tdiv (a:Int) (2:Int)))] c9 (fun d0 d1=>∃ (a1:OA) (a2 a3:Nat),d0= .slice a1 a2 a3/\FCall P Hq #[.slice T V W,.slice a1 a2 a3,I (B4 (Int.tdiv (a:Int) (2:Int)))] d1 (fun d2 d3=>∃ (a4:OA) (a5 a6:Nat),d2= .slice a4 a5 a6/\V5 P c a b K l m n X Z a0 a4 a5 a6 d3)))))
theorem Nc(a:OA)(b d:Nat)(e:OA)(f g:Nat)(hvc:Ka Tryz.prog a b d e f g h K):FCall Tryz.prog R4 #[.slice a b d,.slice e f g] h K:=
 B8 Tryz.func253 (c:=C2 Tryz.f253) (by kernel_rfl) (rs:=[.tmp 4,.tmp 5]) (by kernel_rfl) (fa:=⟨[(11,⟨[10,11],[],[.slice none 0 0,.slice none 0 0],⟨([10,11]++Lrg 58 10),[]⟩⟩)],[(9,⟨[10,11],[],[.slice none 0 0,.slice none 0 0],⟨([10,11]++Lrg 26 23),[]⟩⟩)],[(2,([0,1,2,4,5,6,3,7,8],[[],[],[0,1],[0,1,2],[],[],[4,5],[0,1,2,3],(Lrg 0 8)]))],[],[]⟩)
  (cfg:=⟨72,[],none,[188,189,191,199,200,244,245,246,247,254],[],false⟩) (args:=[.slice a b d,.slice e f g]) (by kernel_rfl) (B0 Tryz.call188 (B0 Tryz.call189 (B0 Tryz.call191 (B0 Tryz.call199 (B0 Tryz.call200 (B0 Tryz.call244 (B0 Tryz.call245 (B0 Tryz.call246 (B0 Tryz.call247 (B0 Tryz.call254 Bodies.nil)))))))))) (Eq.mp (by kernel_rfl) hvc)
def A1t(P:Program)(d:Int)(e:Int)(h:Heap)(K:Value->Heap->Prop):Prop:=
 Br (d==(0:Int)) (K (U (bor .u64 d e)) h)
 (Br (e==(0:Int)) (K (U (bor .u64 d e)) h)
 (FCall P K0 #[U (bor .u64 d e)] h (fun m n=>∃ (k:Int),m=I k/\FCall P K0 #[U d] n (fun o p=>∃ (l:Int),o=I l/\Br (decide (l<0)) False
 (∃ (g:List Value->Heap->Prop) (i:List Value->Heap->Nat),g [U (Int.fdiv d (2^(min l.toNat 64))),U e] p/\
 ∀ (b:Int) (a:Int),∀ f,g [U b,U a] f->Br (a != (0:Int)) (FCall P K0 #[U a] f (fun q j=>∃ (c:Int),q=I c/\Br (decide (c<0)) False
 (Br (decide (b>(Int.fdiv a (2^(min c.toNat 64))))) (g [U (Int.fdiv a (2^(min c.toNat 64))),U (C4 (b-(Int.fdiv a (2^(min c.toNat 64)))))] j/\i [U (Int.fdiv a (2^(min c.toNat 64))),U (C4 (b-(Int.fdiv a (2^(min c.toNat 64)))))] j<i [U b,U a] f)
 (g [U b,U (C4 ((Int.fdiv a (2^(min c.toNat 64)))-b))] j/\i [U b,U (C4 ((Int.fdiv a (2^(min c.toNat 64)))-b))] j<i [U b,U a] f))))
 (Br (decide (k<0)) False
 (K (U (C4 (b*2^(min k.toNat 64)))) f)))))))
theorem A0j(a:Int)(b:Int)(hvc:A1t Tryz.prog a b h K):FCall Tryz.prog Kz #[U a,U b] h K:=
 B8 Tryz.func208 (c:=C2 Tryz.f208) (by kernel_rfl) (rs:=[.tmp 4]) (by kernel_rfl) (fa:=⟨[(5,⟨[0,1],[],[.int .u64 0,.int .u64 0],⟨([0,1]++Lrg 23 14),[]⟩⟩)],[],[],[],[]⟩)
  (cfg:=⟨40,[],none,[231],[],false⟩) (args:=[U a,U b]) (by kernel_rfl) (B0 Tryz.call231 Bodies.nil) (Eq.mp (by kernel_rfl) hvc)
def Mi(P:Program)(C:List Value->Heap->Prop)(s:List Value->Heap->Nat)(f:OA)(d g:Nat)(t:OA)(u v:Nat)(D:Int)(E:Int)(F:Int)(G:Int)(H:Bool)(J:Heap)(L:Heap):Prop:=
 ∃ (i:List Value->Heap->Prop) (w:List Value->Heap->Nat),i [.slice t u v] J/\
 ∀ (b:OA) (a c:Nat),∀ e,i [.slice b a c] e->Br (decide ((a:Int)<(d:Int))) (wpH P (Instr.buildSlice 92 1 #[(0,U 0)]) (fun M N=>∃ (x:OA) (y z:Nat),M= .slice x y z/\wpH P (Builtin.append_ #[92,92] 92 #[.slice b a c,.slice x y z]) (fun O A=>∃ (j:OA) (k l:Nat),O= .slice j k l/\i [.slice j k l] A/\w [.slice j k l] A<w [.slice b a c] e) N) e)
 (FCall P Uj #[.agg #[U D,U E,U F,U G,.bool H],.slice f d g,.slice b a c] e (fun Q R=>Q= .tuple #[]/\FCall P F9 #[.slice f d g] R (fun S T=>∃ (m:OA) (n o:Nat),S= .slice m n o/\FCall P F9 #[.slice b a c] T (fun V B=>∃ (p:OA) (q r:Nat),V= .slice p q r/\C [.slice m n o,.slice p q r] B/\s [.slice m n o,.slice p q r] B<s [.slice f d g,.slice t u v] L))))
def Ib(P:Program)(K:Value->Heap->Prop)(L:OA)(M N:Nat)(O:OA)(Q R:Nat)(S:Heap):Prop:=
 ∃ (i:List Value->Heap->Prop) (j:List Value->Heap->Nat),i [.slice L M N,.slice O Q R] S/\
 ∀ (d:OA) (e f:Nat) (b:OA) (a g:Nat),∀ c,i [.slice d e f,.slice b a g] c->Br (decide ((a:Int)>(1:Int))) (FCall P Hp #[.slice d e f,.slice b a g] c (fun X E=>∃ (q:Int) (r:Int) (k:Int) (s:Int) (t:Bool),X= .agg #[U q,U r,U k,U s,.bool t]/\Br (k==(0:Int)) (FCall P N0 #[.slice d e f,.slice b a g] E (fun Z a0=>∃ (T:OA) (V W:Nat) (u:OA) (v w:Nat),Z= .tuple #[.slice T V W,.slice u v w]/\FCall P Cz #[.slice u v w] a0 (fun a1 F=>∃ (l:OA) (m n:Nat),a1= .slice l m n/\i [.slice b a g,.slice l m n] F/\j [.slice b a g,.slice l m n] F<j [.slice d e f,.slice b a g] c)))
 (Mi P i j d e f b a g q r k s t E c)))
 (Br ((a:Int)==(0:Int)) (K (.slice d e f) c)
 (∃ H,b=some H/\0<=(0:Int)/\(0:Int)<(a:Int)/\∃ (x:Int),c.cell? (H.add (((0:Int)).toNat*1))=some (U x)/\∃ J,b=some J/\0<=(0:Int)/\(0:Int)<(a:Int)/\∃ (y:Int),c.cell? (J.add (((0:Int)).toNat*1))=some (U y)/\FCall P V1 #[.slice d e f,U y] c (fun a2 o=>∃ (z:Int),a2=U z/\Heap.le c o/\FCall P Kz #[U x,U z] o (fun a3 p=>∃ (A:Int),a3=U A/\Heap.le o p/\FCall P T0 #[U A] p (fun a4 G=>∃ (B:OA) (C D:Nat),a4= .slice B C D/\Heap.le p G/\K (.slice B C D) G)))))
def Xt(P:Program)(a:OA)(b c:Nat)(d:OA)(e f:Nat)(h:Heap)(K:Value->Heap->Prop):Prop:=
 ∃ (g:List Value->Heap->Prop),(FCall P H2 #[.slice a b c,.slice d e f] h (fun x w=>∃ (n:Int),x=I n/\Br (decide (n<(0:Int))) (g [.slice d e f,.slice a b c] w)
 (g [.slice a b c,.slice d e f] w)))/\
 ∀ (i:OA) (j k:Nat) (o:OA) (l p:Nat),∀ m,g [.slice i j k,.slice o l p] m->Br ((l:Int)==(0:Int)) (K (.slice i j k) m)
 (FCall P Cz #[.slice i j k] m (fun y z=>∃ (q:OA) (r s:Nat),y= .slice q r s/\FCall P Cz #[.slice o l p] z (fun A B=>∃ (t:OA) (u v:Nat),A= .slice t u v/\Ib P K q r s t u v B)))
theorem Xs(a:OA)(b d:Nat)(e:OA)(f g:Nat)(hvc:Xt Tryz.prog a b d e f g h K):FCall Tryz.prog Cx #[.slice a b d,.slice e f g] h K:=
 B8 Tryz.func177 (c:=C2 Tryz.f177) (by kernel_rfl) (rs:=[.tmp 4]) (by kernel_rfl) (fa:=⟨[(6,⟨[5,6],[],[.slice none 0 0,.slice none 0 0],⟨([5,6,7,8,9]++Lrg 24 34),[7]⟩⟩),(11,⟨[6],[],[.slice none 0 0],⟨([6]++Lrg 42 8),[]⟩⟩)],[(3,⟨[0,1],[],[.slice none 0 0,.slice none 0 0],⟨[0,1,10,11,12,13,14,15],[]⟩⟩)],[(17,((Lrg 0 11),[[],[0],[0,1],[],[],[4],[4,5],[3,4,5,6],(Lrg 0 8),(Lrg 0 9),(Lrg 0 10)]))],[],[]⟩)
  (cfg:=⟨72,[7],none,[158,171,188,189,204,205,206,207,208],[207],false⟩) (args:=[.slice a b d,.slice e f g]) (by kernel_rfl) (B0 Tryz.call158 (B0 Tryz.call171 (B0 Tryz.call188 (B0 Tryz.call189 (B0 Tryz.call204 (B0 Tryz.call205 (B0 Tryz.call206 (B0 Tryz.call207 (B0 Tryz.call208 Bodies.nil))))))))) (Eq.mp (by kernel_rfl) hvc)
def Fl(P:Program)(K:Value->Heap->Prop)(m:Int)(o:Int)(p:Int)(q:Int)(r:Heap):Prop:=
 ∃ (l:List Value->Heap->Prop) (n:List Value->Heap->Nat),l [U (bor .u64 (C4 (o*2^(min (C4 m).toNat 64))) (Int.fdiv p (2^(min (C4 ((64:Int)-(C4 m))).toNat 64)))),U q,U 0,U 1,U 0,U 1,U 0,U 0,.bool false] r/\
 ∀ (b:Int) (a:Int) (f:Int) (d:Int) (j:Int) (e:Int) (k:Int) (c:Int) (g:Bool),∀ i,l [U b,U a,U f,U d,U j,U e,U k,U c,.bool g] i->Br (decide (a>=d)) (Br (decide ((C4 (b-a))>=(C4 (c+d)))) (Br (decide (a=0)) False
 (Br (decide (a=0)) False
 (l [U a,U (Int.tmod b a),U (C4 (e+(C4 ((C4 (Int.tdiv b a))*f)))),U (C4 (c+(C4 ((C4 (Int.tdiv b a))*d)))),U e,U f,U c,U d,.bool (!g)] i/\n [U a,U (Int.tmod b a),U (C4 (e+(C4 ((C4 (Int.tdiv b a))*f)))),U (C4 (c+(C4 ((C4 (Int.tdiv b a))*d)))),U e,U f,U c,U d,.bool (!g)] i<n [U b,U a,U f,U d,U j,U e,U k,U c,.bool g] i)))
 (K (.agg #[U j,U e,U k,U c,.bool g]) i))
 (K (.agg #[U j,U e,U k,U c,.bool g]) i)
def Xp(P:Program)(f:OA)(a x:Nat)(g:OA)(d y:Nat)(h:Heap)(K:Value->Heap->Prop):Prop:=
 ∃ p,f=some p/\0<=B4 ((a:Int)-1)/\B4 ((a:Int)-1)<(a:Int)/\∃ (i:Int),h.cell? (p.add ((B4 ((a:Int)-1)).toNat*1))=some (U i)/\FCall P I8 #[U i] h (fun w c=>∃ (b:Int),w=I b/\∃ q,f=some q/\0<=B4 ((a:Int)-1)/\B4 ((a:Int)-1)<(a:Int)/\∃ (j:Int),c.cell? (q.add ((B4 ((a:Int)-1)).toNat*1))=some (U j)/\Br (decide (C4 b<0)) False
 (∃ r,f=some r/\0<=B4 ((a:Int)-2)/\B4 ((a:Int)-2)<(a:Int)/\∃ (k:Int),c.cell? (r.add ((B4 ((a:Int)-2)).toNat*1))=some (U k)/\Br (decide (C4 ((64:Int)-(C4 b))<0)) False
 (∃ (e:List Value->Heap->Prop),(Br ((d:Int)==(a:Int)) (∃ s,g=some s/\0<=B4 ((a:Int)-1)/\B4 ((a:Int)-1)<(d:Int)/\∃ (l:Int),c.cell? (s.add ((B4 ((a:Int)-1)).toNat*1))=some (U l)/\Br (decide (C4 b<0)) False
 (∃ t,g=some t/\0<=B4 ((a:Int)-2)/\B4 ((a:Int)-2)<(d:Int)/\∃ (m:Int),c.cell? (t.add ((B4 ((a:Int)-2)).toNat*1))=some (U m)/\Br (decide (C4 ((64:Int)-(C4 b))<0)) False
 (e [U (bor .u64 (C4 (l*2^(min (C4 b).toNat 64))) (Int.fdiv m (2^(min (C4 ((64:Int)-(C4 b))).toNat 64))))] c)))
 (Br ((d:Int)==(B4 ((a:Int)-1))) (∃ u,g=some u/\0<=B4 ((a:Int)-2)/\B4 ((a:Int)-2)<(d:Int)/\∃ (n:Int),c.cell? (u.add ((B4 ((a:Int)-2)).toNat*1))=some (U n)/\Br (decide (C4 ((64:Int)-(C4 b))<0)) False
 (e [U (Int.fdiv n (2^(min (C4 ((64:Int)-(C4 b))).toNat 64)))] c))
 (e [U 0] c)))/\
 ∀ (o:Int),∀ v,e [U o] v->Fl P K b j k o v)))
theorem Xo(a:OA)(b d:Nat)(e:OA)(f g:Nat)(hvc:Xp Tryz.prog a b d e f g h K):FCall Tryz.prog Hp #[.slice a b d,.slice e f g] h K:=
 B8 Tryz.func206 (c:=C2 Tryz.f206) (by kernel_rfl) (rs:=[.cell 4 240]) (by kernel_rfl) (fa:=⟨[(13,⟨[7,8,10,11],[(9,5)],[.int .u64 0,.int .u64 0,.int .u64 0,.int .u64 0,.int .u64 0,.int .u64 0,.int .u64 0,.int .u64 0,.bool false],⟨([7,8,10,11,12]++Lrg 72 46),[9]⟩⟩)],[(10,⟨[8],[],[.int .u64 0],⟨([8]++Lrg 38 33),[]⟩⟩)],[(3,((Lrg 0 17),[[],[],[1],[0,1,2],[0,1,2,3],[],[0,1,2,3,4,5],[],[],[8],[7,8,9],[7,8,9,10],[],[12],[7,8,9,10,11,12,13],(Lrg 0 15),(Lrg 0 16)])),(7,((Lrg 0 17),[[],[],[1],[0,1,2],[0,1,2,3],[],[0,1,2,3,4,5],[],[],[8],[7,8,9],[7,8,9,10],[],[12],[7,8,9,10,11,12,13],(Lrg 0 15),(Lrg 0 16)])),(15,([0,1,2,3,4,5],[[],[],[],[1,2],[0,1],[0,1,2,3,4]]))],[],[]⟩)
  (cfg:=⟨119,[4,9],none,[226],[],false⟩) (args:=[.slice a b d,.slice e f g]) (by kernel_rfl) (B0 Tryz.call226 Bodies.nil) (Eq.mp (by kernel_rfl) hvc)
def Mh(P:Program)(e:Int)(f:Int)(g:Int)(h:Heap)(K:Value->Heap->Prop):Prop:=
 FCall P Df #[U e,U f] h (fun i j=>∃ (a:Int) (b:Int),i= .tuple #[U a,U b]/\ECall P P9 #[U b,U g,U 0] j (fun k l=>∃ (c:Int) (d:Int),k= .tuple #[U c,U d]/\K (.tuple #[U c,U (C4 (a+d))]) l))
theorem Qf(a:Int)(b:Int)(d:Int)(hvc:Mh Tryz.prog a b d h K):FCall Tryz.prog K5 #[U a,U b,U d] h K:=
 B8 Tryz.func229 (c:=C2 Tryz.f229) (by kernel_rfl) (rs:=[.tmp 6,.tmp 7]) (by kernel_rfl) (fa:=⟨[],[],[],[],[]⟩)
  (cfg:=⟨27,[],none,[198],[],false⟩) (args:=[U a,U b,U d]) (by kernel_rfl) (B0 Tryz.call198 Bodies.nil) (Eq.mp (by kernel_rfl) hvc)
def A6g(P:Program)(d:Bool)(b:OA)(a c:Nat)(h:Heap)(K:Value->Heap->Prop):Prop:=
 Br d (K (.agg #[.bool (decide ((a:Int)>(0:Int))),.slice b a c]) h)
 (K (.agg #[.bool false,.slice b a c]) h)
theorem A39(a:Bool)(b:OA)(d e:Nat)(hvc:A6g Tryz.prog a b d e h K):FCall Tryz.prog U5 #[.bool a,.slice b d e] h K:=
 B8 Tryz.func142 (c:=C2 Tryz.f142) (by kernel_rfl) (rs:=[.cell 4 94]) (by kernel_rfl) (fa:=⟨[],[],[],[],[]⟩)
  (cfg:=⟨13,[4],none,[],[],false⟩) (args:=[.bool a,.slice b d e]) (by kernel_rfl) Bodies.nil (Eq.mp (by kernel_rfl) hvc)
def B7g(P:Program)(a:Int)(h:Heap)(K:Value->Heap->Prop):Prop:=
 Br (decide (a<(0:Int))) (FCall P T0 #[U (C4 (0-(C4 a)))] h (fun i j=>∃ (b:OA) (c d:Nat),i= .slice b c d/\K (.agg #[.bool true,.slice b c d]) j))
 (FCall P T0 #[U (C4 a)] h (fun k l=>∃ (e:OA) (f g:Nat),k= .slice e f g/\K (.agg #[.bool false,.slice e f g]) l))
theorem B2h(a:Int)(hvc:B7g Tryz.prog a h K):FCall Tryz.prog Ly #[I a] h K:=
 B8 Tryz.func100 (c:=C2 Tryz.f100) (by kernel_rfl) (rs:=[.cell 2 94]) (by kernel_rfl) (fa:=⟨[],[],[],[],[]⟩)
  (cfg:=⟨14,[2],none,[158],[],false⟩) (args:=[I a]) (by kernel_rfl) (B0 Tryz.call158 Bodies.nil) (Eq.mp (by kernel_rfl) hvc)
def B0d(P:Program)(d:ByteArray)(h:Heap)(K:Value->Heap->Prop):Prop:=
 FCall P Cw #[.string d] h (fun e f=>∃ (a:OA) (b c:Nat),e= .slice a b c/\K (.agg #[.bool false,.slice a b c]) f)
theorem A6i(a:ByteArray)(hvc:B0d Tryz.prog a h K):FCall Tryz.prog Gh #[.string a] h K:=
 B8 Tryz.func163 (c:=C2 Tryz.f163) (by kernel_rfl) (rs:=[.cell 2 94]) (by kernel_rfl) (fa:=⟨[],[],[],[],[]⟩)
  (cfg:=⟨6,[2],none,[196],[],false⟩) (args:=[.string a]) (by kernel_rfl) (B0 Tryz.call196 Bodies.nil) (Eq.mp (by kernel_rfl) hvc)
def Qc(P:Program)(d:ByteArray)(h:Heap)(K:Value->Heap->Prop):Prop:=
 Br (decide (((ByteArray.size d:Nat):Int)>(570:Int))) (wpH P (Instr.buildSlice 92 1 #[(0,U 10000000000000000000)]) (fun N O=>∃ (n:OA) (o p:Nat),N= .slice n o p/\wpH P (Instr.buildSlice 163 1 #[(0,.slice n o p)]) (fun Q R=>∃ (q:OA) (r s:Nat),Q= .slice q r s/\wpH P (Builtin.append_ #[163,163] 163 #[.slice none 0 0,.slice q r s]) (fun S T=>∃ (t:OA) (u v:Nat),S= .slice t u v/\∃ (f:List Value->Heap->Prop) (w:List Value->Heap->Nat),f [.slice t u v] T/\
 ∀ (b:OA) (a e:Nat),∀ c,f [.slice b a e] c->Br (decide ((a:Int)<0)) False
 (Br (decide ((B4 ((19:Int)*2^(min ((a:Int)).toNat 64)))<((ByteArray.size d:Nat):Int))) (∃ M,b=some M/\0<=B4 ((a:Int)-1)/\B4 ((a:Int)-1)<(a:Int)/\∃ (g:OA) (i j:Nat),c.cell? (M.add ((B4 ((a:Int)-1)).toNat*1))=some (.slice g i j)/\FCall P C9 #[.slice g i j,.slice g i j] c (fun V W=>∃ (x:OA) (y z:Nat),V= .slice x y z/\wpH P (Instr.buildSlice 163 1 #[(0,.slice x y z)]) (fun X Z=>∃ (A:OA) (B C:Nat),X= .slice A B C/\wpH P (Builtin.append_ #[163,163] 163 #[.slice b a e,.slice A B C]) (fun a0 L=>∃ (k:OA) (l m:Nat),a0= .slice k l m/\f [.slice k l m] L/\w [.slice k l m] L<w [.slice b a e] c) Z) W))
 (FCall P J9 #[.string d,.slice b a e] c (fun a1 a2=>∃ (D:OA) (E F:Nat),a1= .slice D E F/\K (.slice D E F) a2)))) R) O) h)
 (FCall P J9 #[.string d,.slice none 0 0] h (fun a3 a4=>∃ (G:OA) (H J:Nat),a3= .slice G H J/\K (.slice G H J) a4))
theorem Rg(a:ByteArray)(hvc:Qc Tryz.prog a h K):FCall Tryz.prog Cw #[.string a] h K:=
 B8 Tryz.func196 (c:=C2 Tryz.f196) (by kernel_rfl) (rs:=[.tmp 2]) (by kernel_rfl) (fa:=⟨[(4,⟨[3],[],[.slice none 0 0],⟨([3,4]++Lrg 12 18),[]⟩⟩)],[],[],[],[]⟩)
  (cfg:=⟨33,[],none,[191,220],[],false⟩) (args:=[.string a]) (by kernel_rfl) (B0 Tryz.call191 (B0 Tryz.call220 Bodies.nil)) (Eq.mp (by kernel_rfl) hvc)
def Qd(P:Program)(b:ByteArray)(e:OA)(f d:Nat)(h:Heap)(K:Value->Heap->Prop):Prop:=
 ∃ (g:List Value->Heap->Prop) (o:List Value->Heap->Nat),g [I (B4 ((f:Int)-1))] h/\
 ∀ (a:Int),∀ c,g [I a] c->Br (decide (a>=(0:Int))) (Br (decide (a<0)) False
 (Br (decide ((B4 ((19:Int)*2^(min a.toNat 64)))>=((ByteArray.size b:Nat):Int))) (g [I (B4 (a-1))] c/\o [I (B4 (a-1))] c<o [I a] c)
 (Br (decide (a<(0:Int))) (FCall P K4 #[.string b] c (fun b4 b5=>∃ (p:OA) (q r:Nat),b4= .slice p q r/\K (.slice p q r) b5))
 (Br (decide (((ByteArray.size b:Nat):Int)<=(570:Int))) (FCall P K4 #[.string b] c (fun b6 b7=>∃ (s:OA) (t u:Nat),b6= .slice s t u/\K (.slice s t u) b7))
 (Br (decide (a<0)) False
 ((0<=B4 (((ByteArray.size b:Nat):Int)-(B4 ((19:Int)*2^(min a.toNat 64))))/\B4 (((ByteArray.size b:Nat):Int)-(B4 ((19:Int)*2^(min a.toNat 64))))<=(((b).size:Nat):Int))/\(0<=a/\a<=(d:Int))/\∃ b2,e=some b2/\0<=a/\a<(f:Int)/\∃ (v:OA) (w x:Nat),c.cell? (b2.add (a.toNat*1))=some (.slice v w x)/\FCall P J9 #[.string ((b).extract 0 ((B4 (((ByteArray.size b:Nat):Int)-(B4 ((19:Int)*2^(min a.toNat 64))))).toNat)),.slice (J4 e d 0 1) ((a.toNat)-0) (d-0)] c (fun b8 i=>∃ (y:OA) (z A:Nat),b8= .slice y z A/\Heap.le c i/\FCall P C9 #[.slice y z A,.slice v w x] i (fun b9 j=>∃ (B:OA) (C D:Nat),b9= .slice B C D/\Heap.le i j/\(0<=B4 (((ByteArray.size b:Nat):Int)-(B4 ((19:Int)*2^(min a.toNat 64))))/\B4 (((ByteArray.size b:Nat):Int)-(B4 ((19:Int)*2^(min a.toNat 64))))<=(((b).size:Nat):Int))/\(0<=a/\a<=(d:Int))/\FCall P J9 #[.string ((b).extract ((B4 (((ByteArray.size b:Nat):Int)-(B4 ((19:Int)*2^(min a.toNat 64))))).toNat) ((b).size)),.slice (J4 e d 0 1) ((a.toNat)-0) (d-0)] j (fun c0 k=>∃ (E:OA) (F G:Nat),c0= .slice E F G/\Heap.le j k/\FCall P O2 #[.slice B C D,.slice E F G] k (fun c1 b0=>∃ (H:OA) (J L:Nat),c1= .slice H J L/\Heap.le k b0/\K (.slice H J L) b0))))))))))
 (Br (decide (a<(0:Int))) (FCall P K4 #[.string b] c (fun c2 c3=>∃ (M:OA) (N O:Nat),c2= .slice M N O/\K (.slice M N O) c3))
 (Br (decide (((ByteArray.size b:Nat):Int)<=(570:Int))) (FCall P K4 #[.string b] c (fun c4 c5=>∃ (Q:OA) (R S:Nat),c4= .slice Q R S/\K (.slice Q R S) c5))
 (Br (decide (a<0)) False
 ((0<=B4 (((ByteArray.size b:Nat):Int)-(B4 ((19:Int)*2^(min a.toNat 64))))/\B4 (((ByteArray.size b:Nat):Int)-(B4 ((19:Int)*2^(min a.toNat 64))))<=(((b).size:Nat):Int))/\(0<=a/\a<=(d:Int))/\∃ b3,e=some b3/\0<=a/\a<(f:Int)/\∃ (T:OA) (V W:Nat),c.cell? (b3.add (a.toNat*1))=some (.slice T V W)/\FCall P J9 #[.string ((b).extract 0 ((B4 (((ByteArray.size b:Nat):Int)-(B4 ((19:Int)*2^(min a.toNat 64))))).toNat)),.slice (J4 e d 0 1) ((a.toNat)-0) (d-0)] c (fun c6 l=>∃ (X:OA) (Z a0:Nat),c6= .slice X Z a0/\Heap.le c l/\FCall P C9 #[.slice X Z a0,.slice T V W] l (fun c7 m=>∃ (a1:OA) (a2 a3:Nat),c7= .slice a1 a2 a3/\Heap.le l m/\(0<=B4 (((ByteArray.size b:Nat):Int)-(B4 ((19:Int)*2^(min a.toNat 64))))/\B4 (((ByteArray.size b:Nat):Int)-(B4 ((19:Int)*2^(min a.toNat 64))))<=(((b).size:Nat):Int))/\(0<=a/\a<=(d:Int))/\FCall P J9 #[.string ((b).extract ((B4 (((ByteArray.size b:Nat):Int)-(B4 ((19:Int)*2^(min a.toNat 64))))).toNat) ((b).size)),.slice (J4 e d 0 1) ((a.toNat)-0) (d-0)] m (fun c8 n=>∃ (a4:OA) (a5 a6:Nat),c8= .slice a4 a5 a6/\Heap.le m n/\FCall P O2 #[.slice a1 a2 a3,.slice a4 a5 a6] n (fun c9 b1=>∃ (a7:OA) (a8 a9:Nat),c9= .slice a7 a8 a9/\Heap.le n b1/\K (.slice a7 a8 a9) b1))))))))
theorem Rh(a:ByteArray)(b:OA)(d e:Nat)(hvc:Qd Tryz.prog a b d e h K):FCall Tryz.prog J9 #[.string a,.slice b d e] h K:=
 B8 Tryz.func220 (c:=C2 Tryz.f220) (by kernel_rfl) (rs:=[.tmp 4]) (by kernel_rfl) (fa:=⟨[(2,⟨[5],[],[.int .i64 0],⟨([5]++Lrg 11 11),[]⟩⟩)],[],[(7,([0,1,2,3,4,5,7,8,9,10,6,11,12],[[],[],[0,1],[],[],[3,4],[0,1,2,3,4,5],[],[],[7,8],[7,8,9],(Lrg 0 11),(Lrg 0 12)])),(8,((Lrg 0 10),[[],[],[],[1,2],[],[],[4,5],[1,2,3,4,5,6],(Lrg 0 8),(Lrg 0 9)]))],[],[]⟩)
  (cfg:=⟨57,[],none,[191,199,220,237],[],false⟩) (args:=[.string a,.slice b d e]) (by kernel_rfl) (B0 Tryz.call191 (B0 Tryz.call199 (B0 Tryz.call220 (B0 Tryz.call237 Bodies.nil)))) (Eq.mp (by kernel_rfl) hvc)
def S0(P:Program)(o:List Value->Heap->Prop)(i:List Value->Heap->Nat)(a:ByteArray)(d:OA)(c f:Nat)(A:Int)(B:Int)(p:Heap)(C:Heap):Prop:=
 ∃ (j:List Value->Heap->Prop) (q:List Value->Heap->Nat),j [U A,I 0] C/\
 ∀ (g:Int) (b:Int),∀ e,j [U g,I b] e->Br (decide (b<(c:Int))) (∃ y,d=some y/\0<=b/\b<(c:Int)/\∃ (r:Int),e.cell? (y.add (b.toNat*1))=some (U r)/\FCall P K5 #[U r,U B,U g] e (fun D E=>∃ (s:Int) (k:Int),D= .tuple #[U s,U k]/\∃ z,d=some z/\0<=b/\b<(c:Int)/\wpH P (Instr.storeAt 157 (.pointer (some (z.add (b.toNat*1)))) (U s)) (fun _ w=>j [U k,I (B4 (b+1))] w/\q [U k,I (B4 (b+1))] w<q [U g,I b] e) E))
 (Br (g != (0:Int)) (wpH P (Instr.buildSlice 92 1 #[(0,U g)]) (fun F G=>∃ (t:OA) (u v:Nat),F= .slice t u v/\wpH P (Builtin.append_ #[92,92] 92 #[.slice d c f,.slice t u v]) (fun H x=>∃ (l:OA) (m n:Nat),H= .slice l m n/\o [.string ((a).extract ((B4 ((Int.tmod (B4 (((ByteArray.size a:Nat):Int)-1)) (19:Int))+1)).toNat) ((a).size)),.slice l m n] x/\i [.string ((a).extract ((B4 ((Int.tmod (B4 (((ByteArray.size a:Nat):Int)-1)) (19:Int))+1)).toNat) ((a).size)),.slice l m n] x<i [.string a,.slice d c f] p) G) e)
 (o [.string ((a).extract ((B4 ((Int.tmod (B4 (((ByteArray.size a:Nat):Int)-1)) (19:Int))+1)).toNat) ((a).size)),.slice d c f] e/\i [.string ((a).extract ((B4 ((Int.tmod (B4 (((ByteArray.size a:Nat):Int)-1)) (19:Int))+1)).toNat) ((a).size)),.slice d c f] e<i [.string a,.slice d c f] p))
def Bk(P:Program)(l:List Value->Heap->Prop)(m:List Value->Heap->Nat)(e:ByteArray)(n:OA)(o p:Nat)(q:OA)(i:Nat)(r:Heap)(s:Heap):Prop:=
 ∃ (f:List Value->Heap->Prop) (j:List Value->Heap->Nat),f [U 0,U 1,I 0] r/\
 ∀ (c:Int) (d:Int) (a:Int),∀ b,f [U c,U d,I a] b->Br (decide (a<(i:Int))) (∃ k,q=some k/\0<=a/\a<(i:Int)/\∃ (g:Int),b.cell? (k.add (a.toNat*1))=some (Y g)/\f [U (C4 ((C4 ((10:Int)*c))+(C4 (wu8 (g-48))))),U (C4 (d*(10:Int))),I (B4 (a+1))] b/\j [U (C4 ((C4 ((10:Int)*c))+(C4 (wu8 (g-48))))),U (C4 (d*(10:Int))),I (B4 (a+1))] b<j [U c,U d,I a] b)
 ((0<=B4 ((Int.tmod (B4 (((ByteArray.size e:Nat):Int)-1)) (19:Int))+1)/\B4 ((Int.tmod (B4 (((ByteArray.size e:Nat):Int)-1)) (19:Int))+1)<=(((e).size:Nat):Int))/\S0 P l m e n o p c d s b)
def Gy(P:Program)(j:ByteArray)(h:Heap)(K:Value->Heap->Prop):Prop:=
 ∃ (c:List Value->Heap->Prop) (k:List Value->Heap->Nat),c [.string j,.slice none 0 0] h/\
 ∀ (a:ByteArray) (d:OA) (e f:Nat),∀ b,c [.string a,.slice d e f] b->Br (decide (((ByteArray.size a:Nat):Int)>(0:Int))) ((0<=B4 ((Int.tmod (B4 (((ByteArray.size a:Nat):Int)-1)) (19:Int))+1)/\B4 ((Int.tmod (B4 (((ByteArray.size a:Nat):Int)-1)) (19:Int))+1)<=(((a).size:Nat):Int))/\wpH P (convert 9 181 (.string ((a).extract 0 ((B4 ((Int.tmod (B4 (((ByteArray.size a:Nat):Int)-1)) (19:Int))+1)).toNat)))) (fun m n=>∃ (g:OA) (i l:Nat),m= .slice g i l/\Bk P c k a d e f g i n b) b)
 (K (.slice d e f) b)
def Mf(P:Program)(a:ByteArray)(h:Heap)(K:Value->Heap->Prop):Prop:=
 Gy P a h K
theorem Qe(a:ByteArray)(hvc:Mf Tryz.prog a h K):FCall Tryz.prog K4 #[.string a] h K:=
 B8 Tryz.func237 (c:=C2 Tryz.f237) (by kernel_rfl) (rs:=[.tmp 2]) (by kernel_rfl) (fa:=⟨[(2,⟨[0,3],[],[.string ⟨#[]⟩,.slice none 0 0],⟨([0,3,4,5,6]++Lrg 8 58),[]⟩⟩),(6,⟨[5,6,25],[],[.int .u64 0,.int .u64 0,.int .i64 0],⟨([5,6,8]++Lrg 25 13),[]⟩⟩),(14,⟨[9,44],[],[.int .u64 0,.int .i64 0],⟨([9,10,11]++Lrg 44 16),[]⟩⟩)],[],[],[],[]⟩)
  (cfg:=⟨67,[],none,[229],[],false⟩) (args:=[.string a]) (by kernel_rfl) (B0 Tryz.call229 Bodies.nil) (Eq.mp (by kernel_rfl) hvc)
def Ml(P:Program)(f:OA)(g i:Nat)(j:OA)(b r:Nat)(h:Heap)(K:Value->Heap->Prop):Prop:=
 Br ((b:Int)==(0:Int)) (wpH P (Instr.buildSlice 181 1 #[(0,Y (48:Int))]) (fun a7 a8=>∃ (s:OA) (t u:Nat),a7= .slice s t u/\wpH P (Builtin.append_ #[181,181] 181 #[.slice f g i,.slice s t u]) (fun a9 b0=>∃ (v:OA) (w x:Nat),a9= .slice v w x/\K (.slice v w x) b0) a8) h)
 (Br ((b:Int)==(1:Int)) (∃ a2,j=some a2/\0<=(0:Int)/\(0:Int)<(b:Int)/\∃ (y:Int),h.cell? (a2.add (((0:Int)).toNat*1))=some (U y)/\FCall P 217 #[.slice f g i,U y,I 10] h (fun b1 b2=>∃ (z:OA) (A B:Nat),b1= .slice z A B/\K (.slice z A B) b2))
 (wpH P (Instr.buildSlice 92 1 #[(0,U 10000000000000000000)]) (fun b3 b4=>∃ (C:OA) (D E:Nat),b3= .slice C D E/\wpH P (Instr.buildSlice 163 1 #[(0,.slice C D E)]) (fun b5 b6=>∃ (F:OA) (G H:Nat),b5= .slice F G H/\∃ (k:List Value->Heap->Prop) (J:List Value->Heap->Nat),k [.slice F G H] b6/\
 ∀ (c:OA) (a e:Nat),∀ d,k [.slice c a e] d->Br (decide ((b:Int)>(30:Int))) (∃ a3,c=some a3/\0<=B4 ((a:Int)-1)/\B4 ((a:Int)-1)<(a:Int)/\∃ (a5:OA) (L a6:Nat),d.cell? (a3.add ((B4 ((a:Int)-1)).toNat*1))=some (.slice a5 L a6)/\Br (decide ((B4 ((2:Int)*(L:Int)))<=(b:Int))) (∃ a4,c=some a4/\0<=B4 ((a:Int)-1)/\B4 ((a:Int)-1)<(a:Int)/\∃ (l:OA) (m n:Nat),d.cell? (a4.add ((B4 ((a:Int)-1)).toNat*1))=some (.slice l m n)/\FCall P C9 #[.slice l m n,.slice l m n] d (fun b7 b8=>∃ (M:OA) (N O:Nat),b7= .slice M N O/\wpH P (Instr.buildSlice 163 1 #[(0,.slice M N O)]) (fun b9 c0=>∃ (Q:OA) (R S:Nat),b9= .slice Q R S/\wpH P (Builtin.append_ #[163,163] 163 #[.slice c a e,.slice Q R S]) (fun c1 a1=>∃ (o:OA) (p q:Nat),c1= .slice o p q/\k [.slice o p q] a1/\J [.slice o p q] a1<J [.slice c a e] d) c0) b8))
 (FCall P F3 #[.slice f g i,.slice j b r,I 0,.slice c a e] d (fun c2 c3=>∃ (T:OA) (V W:Nat),c2= .slice T V W/\K (.slice T V W) c3)))
 (FCall P F3 #[.slice f g i,.slice j b r,I 0,.slice c a e] d (fun c4 c5=>∃ (X:OA) (Z a0:Nat),c4= .slice X Z a0/\K (.slice X Z a0) c5))) b4) h))
theorem Qi(a:OA)(b d:Nat)(e:OA)(f g:Nat)(hvc:Ml Tryz.prog a b d e f g h K):FCall Tryz.prog T8 #[.slice a b d,.slice e f g] h K:=
 B8 Tryz.func192 (c:=C2 Tryz.f192) (by kernel_rfl) (rs:=[.tmp 4]) (by kernel_rfl) (fa:=⟨[(6,⟨[5],[],[.slice none 0 0],⟨([5,6]++Lrg 23 28),[]⟩⟩)],[],[],[],[]⟩)
  (cfg:=⟨55,[],none,[191,217,218],[],false⟩) (args:=[.slice a b d,.slice e f g]) (by kernel_rfl) (B0 Tryz.call191 (B0 Tryz.call217 (B0 Tryz.call218 Bodies.nil))) (Eq.mp (by kernel_rfl) hvc)
def Fq(P:Program)(e:OA)(f g:Nat)(n:OA)(i o:Nat)(c:Int)(d:OA)(a b:Nat)(h:Heap)(K:Value->Heap->Prop):Prop:=
 Br (decide ((B4 ((a:Int)-1))<(0:Int))) (FCall P R6 #[.slice e f g,.slice n i o,I c] h (fun V W=>∃ (s:OA) (t u:Nat),V= .slice s t u/\K (.slice s t u) W))
 (Br (decide ((i:Int)<=(30:Int))) (FCall P R6 #[.slice e f g,.slice n i o,I c] h (fun X Z=>∃ (v:OA) (w x:Nat),X= .slice v w x/\K (.slice v w x) Z))
 (∃ T,d=some T/\0<=B4 ((a:Int)-1)/\B4 ((a:Int)-1)<(a:Int)/\∃ (y:OA) (z A:Nat),h.cell? (T.add ((B4 ((a:Int)-1)).toNat*1))=some (.slice y z A)/\FCall P N0 #[.slice n i o,.slice y z A] h (fun a0 r=>∃ (p:OA) (j q:Nat) (k:OA) (l m:Nat),a0= .tuple #[.slice p j q,.slice k l m]/\Br (decide (B4 ((a:Int)-1)<0)) False
 (Br ((j:Int)==(0:Int)) (Br (c==(0:Int)) ((0<=B4 ((a:Int)-1)/\B4 ((a:Int)-1)<=(b:Int))/\FCall P F3 #[.slice e f g,.slice k l m,I 0,.slice (J4 d b 0 1) (((B4 ((a:Int)-1)).toNat)-0) (b-0)] r (fun a1 a2=>∃ (B:OA) (C D:Nat),a1= .slice B C D/\K (.slice B C D) a2))
 ((0<=B4 ((a:Int)-1)/\B4 ((a:Int)-1)<=(b:Int))/\FCall P F3 #[.slice e f g,.slice p j q,I (if (0:Int)>(B4 (c-(B4 ((19:Int)*2^(min (B4 ((a:Int)-1)).toNat 64))))) then (0:Int) else B4 (c-(B4 ((19:Int)*2^(min (B4 ((a:Int)-1)).toNat 64))))),.slice (J4 d b 0 1) (((B4 ((a:Int)-1)).toNat)-0) (b-0)] r (fun a3 a4=>∃ (E:OA) (F G:Nat),a3= .slice E F G/\(0<=B4 ((a:Int)-1)/\B4 ((a:Int)-1)<=(b:Int))/\FCall P F3 #[.slice E F G,.slice k l m,I (B4 ((19:Int)*2^(min (B4 ((a:Int)-1)).toNat 64))),.slice (J4 d b 0 1) (((B4 ((a:Int)-1)).toNat)-0) (b-0)] a4 (fun a5 a6=>∃ (H:OA) (J L:Nat),a5= .slice H J L/\K (.slice H J L) a6))))
 ((0<=B4 ((a:Int)-1)/\B4 ((a:Int)-1)<=(b:Int))/\FCall P F3 #[.slice e f g,.slice p j q,I (if (0:Int)>(B4 (c-(B4 ((19:Int)*2^(min (B4 ((a:Int)-1)).toNat 64))))) then (0:Int) else B4 (c-(B4 ((19:Int)*2^(min (B4 ((a:Int)-1)).toNat 64))))),.slice (J4 d b 0 1) (((B4 ((a:Int)-1)).toNat)-0) (b-0)] r (fun a7 a8=>∃ (M:OA) (N O:Nat),a7= .slice M N O/\(0<=B4 ((a:Int)-1)/\B4 ((a:Int)-1)<=(b:Int))/\FCall P F3 #[.slice M N O,.slice k l m,I (B4 ((19:Int)*2^(min (B4 ((a:Int)-1)).toNat 64))),.slice (J4 d b 0 1) (((B4 ((a:Int)-1)).toNat)-0) (b-0)] a8 (fun a9 b0=>∃ (Q:OA) (R S:Nat),a9= .slice Q R S/\K (.slice Q R S) b0)))))))
theorem Fp(a:OA)(b d:Nat)(e:OA)(f g:Nat)(i:Int)(j:OA)(k l:Nat)(hvc:Fq Tryz.prog a b d e f g i j k l h K):FCall Tryz.prog F3 #[.slice a b d,.slice e f g,I i,.slice j k l] h K:=
 B8 Tryz.func218 (c:=C2 Tryz.f218) (by kernel_rfl) (rs:=[.tmp 8]) (by kernel_rfl) (fa:=⟨[],[],[],[],[]⟩)
  (cfg:=⟨68,[],none,[204,218,235],[],false⟩) (args:=[.slice a b d,.slice e f g,I i,.slice j k l]) (by kernel_rfl) (B0 Tryz.call204 (B0 Tryz.call218 (B0 Tryz.call235 Bodies.nil))) (Eq.mp (by kernel_rfl) hvc)
def Bm(P:Program)(H:Nat)(J:List Value->Heap->Prop)(p:List Value->Heap->Nat)(q:OA)(r s:Nat)(j:Int)(L:Int)(M:Heap)(N:Heap):Prop:=
 ∃ (k:List Value->Heap->Prop) (l:List Value->Heap->Nat),k [.slice q r s,U L,I (B4 (j+(H:Int)))] M/\
 ∀ (c:OA) (b d:Nat) (f:Int) (a:Int),∀ e,k [.slice c b d,U f,I a] e->Br (f != (0:Int)) (Br (a==(b:Int)) (wpH P (Instr.buildSlice 92 1 #[(0,U 0)]) (fun O Q=>∃ (t:OA) (u v:Nat),O= .slice t u v/\wpH P (Builtin.append_ #[92,92] 92 #[.slice c b d,.slice t u v]) (fun R A=>∃ (g:OA) (i m:Nat),R= .slice g i m/\∃ D,g=some D/\0<=a/\a<(i:Int)/\∃ (w:Int),A.cell? (D.add (a.toNat*1))=some (U w)/\ECall P P9 #[U w,U f,U 0] A (fun S T=>∃ (x:Int) (n:Int),S= .tuple #[U x,U n]/\∃ E,g=some E/\0<=a/\a<(i:Int)/\wpH P (Instr.storeAt 157 (.pointer (some (E.add (a.toNat*1)))) (U x)) (fun _ B=>k [.slice g i m,U n,I (B4 (a+1))] B/\l [.slice g i m,U n,I (B4 (a+1))] B<l [.slice c b d,U f,I a] e) T)) Q) e)
 (∃ F,c=some F/\0<=a/\a<(b:Int)/\∃ (y:Int),e.cell? (F.add (a.toNat*1))=some (U y)/\ECall P P9 #[U y,U f,U 0] e (fun V W=>∃ (z:Int) (o:Int),V= .tuple #[U z,U o]/\∃ G,c=some G/\0<=a/\a<(b:Int)/\wpH P (Instr.storeAt 157 (.pointer (some (G.add (a.toNat*1)))) (U z)) (fun _ C=>k [.slice c b d,U o,I (B4 (a+1))] C/\l [.slice c b d,U o,I (B4 (a+1))] C<l [.slice c b d,U f,I a] e) W)))
 (J [.slice c b d,I (B4 (j+1))] e/\p [.slice c b d,I (B4 (j+1))] e<p [.slice q r s,I j] N)
def Dm(P:Program)(K:Value->Heap->Prop)(m:OA)(b n:Nat)(o:OA)(i:Nat)(p:OA)(q r:Nat)(s:Heap):Prop:=
 ∃ (f:List Value->Heap->Prop) (t:List Value->Heap->Nat),f [.slice p q r,I 0] s/\
 ∀ (e:OA) (g c:Nat) (a:Int),∀ d,f [.slice e g c,I a] d->Br (decide (a<(i:Int))) (∃ l,o=some l/\0<=a/\a<(i:Int)/\∃ (j:Int),d.cell? (l.add (a.toNat*1))=some (U j)/\(0<=B4 (a+(b:Int))/\B4 (a+(b:Int))<=(c:Int))/\(0<=a/\a<=(((B4 (a+(b:Int))).toNat:Nat):Int))/\FCall P Y6 #[.slice (J4 e c (a.toNat) 1) (((B4 (a+(b:Int))).toNat)-(a.toNat)) (c-(a.toNat)),.slice m b n,U j] d (fun u v=>∃ (k:Int),u=U k/\Bm P b f t e g c a k v d))
 (K (.slice e g c) d)
def Kg(P:Program)(q:OA)(r s:Nat)(K:Value->Heap->Prop)(t:OA)(j u:Nat)(v:OA)(k:Nat)(w:Heap):Prop:=
 ∃ (e:List Value->Heap->Prop) (l:List Value->Heap->Nat),e [.slice q r s] w/\
 ∀ (b:OA) (a c:Nat),∀ d,e [.slice b a c] d->Br (decide ((a:Int)<(B4 ((j:Int)+(k:Int))))) (wpH P (Instr.buildSlice 92 1 #[(0,U 0)]) (fun x y=>∃ (m:OA) (n o:Nat),x= .slice m n o/\wpH P (Builtin.append_ #[92,92] 92 #[.slice b a c,.slice m n o]) (fun z p=>∃ (f:OA) (g i:Nat),z= .slice f g i/\e [.slice f g i] p/\l [.slice f g i] p<l [.slice b a c] d) y) d)
 (Dm P K t j u v k b a c d)
def Qk(P:Program)(C:OA)(D E:Nat)(m:OA)(b n:Nat)(o:OA)(c p:Nat)(h:Heap)(K:Value->Heap->Prop):Prop:=
 ∃ (d:List Value->Heap->Prop),(Br (decide ((b:Int)<(c:Int))) (d [.slice o c p,.slice m b n] h)
 (d [.slice m b n,.slice o c p] h))/\
 ∀ (e:OA) (f g:Nat) (i:OA) (a j:Nat),∀ l,d [.slice e f g,.slice i a j] l->∃ (k:List Value->Heap->Prop),(Br (decide ((a:Int)>=(40:Int))) (FCall P C9 #[.slice e f g,.slice i a j] l (fun G H=>∃ (q:OA) (r s:Nat),G= .slice q r s/\wpH P (Instr.buildSlice 92 1 #[(0,U 1)]) (fun J L=>∃ (t:OA) (u v:Nat),J= .slice t u v/\k [.slice q r s,.slice t u v] L) H))
 (k [.slice e f g,.slice i a j] l))/\
 ∀ (w:OA) (x y:Nat) (z:OA) (A F:Nat),∀ B,k [.slice w x y,.slice z A F] B->Kg P C D E K w x y z A B
theorem Rk(a:OA)(b d:Nat)(e:OA)(f g:Nat)(i:OA)(j k:Nat)(hvc:Qk Tryz.prog a b d e f g i j k h K):FCall Tryz.prog Y7 #[.slice a b d,.slice e f g,.slice i j k] h K:=
 B8 Tryz.func187 (c:=C2 Tryz.f187) (by kernel_rfl) (rs:=[.tmp 6]) (by kernel_rfl) (fa:=⟨[(5,⟨[0],[],[.slice none 0 0],⟨([0]++Lrg 25 11),[]⟩⟩),(8,⟨[0,38],[],[.slice none 0 0,.int .i64 0],⟨([0,7,8,9,10]++Lrg 38 43),[]⟩⟩),(12,⟨[0,9,10],[],[.slice none 0 0,.int .u64 0,.int .i64 0],⟨([0,9,10]++Lrg 57 23),[]⟩⟩)],[(3,⟨[1,2],[],[.slice none 0 0,.slice none 0 0],⟨[1,2,11,12,13,14,15,16,17],[]⟩⟩),(5,⟨[1,2],[],[.slice none 0 0,.slice none 0 0],⟨[1,2,18,19,20,21,22,23,24],[]⟩⟩)],[],[],[]⟩)
  (cfg:=⟨82,[],none,[191,210],[210],false⟩) (args:=[.slice a b d,.slice e f g,.slice i j k]) (by kernel_rfl) (B0 Tryz.call191 (B0 Tryz.call210 Bodies.nil)) (Eq.mp (by kernel_rfl) hvc)
def Fo(P:Program)(i:OA)(d j:Nat)(k:OA)(l m:Nat)(h:Heap)(K:Value->Heap->Prop):Prop:=
 wpH P (Instr.makeSlice 92 (I (d:Int)) (I (d:Int))) (fun o p=>∃ (a:OA) (b c:Nat),o= .slice a b c/\wpH P (Builtin.copy_ #[92,92] 3 #[.slice a b c,.slice i d j]) (fun q r=>∃ (n:Int),q=I n/\FCall P R3 #[.slice a b c,.slice k l m] r (fun s t=>s= .tuple #[]/\FCall P F9 #[.slice a b c] t (fun u v=>∃ (e:OA) (f g:Nat),u= .slice e f g/\K (.slice e f g) v))) p) h
theorem Ke(a:OA)(b d:Nat)(e:OA)(f g:Nat)(hvc:Fo Tryz.prog a b d e f g h K):FCall Tryz.prog O9 #[.slice a b d,.slice e f g] h K:=
 B8 Tryz.func190 (c:=C2 Tryz.f190) (by kernel_rfl) (rs:=[.tmp 4]) (by kernel_rfl) (fa:=⟨[],[],[],[],[]⟩)
  (cfg:=⟨17,[],none,[188,214],[214],false⟩) (args:=[.slice a b d,.slice e f g]) (by kernel_rfl) (B0 Tryz.call188 (B0 Tryz.call214 Bodies.nil)) (Eq.mp (by kernel_rfl) hvc)
def B0b(P:Program)(b:Bool)(e:OA)(c f:Nat)(h:Heap)(K:Value->Heap->Prop):Prop:=
 Br ((c:Int)==(0:Int)) (K (.tuple #[I 0,.bool true]) h)
 (∃ d,e=some d/\0<=(0:Int)/\(0:Int)<(c:Int)/\∃ (a:Int),h.cell? (d.add (((0:Int)).toNat*1))=some (U a)/\Br (decide ((c:Int)>(1:Int))) (K (.tuple #[I 0,.bool false]) h)
 (Br b (Br (decide (a<=(9223372036854775808:Int))) (K (.tuple #[I (B4 (C4 (0-a))),.bool true]) h)
 (Br (!b) (Br (decide (a<=(9223372036854775807:Int))) (K (.tuple #[I (B4 a),.bool true]) h)
 (K (.tuple #[I 0,.bool false]) h))
 (K (.tuple #[I 0,.bool false]) h)))
 (Br (!b) (Br (decide (a<=(9223372036854775807:Int))) (K (.tuple #[I (B4 a),.bool true]) h)
 (K (.tuple #[I 0,.bool false]) h))
 (K (.tuple #[I 0,.bool false]) h))))
theorem A6d(a:Bool)(b:OA)(d e:Nat)(hvc:B0b Tryz.prog a b d e h K):FCall Tryz.prog Uh #[.agg #[.bool a,.slice b d e]] h K:=
 B8 Tryz.func153 (c:=C2 Tryz.f153) (by kernel_rfl) (rs:=[.tmp 2,.tmp 3]) (by kernel_rfl) (fa:=⟨[],[],[],[],[]⟩)
  (cfg:=⟨38,[1],none,[],[],false⟩) (args:=[.agg #[.bool a,.slice b d e]]) (by kernel_rfl) Bodies.nil (Eq.mp (by kernel_rfl) hvc)
def A6f(P:Program)(t:Bool)(a:OA)(b c:Nat)(d:OA)(e f:Nat)(h:Heap)(K:Value->Heap->Prop):Prop:=
 Br t (wpH P (Instr.buildSlice 181 1 #[(0,Y (45:Int))]) (fun u v=>∃ (g:OA) (i j:Nat),u= .slice g i j/\wpH P (Builtin.append_ #[181,181] 181 #[.slice d e f,.slice g i j]) (fun w x=>∃ (k:OA) (l m:Nat),w= .slice k l m/\FCall P T8 #[.slice k l m,.slice a b c] x (fun y z=>∃ (n:OA) (o p:Nat),y= .slice n o p/\K (.slice n o p) z)) v) h)
 (FCall P T8 #[.slice d e f,.slice a b c] h (fun A B=>∃ (q:OA) (r s:Nat),A= .slice q r s/\K (.slice q r s) B))
theorem A38(a:Bool)(b:OA)(d e:Nat)(f:OA)(g i:Nat)(hvc:A6f Tryz.prog a b d e f g i h K):FCall Tryz.prog Et #[.agg #[.bool a,.slice b d e],.slice f g i] h K:=
 B8 Tryz.func156 (c:=C2 Tryz.f156) (by kernel_rfl) (rs:=[.tmp 4]) (by kernel_rfl) (fa:=⟨[],[],[],[],[]⟩)
  (cfg:=⟨14,[2],none,[192],[],false⟩) (args:=[.agg #[.bool a,.slice b d e],.slice f g i]) (by kernel_rfl) (B0 Tryz.call192 Bodies.nil) (Eq.mp (by kernel_rfl) hvc)
def A69(P:Program)(e:Bool)(f:OA)(g i:Nat)(h:Heap)(K:Value->Heap->Prop):Prop:=
 FCall P Et #[.agg #[.bool e,.slice f g i],.slice none 0 0] h (fun j k=>∃ (a:OA) (b c:Nat),j= .slice a b c/\wpH P (convert 181 9 (.slice a b c)) (fun l m=>∃ (d:ByteArray),l= .string d/\K (.string d) m) k)
theorem A35(a:Bool)(b:OA)(d e:Nat)(hvc:A69 Tryz.prog a b d e h K):FCall Tryz.prog Pg #[.agg #[.bool a,.slice b d e]] h K:=
 B8 Tryz.func155 (c:=C2 Tryz.f155) (by kernel_rfl) (rs:=[.tmp 2]) (by kernel_rfl) (fa:=⟨[],[],[],[],[]⟩)
  (cfg:=⟨6,[1],none,[156],[],false⟩) (args:=[.agg #[.bool a,.slice b d e]]) (by kernel_rfl) (B0 Tryz.call156 Bodies.nil) (Eq.mp (by kernel_rfl) hvc)
def B4m(P:Program)(a:Bool)(c:OA)(b d:Nat)(h:Heap)(K:Value->Heap->Prop):Prop:=
 Br ((b:Int)==(0:Int)) (K (I 0) h)
 (Br a (K (I (-1:Int)) h)
 (K (I 1) h))
theorem A98(a:Bool)(b:OA)(d e:Nat)(hvc:B4m Tryz.prog a b d e h K):FCall Tryz.prog Ug #[.agg #[.bool a,.slice b d e]] h K:=
 B8 Tryz.func137 (c:=C2 Tryz.f137) (by kernel_rfl) (rs:=[.tmp 2]) (by kernel_rfl) (fa:=⟨[],[],[],[],[]⟩)
  (cfg:=⟨11,[1],none,[],[],false⟩) (args:=[.agg #[.bool a,.slice b d e]]) (by kernel_rfl) Bodies.nil (Eq.mp (by kernel_rfl) hvc)
def A6b(P:Program)(b:Bool)(c:OA)(a d:Nat)(h:Heap)(K:Value->Heap->Prop):Prop:=
 K (.bool ((a:Int)==(0:Int))) h
theorem A37(a:Bool)(b:OA)(d e:Nat)(hvc:A6b Tryz.prog a b d e h K):FCall Tryz.prog G0 #[.agg #[.bool a,.slice b d e]] h K:=
 B8 Tryz.func135 (c:=C2 Tryz.f135) (by kernel_rfl) (rs:=[.tmp 2]) (by kernel_rfl) (fa:=⟨[],[],[],[],[]⟩)
  (cfg:=⟨7,[1],none,[],[],false⟩) (args:=[.agg #[.bool a,.slice b d e]]) (by kernel_rfl) Bodies.nil (Eq.mp (by kernel_rfl) hvc)
def B0a(P:Program)(d:Bool)(e:OA)(a f:Nat)(h:Heap)(K:Value->Heap->Prop):Prop:=
 Br (!d) (Br ((a:Int)==(1:Int)) (∃ c,e=some c/\0<=(0:Int)/\(0:Int)<(a:Int)/\∃ (b:Int),h.cell? (c.add (((0:Int)).toNat*1))=some (U b)/\K (.bool (b==(1:Int))) h)
 (K (.bool false) h))
 (K (.bool false) h)
theorem A6c(a:Bool)(b:OA)(d e:Nat)(hvc:B0a Tryz.prog a b d e h K):FCall Tryz.prog Y4 #[.agg #[.bool a,.slice b d e]] h K:=
 B8 Tryz.func138 (c:=C2 Tryz.f138) (by kernel_rfl) (rs:=[.tmp 2]) (by kernel_rfl) (fa:=⟨[],[],[],[],[]⟩)
  (cfg:=⟨19,[1],none,[],[],false⟩) (args:=[.agg #[.bool a,.slice b d e]]) (by kernel_rfl) Bodies.nil (Eq.mp (by kernel_rfl) hvc)
def B0c(P:Program)(b:Bool)(c:OA)(d e:Nat)(f:Bool)(g:OA)(i j:Nat)(h:Heap)(K:Value->Heap->Prop):Prop:=
 Br (b==f) (FCall P H2 #[.slice c d e,.slice g i j] h (fun k l=>∃ (a:Int),k=I a/\K (.bool (a==(0:Int))) l))
 (K (.bool false) h)
theorem A6e(a:Bool)(b:OA)(d e:Nat)(f:Bool)(g:OA)(i j:Nat)(hvc:B0c Tryz.prog a b d e f g i j h K):FCall Tryz.prog Ui #[.agg #[.bool a,.slice b d e],.agg #[.bool f,.slice g i j]] h K:=
 B8 Tryz.func175 (c:=C2 Tryz.f175) (by kernel_rfl) (rs:=[.tmp 4]) (by kernel_rfl) (fa:=⟨[],[],[],[],[]⟩)
  (cfg:=⟨18,[2,3],none,[189],[],false⟩) (args:=[.agg #[.bool a,.slice b d e],.agg #[.bool f,.slice g i j]]) (by kernel_rfl) (B0 Tryz.call189 Bodies.nil) (Eq.mp (by kernel_rfl) hvc)
def B7c(P:Program)(e:Bool)(f:OA)(g i:Nat)(h:Heap)(K:Value->Heap->Prop):Prop:=
 FCall P U5 #[.bool (!e),.slice f g i] h (fun j k=>∃ (a:Bool) (b:OA) (c d:Nat),j= .agg #[.bool a,.slice b c d]/\K (.agg #[.bool a,.slice b c d]) k)
theorem B2d(a:Bool)(b:OA)(d e:Nat)(hvc:B7c Tryz.prog a b d e h K):FCall Tryz.prog Jn #[.agg #[.bool a,.slice b d e]] h K:=
 B8 Tryz.func77 (c:=C2 Tryz.f77) (by kernel_rfl) (rs:=[.cell 2 94]) (by kernel_rfl) (fa:=⟨[],[],[],[],[]⟩)
  (cfg:=⟨9,[1,2],none,[142],[],false⟩) (args:=[.agg #[.bool a,.slice b d e]]) (by kernel_rfl) (B0 Tryz.call142 Bodies.nil) (Eq.mp (by kernel_rfl) hvc)
def B7d(P:Program)(k:Bool)(l:OA)(m n:Nat)(o:Bool)(p:OA)(q r:Nat)(h:Heap)(K:Value->Heap->Prop):Prop:=
 FCall P C9 #[.slice l m n,.slice p q r] h (fun s a=>∃ (b:OA) (c d:Nat),s= .slice b c d/\Heap.le h a/\FCall P U5 #[.bool (!(k==o)),.slice b c d] a (fun t j=>∃ (e:Bool) (f:OA) (g i:Nat),t= .agg #[.bool e,.slice f g i]/\Heap.le a j/\K (.agg #[.bool e,.slice f g i]) j))
theorem B2e(a:Bool)(b:OA)(d e:Nat)(f:Bool)(g:OA)(i j:Nat)(hvc:B7d Tryz.prog a b d e f g i j h K):FCall Tryz.prog Lx #[.agg #[.bool a,.slice b d e],.agg #[.bool f,.slice g i j]] h K:=
 B8 Tryz.func152 (c:=C2 Tryz.f152) (by kernel_rfl) (rs:=[.cell 4 94]) (by kernel_rfl) (fa:=⟨[],[],[(1,((Lrg 0 12),[[],[0],[],[2],[0,1,2,3],[],[5],[],[7],[5,6,7,8],(Lrg 0 10),(Lrg 0 11)]))],[],[]⟩)
  (cfg:=⟨16,[2,3,4],none,[142,191],[],false⟩) (args:=[.agg #[.bool a,.slice b d e],.agg #[.bool f,.slice g i j]]) (by kernel_rfl) (B0 Tryz.call142 (B0 Tryz.call191 Bodies.nil)) (Eq.mp (by kernel_rfl) hvc)
def A6a(P:Program)(b:Bool)(u:OA)(v w:Nat)(x:Bool)(y:OA)(c z:Nat)(h:Heap)(K:Value->Heap->Prop):Prop:=
 Br ((c:Int)==(0:Int)) (K (.tuple #[.agg #[.bool false,.slice none 0 0],.agg #[.bool false,.slice none 0 0]]) h)
 (FCall P N0 #[.slice u v w,.slice y c z] h (fun A s=>∃ (d:OA) (e f:Nat) (g:OA) (i j:Nat),A= .tuple #[.slice d e f,.slice g i j]/\FCall P U5 #[.bool (!(b==x)),.slice d e f] s (fun B a=>∃ (k:Bool) (l:OA) (m n:Nat),B= .agg #[.bool k,.slice l m n]/\Heap.le s a/\FCall P U5 #[.bool b,.slice g i j] a (fun C t=>∃ (o:Bool) (p:OA) (q r:Nat),C= .agg #[.bool o,.slice p q r]/\Heap.le a t/\K (.tuple #[.agg #[.bool k,.slice l m n],.agg #[.bool o,.slice p q r]]) t))))
theorem A36(a:Bool)(b:OA)(d e:Nat)(f:Bool)(g:OA)(i j:Nat)(hvc:A6a Tryz.prog a b d e f g i j h K):FCall Tryz.prog Ph #[.agg #[.bool a,.slice b d e],.agg #[.bool f,.slice g i j]] h K:=
 B8 Tryz.func178 (c:=C2 Tryz.f178) (by kernel_rfl) (rs:=[.cell 4 94,.cell 5 94]) (by kernel_rfl) (fa:=⟨[],[],[(4,([0,1,2,3,4,5,7,8,9,6,10,11,12],[[],[0],[],[2],[0,1,2,3],[],[0,1,2,3,4,5],[],[7],[],(Lrg 0 10),(Lrg 0 11),(Lrg 0 12)]))],[],[]⟩)
  (cfg:=⟨33,[2,3,4,5],none,[142,204],[],false⟩) (args:=[.agg #[.bool a,.slice b d e],.agg #[.bool f,.slice g i j]]) (by kernel_rfl) (B0 Tryz.call142 (B0 Tryz.call204 Bodies.nil)) (Eq.mp (by kernel_rfl) hvc)
def B7b(P:Program)(a:Bool)(b:OA)(c d:Nat)(e:Bool)(f:OA)(g i:Nat)(h:Heap)(K:Value->Heap->Prop):Prop:=
 FCall P Y4 #[.agg #[.bool e,.slice f g i]] h (fun t o=>∃ (j:Bool),t= .bool j/\Br j (K (.agg #[.bool a,.slice b c d]) o)
 (FCall P Ph #[.agg #[.bool a,.slice b c d],.agg #[.bool e,.slice f g i]] o (fun u v=>∃ (k:Bool) (l:OA) (m n:Nat) (p:Bool) (q:OA) (r s:Nat),u= .tuple #[.agg #[.bool k,.slice l m n],.agg #[.bool p,.slice q r s]]/\K (.agg #[.bool k,.slice l m n]) v)))
theorem B2c(a:Bool)(b:OA)(d e:Nat)(f:Bool)(g:OA)(i j:Nat)(hvc:B7b Tryz.prog a b d e f g i j h K):FCall Tryz.prog Jm #[.agg #[.bool a,.slice b d e],.agg #[.bool f,.slice g i j]] h K:=
 B8 Tryz.func136 (c:=C2 Tryz.f136) (by kernel_rfl) (rs:=[.cell 4 94]) (by kernel_rfl) (fa:=⟨[],[],[],[],[]⟩)
  (cfg:=⟨17,[2,3,4,5,6],none,[138,178],[],false⟩) (args:=[.agg #[.bool a,.slice b d e],.agg #[.bool f,.slice g i j]]) (by kernel_rfl) (B0 Tryz.call138 (B0 Tryz.call178 Bodies.nil)) (Eq.mp (by kernel_rfl) hvc)
def B7f(P:Program)(m:Bool)(d:OA)(e f:Nat)(n:Bool)(g:OA)(i j:Nat)(h:Heap)(K:Value->Heap->Prop):Prop:=
 FCall P Cx #[.slice d e f,.slice g i j] h (fun k l=>∃ (a:OA) (b c:Nat),k= .slice a b c/\K (.agg #[.bool false,.slice a b c]) l)
theorem B2g(a:Bool)(b:OA)(d e:Nat)(f:Bool)(g:OA)(i j:Nat)(hvc:B7f Tryz.prog a b d e f g i j h K):FCall Tryz.prog Pi #[.agg #[.bool a,.slice b d e],.agg #[.bool f,.slice g i j]] h K:=
 B8 Tryz.func134 (c:=C2 Tryz.f134) (by kernel_rfl) (rs:=[.cell 4 94]) (by kernel_rfl) (fa:=⟨[],[],[],[],[]⟩)
  (cfg:=⟨11,[2,3,4],none,[177],[],false⟩) (args:=[.agg #[.bool a,.slice b d e],.agg #[.bool f,.slice g i j]]) (by kernel_rfl) (B0 Tryz.call177 Bodies.nil) (Eq.mp (by kernel_rfl) hvc)
def B7e(P:Program)(z:Bool)(d:OA)(a e:Nat)(A:Bool)(f:OA)(b g:Nat)(h:Heap)(K:Value->Heap->Prop):Prop:=
 Br ((a:Int)==(0:Int)) (K (.agg #[.bool false,.slice none 0 0]) h)
 (Br ((b:Int)==(0:Int)) (K (.agg #[.bool false,.slice none 0 0]) h)
 (FCall P Cx #[.slice d a e,.slice f b g] h (fun v c=>∃ (i:OA) (j k:Nat),v= .slice i j k/\Heap.le h c/\FCall P N0 #[.slice f b g,.slice i j k] c (fun w r=>∃ (l:OA) (m n:Nat) (s:OA) (t u:Nat),w= .tuple #[.slice l m n,.slice s t u]/\Heap.le c r/\FCall P C9 #[.slice d a e,.slice l m n] r (fun x y=>∃ (o:OA) (p q:Nat),x= .slice o p q/\K (.agg #[.bool false,.slice o p q]) y)))))
theorem B2f(a:Bool)(b:OA)(d e:Nat)(f:Bool)(g:OA)(i j:Nat)(hvc:B7e Tryz.prog a b d e f g i j h K):FCall Tryz.prog A5d #[.agg #[.bool a,.slice b d e],.agg #[.bool f,.slice g i j]] h K:=
 B8 Tryz.func176 (c:=C2 Tryz.f176) (by kernel_rfl) (rs:=[.cell 4 94]) (by kernel_rfl) (fa:=⟨[],[],[(3,((Lrg 0 13),[[],[0],[],[2],[],[4],[2,3,4,5],[0,1,2,3,4,5,6],(Lrg 0 8),(Lrg 0 9),(Lrg 0 9),(Lrg 0 10),(Lrg 0 12)]))],[],[]⟩)
  (cfg:=⟨34,[2,3,4],none,[177,191,204],[],false⟩) (args:=[.agg #[.bool a,.slice b d e],.agg #[.bool f,.slice g i j]]) (by kernel_rfl) (B0 Tryz.call177 (B0 Tryz.call191 (B0 Tryz.call204 Bodies.nil))) (Eq.mp (by kernel_rfl) hvc)
def B0k(P:Program)(i:OA)(h:Heap)(K:Value->Heap->Prop):Prop:=
 ∃ G,i=some G/\∃ (j:OA) (k l:Nat),h.cell? (G.add 0)=some (.slice j k l)/\∃ H,i=some H/\∃ (m:OA) (n o:Nat),h.cell? (H.add 1)=some (.slice m n o)/\FCall P F9 #[.slice j k l] h (fun J g=>∃ (a:OA) (b c:Nat),J= .slice a b c/\Heap.le h g/\FCall P F9 #[.slice m n o] g (fun L E=>∃ (d:OA) (e f:Nat),L= .slice d e f/\Heap.le g E/\FCall P H2 #[.slice a b c,.slice d e f] E (fun M F=>∃ (p:Int),M=I p/\Br (decide (p>=(0:Int))) (FCall P O9 #[.slice a b c,.slice d e f] F (fun N O=>∃ (q:OA) (r s:Nat),N= .slice q r s/\FCall P U5 #[.bool false,.slice q r s] O (fun Q R=>∃ (t:Bool) (u:OA) (v w:Nat),Q= .agg #[.bool t,.slice u v w]/\K (.agg #[.bool t,.slice u v w]) R)))
 (FCall P O9 #[.slice d e f,.slice a b c] F (fun S T=>∃ (x:OA) (y z:Nat),S= .slice x y z/\FCall P U5 #[.bool true,.slice x y z] T (fun V W=>∃ (A:Bool) (B:OA) (C D:Nat),V= .agg #[.bool A,.slice B C D]/\K (.agg #[.bool A,.slice B C D]) W))))))
theorem A6s(a:OA)(hvc:B0k Tryz.prog a h K):FCall Tryz.prog Nr #[.pointer a] h K:=
 B8 Tryz.func151 (c:=C2 Tryz.f151) (by kernel_rfl) (rs:=[.cell 2 94]) (by kernel_rfl) (fa:=⟨[],[],[(1,([0,1,2,3,5,6,7,8,4,9,10,11],[[],[0],[0,1],[0,1,2],[0,1,2,3],[],[5],[5,6],[5,6,7],(Lrg 0 9),(Lrg 0 10),(Lrg 0 11)]))],[],[]⟩)
  (cfg:=⟨27,[2],none,[142,188,189,190],[],false⟩) (args:=[.pointer a]) (by kernel_rfl) (B0 Tryz.call142 (B0 Tryz.call188 (B0 Tryz.call189 (B0 Tryz.call190 Bodies.nil)))) (Eq.mp (by kernel_rfl) hvc)
def B0f(P:Program)(T:Int)(V:Int)(W:Int)(X:Int)(Z:Bool)(q:OA)(j b7:Nat)(r:OA)(s b8:Nat)(h:Heap)(K:Value->Heap->Prop):Prop:=
 ∃ (k:List Value->Heap->Prop) (l:List Value->Heap->Nat),k [U 0,U 0,U 0,U 0,U 0,U 0,I 0] h/\
 ∀ (m:Int) (n:Int) (o:Int) (p:Int) (c:Int) (d:Int) (a:Int),∀ b,k [U m,U n,U o,U p,U c,U d,I a] b->Br (decide (a<(j:Int))) (∃ M,q=some M/\0<=a/\a<(j:Int)/\∃ (t:Int),b.cell? (M.add (a.toNat*1))=some (U t)/\∃ N,r=some N/\0<=a/\a<(s:Int)/\∃ (u:Int),b.cell? (N.add (a.toNat*1))=some (U u)/\FCall P K5 #[U t,U T,U m] b (fun a0 a1=>∃ (v:Int) (e:Int),a0= .tuple #[U v,U e]/\FCall P K5 #[U u,U W,U n] a1 (fun a2 a3=>∃ (w:Int) (f:Int),a2= .tuple #[U w,U f]/\FCall P K5 #[U u,U X,U o] a3 (fun a4 a5=>∃ (x:Int) (g:Int),a4= .tuple #[U x,U g]/\FCall P K5 #[U t,U V,U p] a5 (fun a6 H=>∃ (y:Int) (i:Int),a6= .tuple #[U y,U i]/\Br Z (ECall P Z1 #[U v,U w,U c] H (fun a7 a8=>∃ (D:Int) (z:Int),a7= .tuple #[U D,U z]/\∃ O,q=some O/\0<=a/\a<(j:Int)/\wpH P (Instr.storeAt 157 (.pointer (some (O.add (a.toNat*1)))) (U D)) (fun _ a9=>ECall P Z1 #[U x,U y,U d] a9 (fun b0 b1=>∃ (E:Int) (A:Int),b0= .tuple #[U E,U A]/\∃ Q,r=some Q/\0<=a/\a<(s:Int)/\wpH P (Instr.storeAt 157 (.pointer (some (Q.add (a.toNat*1)))) (U E)) (fun _ J=>k [U e,U f,U g,U i,U z,U A,I (B4 (a+1))] J/\l [U e,U f,U g,U i,U z,U A,I (B4 (a+1))] J<l [U m,U n,U o,U p,U c,U d,I a] b) b1)) a8))
 (ECall P Z1 #[U w,U v,U c] H (fun b2 b3=>∃ (F:Int) (B:Int),b2= .tuple #[U F,U B]/\∃ R,q=some R/\0<=a/\a<(j:Int)/\wpH P (Instr.storeAt 157 (.pointer (some (R.add (a.toNat*1)))) (U F)) (fun _ b4=>ECall P Z1 #[U y,U x,U d] b4 (fun b5 b6=>∃ (G:Int) (C:Int),b5= .tuple #[U G,U C]/\∃ S,r=some S/\0<=a/\a<(s:Int)/\wpH P (Instr.storeAt 157 (.pointer (some (S.add (a.toNat*1)))) (U G)) (fun _ L=>k [U e,U f,U g,U i,U B,U C,I (B4 (a+1))] L/\l [U e,U f,U g,U i,U B,U C,I (B4 (a+1))] L<l [U m,U n,U o,U p,U c,U d,I a] b) b6)) b3)))))))
 (K (.tuple #[]) b)
theorem A6k(a:Int)(b:Int)(d:Int)(e:Int)(f:Bool)(g:OA)(i j:Nat)(k:OA)(l m:Nat)(hvc:B0f Tryz.prog a b d e f g i j k l m h K):FCall Tryz.prog Uj #[.agg #[U a,U b,U d,U e,.bool f],.slice g i j,.slice k l m] h K:=
 B8 Tryz.func207 (c:=C2 Tryz.f207) (by kernel_rfl) (rs:=[]) (by kernel_rfl) (fa:=⟨[(4,⟨[6,7,8,9,10,11,21],[],[.int .u64 0,.int .u64 0,.int .u64 0,.int .u64 0,.int .u64 0,.int .u64 0,.int .i64 0],⟨(Lrg 6 13++Lrg 21 68),[]⟩⟩)],[],[],[],[]⟩)
  (cfg:=⟨89,[3],none,[229],[],false⟩) (args:=[.agg #[U a,U b,U d,U e,.bool f],.slice g i j,.slice k l m]) (by kernel_rfl) (B0 Tryz.call229 Bodies.nil) (Eq.mp (by kernel_rfl) hvc)
def Yq(P:Program)(i:Int)(f:Int)(c:Int)(a:Int)(l:List Value->Heap->Prop)(n:Heap):Prop:=
 ∃ (j:List Value->Heap->Prop) (m:List Value->Heap->Nat),j [U (C4 (Int.tdiv (bor .u64 (C4 (i*2^(min (C4 a).toNat 64))) (Int.fdiv f (2^(min (C4 ((64:Int)-(C4 a))).toNat 64)))) (Int.fdiv (C4 (c*2^(min (C4 a).toNat 64))) (2^(min ((32:Int)).toNat 64))))),U (C4 ((bor .u64 (C4 (i*2^(min (C4 a).toNat 64))) (Int.fdiv f (2^(min (C4 ((64:Int)-(C4 a))).toNat 64))))-(C4 ((C4 (Int.tdiv (bor .u64 (C4 (i*2^(min (C4 a).toNat 64))) (Int.fdiv f (2^(min (C4 ((64:Int)-(C4 a))).toNat 64)))) (Int.fdiv (C4 (c*2^(min (C4 a).toNat 64))) (2^(min ((32:Int)).toNat 64)))))*(Int.fdiv (C4 (c*2^(min (C4 a).toNat 64))) (2^(min ((32:Int)).toNat 64)))))))] n/\
 ∀ (b:Int) (d:Int),∀ e,j [U b,U d] e->∃ (k:List Value->Heap->Prop),(Br (decide (b>=(4294967296:Int))) (k [] e)
 (Br (decide ((C4 (b*(Uz .u64 (C4 (c*2^(min (C4 a).toNat 64))) (4294967295:Int))))>(C4 ((C4 ((4294967296:Int)*d))+(Int.fdiv (C4 (f*2^(min (C4 a).toNat 64))) (2^(min ((32:Int)).toNat 64))))))) (k [] e)
 (l [U b] e)))/\
 ∀ g,k [] g->Br (decide ((C4 (d+(Int.fdiv (C4 (c*2^(min (C4 a).toNat 64))) (2^(min ((32:Int)).toNat 64)))))>=(4294967296:Int))) (l [U (C4 (b-1))] g)
 (j [U (C4 (b-1)),U (C4 (d+(Int.fdiv (C4 (c*2^(min (C4 a).toNat 64))) (2^(min ((32:Int)).toNat 64)))))] g/\m [U (C4 (b-1)),U (C4 (d+(Int.fdiv (C4 (c*2^(min (C4 a).toNat 64))) (2^(min ((32:Int)).toNat 64)))))] g<m [U b,U d] e)
def Yp(P:Program)(i:Int)(d:Int)(b:Int)(a:Int)(j:Int)(m:List Value->Heap->Prop)(o:Heap):Prop:=
 ∃ (k:List Value->Heap->Prop) (n:List Value->Heap->Nat),k [U (C4 ((C4 ((C4 ((C4 ((bor .u64 (C4 (i*2^(min (C4 a).toNat 64))) (Int.fdiv d (2^(min (C4 ((64:Int)-(C4 a))).toNat 64))))*(4294967296:Int)))+(Int.fdiv (C4 (d*2^(min (C4 a).toNat 64))) (2^(min ((32:Int)).toNat 64)))))-(C4 (j*(C4 (b*2^(min (C4 a).toNat 64)))))))-(C4 ((C4 (Int.tdiv (C4 ((C4 ((C4 ((bor .u64 (C4 (i*2^(min (C4 a).toNat 64))) (Int.fdiv d (2^(min (C4 ((64:Int)-(C4 a))).toNat 64))))*(4294967296:Int)))+(Int.fdiv (C4 (d*2^(min (C4 a).toNat 64))) (2^(min ((32:Int)).toNat 64)))))-(C4 (j*(C4 (b*2^(min (C4 a).toNat 64))))))) (Int.fdiv (C4 (b*2^(min (C4 a).toNat 64))) (2^(min ((32:Int)).toNat 64)))))*(Int.fdiv (C4 (b*2^(min (C4 a).toNat 64))) (2^(min ((32:Int)).toNat 64))))))),U (C4 (Int.tdiv (C4 ((C4 ((C4 ((bor .u64 (C4 (i*2^(min (C4 a).toNat 64))) (Int.fdiv d (2^(min (C4 ((64:Int)-(C4 a))).toNat 64))))*(4294967296:Int)))+(Int.fdiv (C4 (d*2^(min (C4 a).toNat 64))) (2^(min ((32:Int)).toNat 64)))))-(C4 (j*(C4 (b*2^(min (C4 a).toNat 64))))))) (Int.fdiv (C4 (b*2^(min (C4 a).toNat 64))) (2^(min ((32:Int)).toNat 64)))))] o/\
 ∀ (e:Int) (c:Int),∀ f,k [U e,U c] f->∃ (l:List Value->Heap->Prop),(Br (decide (c>=(4294967296:Int))) (l [] f)
 (Br (decide ((C4 (c*(Uz .u64 (C4 (b*2^(min (C4 a).toNat 64))) (4294967295:Int))))>(C4 ((C4 ((4294967296:Int)*e))+(Uz .u64 (C4 (d*2^(min (C4 a).toNat 64))) (4294967295:Int)))))) (l [] f)
 (m [U c] f)))/\
 ∀ g,l [] g->Br (decide ((C4 (e+(Int.fdiv (C4 (b*2^(min (C4 a).toNat 64))) (2^(min ((32:Int)).toNat 64)))))>=(4294967296:Int))) (m [U (C4 (c-1))] g)
 (k [U (C4 (e+(Int.fdiv (C4 (b*2^(min (C4 a).toNat 64))) (2^(min ((32:Int)).toNat 64))))),U (C4 (c-1))] g/\n [U (C4 (e+(Int.fdiv (C4 (b*2^(min (C4 a).toNat 64))) (2^(min ((32:Int)).toNat 64))))),U (C4 (c-1))] g<n [U e,U c] f)
def Yr(P:Program)(f:Int)(b:Int)(c:Int)(K:Value->Heap->Prop)(a:Int)(d:Int)(e:Int)(g:Heap):Prop:=
 Br (decide (C4 a<0)) False
 (K (.tuple #[U (C4 ((C4 (d*(4294967296:Int)))+e)),U (Int.fdiv (C4 ((C4 ((C4 ((C4 ((C4 ((C4 ((bor .u64 (C4 (f*2^(min (C4 a).toNat 64))) (Int.fdiv b (2^(min (C4 ((64:Int)-(C4 a))).toNat 64))))*(4294967296:Int)))+(Int.fdiv (C4 (b*2^(min (C4 a).toNat 64))) (2^(min ((32:Int)).toNat 64)))))-(C4 (d*(C4 (c*2^(min (C4 a).toNat 64)))))))*(4294967296:Int)))+(Uz .u64 (C4 (b*2^(min (C4 a).toNat 64))) (4294967295:Int))))-(C4 (e*(C4 (c*2^(min (C4 a).toNat 64))))))) (2^(min (C4 a).toNat 64)))]) g)
def Ys(P:Program)(c:Int)(d:Int)(a:Int)(K:Value->Heap->Prop)(b:Int)(e:Int)(j:Heap):Prop:=
 Br (decide (Int.fdiv (C4 (a*2^(min (C4 b).toNat 64))) (2^(min ((32:Int)).toNat 64))=0)) False
 (∃ (f:List Value->Heap->Prop),(Yp P c d a b e f j)/\
 ∀ (g:Int),∀ i,f [U g] i->Yr P c d a K b e g i)
def B0y(P:Program)(c:Int)(d:Int)(a:Int)(h:Heap)(K:Value->Heap->Prop):Prop:=
 Br (a==(0:Int)) (∃ (i:Value),h.cell? (⟨0,0,none⟩)=some (i)/\False)
 (Br (decide (a<=c)) (∃ (j:Value),h.cell? (⟨1,0,none⟩)=some (j)/\False)
 (Br (c==(0:Int)) (Br (decide (a=0)) False
 (Br (decide (a=0)) False
 (K (.tuple #[U (C4 (Int.tdiv d a)),U (Int.tmod d a)]) h)))
 (FCall P I8 #[U a] h (fun k l=>∃ (b:Int),k=I b/\Br (decide (C4 b<0)) False
 (Br (decide (C4 b<0)) False
 (Br (decide (C4 ((64:Int)-(C4 b))<0)) False
 (Br (decide (C4 b<0)) False
 (Br (decide (Int.fdiv (C4 (a*2^(min (C4 b).toNat 64))) (2^(min ((32:Int)).toNat 64))=0)) False
 (∃ (e:List Value->Heap->Prop),(Yq P c d a b e l)/\
 ∀ (f:Int),∀ g,e [U f] g->Ys P c d a K b f g)))))))))
theorem A7d(a:Int)(b:Int)(d:Int)(hvc:B0y Tryz.prog a b d h K):FCall Tryz.prog Dg #[U a,U b,U d] h K:=
 B8 Tryz.func203 (c:=C2 Tryz.f203) (by kernel_rfl) (rs:=[.tmp 6,.tmp 7]) (by kernel_rfl) (fa:=⟨[(17,⟨[15,16],[],[.int .u64 0,.int .u64 0],⟨([15,16]++Lrg 67 19),[]⟩⟩),(24,⟨[16,18],[],[.int .u64 0,.int .u64 0],⟨([16,18]++Lrg 102 19),[]⟩⟩)],[(18,⟨[],[],[],⟨(Lrg 67 12),[]⟩⟩),(21,⟨[15],[],[.int .u64 0],⟨([15,16]++Lrg 67 19),[]⟩⟩),(25,⟨[],[],[],⟨(Lrg 102 12),[]⟩⟩),(28,⟨[18],[],[.int .u64 0],⟨([16,18]++Lrg 102 19),[]⟩⟩)],[(6,((Lrg 0 8),[[],[],[0,1],[],[],[3,4],[0,1,2],[0,1,2,3,4,5,6]]))],[],[]⟩)
  (cfg:=⟨135,[],none,[226],[],false⟩) (args:=[U a,U b,U d]) (by kernel_rfl) (B0 Tryz.call226 Bodies.nil) (Eq.mp (by kernel_rfl) hvc)
def B0w(P:Program)(a:Int)(b:Int)(h:Heap)(K:Value->Heap->Prop):Prop:=
 K (.tuple #[U (C4 ((C4 ((C4 ((Int.fdiv a (2^(min ((32:Int)).toNat 64)))*(Int.fdiv b (2^(min ((32:Int)).toNat 64)))))+(Int.fdiv (C4 ((C4 ((Int.fdiv a (2^(min ((32:Int)).toNat 64)))*(Uz .u64 b (4294967295:Int))))+(Int.fdiv (C4 ((Uz .u64 a (4294967295:Int))*(Uz .u64 b (4294967295:Int)))) (2^(min ((32:Int)).toNat 64))))) (2^(min ((32:Int)).toNat 64)))))+(Int.fdiv (C4 ((Uz .u64 (C4 ((C4 ((Int.fdiv a (2^(min ((32:Int)).toNat 64)))*(Uz .u64 b (4294967295:Int))))+(Int.fdiv (C4 ((Uz .u64 a (4294967295:Int))*(Uz .u64 b (4294967295:Int)))) (2^(min ((32:Int)).toNat 64))))) (4294967295:Int))+(C4 ((Uz .u64 a (4294967295:Int))*(Int.fdiv b (2^(min ((32:Int)).toNat 64))))))) (2^(min ((32:Int)).toNat 64))))),U (C4 (a*b))]) h
theorem A7b(a:Int)(b:Int)(hvc:B0w Tryz.prog a b h K):FCall Tryz.prog Df #[U a,U b] h K:=
 B8 Tryz.func198 (c:=C2 Tryz.f198) (by kernel_rfl) (rs:=[.tmp 4,.tmp 5]) (by kernel_rfl) (fa:=⟨[],[],[],[],[]⟩)
  (cfg:=⟨51,[],none,[],[],false⟩) (args:=[U a,U b]) (by kernel_rfl) Bodies.nil (Eq.mp (by kernel_rfl) hvc)
def Fv(P:Program)(b:Int)(h:Heap)(K:Value->Heap->Prop):Prop:=
 FCall P Nv #[U b] h (fun c d=>∃ (a:Int),c=I a/\K (I (B4 ((64:Int)-a))) d)
theorem Kk(a:Int)(hvc:Fv Tryz.prog a h K):FCall Tryz.prog I8 #[U a] h K:=
 B8 Tryz.func226 (c:=C2 Tryz.f226) (by kernel_rfl) (rs:=[.tmp 2]) (by kernel_rfl) (fa:=⟨[],[],[],[],[]⟩)
  (cfg:=⟨6,[],none,[239],[],false⟩) (args:=[U a]) (by kernel_rfl) (B0 Tryz.call239 Bodies.nil) (Eq.mp (by kernel_rfl) hvc)
def Dw(P:Program)(a:Int)(h:Heap)(K:Value->Heap->Prop):Prop:=
 Br (a==(0:Int)) (K (I 64) h)
 ((0<=Int.fdiv (C4 ((Uz .u64 a (C4 (0-a)))*(285870213051353865:Int))) (2^(min ((58:Int)).toNat 64))/\Int.fdiv (C4 ((Uz .u64 a (C4 (0-a)))*(285870213051353865:Int))) (2^(min ((58:Int)).toNat 64))<(64:Int))/\∃ (b:Int),h.cell? (Addr.add (⟨3,0,none⟩) ((Int.fdiv (C4 ((Uz .u64 a (C4 (0-a)))*(285870213051353865:Int))) (2^(min ((58:Int)).toNat 64))).toNat*1))=some (Y b)/\K (I (B4 b)) h)
theorem Ic(a:Int)(hvc:Dw Tryz.prog a h K):FCall Tryz.prog K0 #[U a] h K:=
 B8 Tryz.func231 (c:=C2 Tryz.f231) (by kernel_rfl) (rs:=[.tmp 2]) (by kernel_rfl) (fa:=⟨[],[],[],[],[]⟩)
  (cfg:=⟨14,[],none,[],[],false⟩) (args:=[U a]) (by kernel_rfl) Bodies.nil (Eq.mp (by kernel_rfl) hvc)
def A1b:ByteArray:={ data:=#[0,1,2,2,3,3,3,3,4,4,4,4,4,4,4,4,5,5,5,5,5,5,5,5,5,5,5,5,5,5,5,5,6,6,6,6,6,6,6,6,6,6,6,6,6,6,6,6,6,6,6,6,6,6,6,6,6,6,6,6,6,6,6,6,7,7,7,7,7,7,7,7,7,7,7,7,7,7,7,7,7,7,7,7,7,7,7,7,7,7,7,7,7,7,7,7,7,7,7,7,7,7,7,7,7,7,7,7,7,7,7,7,7,7,7,7,7,7,7,7,7,7,7,7,7,7,7,7,8,8,8,8,8,8,8,8,8,8,8,8,8,8,8,8,8,8,8,8,8,8,8,8,8,8,8,8,8,8,8,8,8,8,8,8,8,8,8,8,8,8,8,8,8,8,8,8,8,8,8,8,8,8,8,8,8,8,8,8,8,8,8,8,8,8,8,8,8,8,8,8,8,8,8,8,8,8,8,8,8,8,8,8,8,8,8,8,8,8,8,8,8,8,8,8,8,8,8,8,8,8,8,8,8,8,8,8,8,8,8,8,8,8,8,8,8,8,8,8,8,8,8,8,8,8,8,8] }
def B0x(P:Program)(c:Int)(h:Heap)(K:Value->Heap->Prop):Prop:=
 ∃ (d:List Value->Heap->Prop),(Br (decide (c>=(4294967296:Int))) (d [U (Int.fdiv c (2^(min ((32:Int)).toNat 64))),I 32] h)
 (d [U c,I 0] h))/\
 ∀ (a:Int) (e:Int),∀ k,d [U a,I e] k->∃ (f:List Value->Heap->Prop),(Br (decide (a>=(65536:Int))) (f [U (Int.fdiv a (2^(min ((16:Int)).toNat 64))),I (B4 (e+16))] k)
 (f [U a,I e] k))/\
 ∀ (b:Int) (g:Int),∀ l,f [U b,I g] l->∃ (i:List Value->Heap->Prop),(Br (decide (b>=(256:Int))) (i [U (Int.fdiv b (2^(min ((8:Int)).toNat 64))),I (B4 (g+8))] l)
 (i [U b,I g] l))/\
 ∀ (j:Int) (m:Int),∀ o,i [U j,I m] o->∃ (n:UInt8),(0<=wu8 j/\((A1b:ByteArray))[(wu8 j).toNat]? = some n)/\K (I (B4 (m+(B4 ((n.toNat:Nat):Int))))) o
theorem A7c(a:Int)(hvc:B0x Tryz.prog a h K):FCall Tryz.prog Nv #[U a] h K:=
 B8 Tryz.func239 (c:=C2 Tryz.f239) (by kernel_rfl) (rs:=[.tmp 2]) (by kernel_rfl) (fa:=⟨[],[(4,⟨[0,2],[],[.int .u64 0,.int .i64 0],⟨[0,2,3,4,5,6],[]⟩⟩),(7,⟨[0,2],[],[.int .u64 0,.int .i64 0],⟨[0,2,7,8,9,10,11,12],[]⟩⟩),(10,⟨[0,2],[],[.int .u64 0,.int .i64 0],⟨[0,2,13,14,15,16,17,18],[]⟩⟩)],[],[],[]⟩)
  (cfg:=⟨25,[],none,[],[],false⟩) (args:=[U a]) (by kernel_rfl) Bodies.nil (Eq.mp (by kernel_rfl) hvc)
theorem A3k:B6m Tryz.prog P9 (fun a=>do
 let (x,y,c)<-Extern.MathBitsCarry.three "Add64" a
 pure (Extern.MathBitsCarry.pair ((x+y+c)%Extern.MathBitsCarry.m64) ((x+y+c)/Extern.MathBitsCarry.m64))):=⟨Tryz.f211,Tryz.func211,by kernel_rfl,by kernel_rfl,by kernel_rfl,by kernel_rfl⟩
theorem A3i:B6m Tryz.prog Z1 (fun a=>do
 let (x,y,c)<-Extern.MathBitsCarry.three "Sub64" a
 pure (Extern.MathBitsCarry.pair ((x+Extern.MathBitsCarry.m64-y-c)%Extern.MathBitsCarry.m64) (if x<y+c then 1 else 0))):=⟨Tryz.f230,Tryz.func230,by kernel_rfl,by kernel_rfl,by kernel_rfl,by kernel_rfl⟩
def B7p(P:Program)(c:Int)(d:Int)(h:Heap)(K:Value->Heap->Prop):Prop:=
 FCall P Df #[U c,U d] h (fun e f=>∃ (a:Int) (b:Int),e= .tuple #[U a,U b]/\K (.tuple #[U a,U b]) f)
theorem B2s(a:Int)(b:Int)(hvc:B7p Tryz.prog a b h K):FCall Tryz.prog A1k #[U a,U b] h K:=
 B8 Tryz.func165 (c:=C2 Tryz.f165) (by kernel_rfl) (rs:=[.tmp 4,.tmp 5]) (by kernel_rfl) (fa:=⟨[],[],[],[],[]⟩)
  (cfg:=⟨30,[],none,[198],[],false⟩) (args:=[U a,U b]) (by kernel_rfl) (B0 Tryz.call198 Bodies.nil) (Eq.mp (by kernel_rfl) hvc)
def B0e(P:Program)(a:OA)(i j:Nat)(h:Heap)(K:Value->Heap->Prop):Prop:=
 Br (Option.isNone a) (K (.slice none 0 0) h)
 (wpH P (Instr.buildSlice 92 0 #[]) (fun k l=>∃ (b:OA) (c d:Nat),k= .slice b c d/\wpH P (Builtin.append_ #[92,92] 92 #[.slice b c d,.slice a i j]) (fun m n=>∃ (e:OA) (f g:Nat),m= .slice e f g/\K (.slice e f g) n) l) h)
theorem A6j(a:OA)(b d:Nat)(hvc:B0e Tryz.prog a b d h K):FCall Tryz.prog Cz #[.slice a b d] h K:=
 B8 Tryz.func205 (c:=C2 Tryz.f205) (by kernel_rfl) (rs:=[.tmp 2]) (by kernel_rfl) (fa:=⟨[],[],[],[],[]⟩)
  (cfg:=⟨8,[],none,[],[],false⟩) (args:=[.slice a b d]) (by kernel_rfl) Bodies.nil (Eq.mp (by kernel_rfl) hvc)
def A6h(P:Program)(p:OA)(j q:Nat)(k:Int)(h:Heap)(K:Value->Heap->Prop):Prop:=
 Br (decide (k<(0:Int))) (False)
 (FCall P A1k #[U (C4 (j:Int)),U (C4 k)] h (fun r s=>∃ (l:Int) (e:Int),r= .tuple #[U l,U e]/\Br (decide (l>(0:Int))) (False)
 (Br (decide (e>(9223372036854775807:Int))) (False)
 (wpH P (Instr.makeSlice 92 (I (B4 e)) (I (B4 e))) (fun t u=>∃ (d:OA) (c b:Nat),t= .slice d c b/\wpH P (Builtin.copy_ #[92,92] 3 #[.slice d c b,.slice p j q]) (fun v w=>∃ (m:Int),v=I m/\∃ (g:List Value->Heap->Prop) (n:List Value->Heap->Nat),g [I m] w/\
 ∀ (a:Int),∀ f,g [I a] f->Br (decide (a<(c:Int))) ((0<=a/\a<=(c:Int))/\(0<=a/\a<=(b:Int))/\wpH P (Builtin.copy_ #[92,92] 3 #[.slice (J4 d b (a.toNat) 1) (c-(a.toNat)) (b-(a.toNat)),.slice (J4 d b 0 1) ((a.toNat)-0) (b-0)]) (fun x o=>∃ (i:Int),x=I i/\g [I (B4 (a+i))] o/\n [I (B4 (a+i))] o<n [I a] f) f)
 (K (.slice d c b) f)) u) s))))
theorem A3a(a:OA)(b d:Nat)(e:Int)(hvc:A6h Tryz.prog a b d e h K):FCall Tryz.prog Pj #[.slice a b d,I e] h K:=
 B8 Tryz.func254 (c:=C2 Tryz.f254) (by kernel_rfl) (rs:=[.tmp 4]) (by kernel_rfl) (fa:=⟨[(8,⟨[8],[],[.int .i64 0],⟨([8]++Lrg 34 13),[]⟩⟩)],[],[(9,((Lrg 0 10),[[],[],[],[1,2],[],[],[4,5],[1,2,3,4,5,6],(Lrg 0 8),(Lrg 0 9)]))],[],[]⟩)
  (cfg:=⟨48,[],none,[165],[],false⟩) (args:=[.slice a b d,I e]) (by kernel_rfl) (B0 Tryz.call165 Bodies.nil) (Eq.mp (by kernel_rfl) hvc)
def B0v(P:Program)(b:Int)(c:Int)(h:Heap)(K:Value->Heap->Prop):Prop:=
 FCall P Gk #[I b] h (fun f g=>∃ (e:Bool),f= .bool e/\FCall P Gk #[I c] g (fun i a=>∃ (d:Bool),i= .bool d/\Br e (Br d (K (I 0) a)
 (K (I (-1:Int)) a))
 (Br d (K (I 1) a)
 (Br (decide (b<c)) (K (I (-1:Int)) a)
 (Br (decide (b>c)) (K (I 1) a)
 (K (I 0) a))))))
theorem A79(a:Int)(b:Int)(hvc:B0v Tryz.prog a b h K):FCall Tryz.prog Up #[I a,I b] h K:=
 B8 Tryz.func212 (c:=C2 Tryz.f212) (by kernel_rfl) (rs:=[.tmp 4]) (by kernel_rfl) (fa:=⟨[],[],[],[],[]⟩)
  (cfg:=⟨20,[],none,[233],[],false⟩) (args:=[I a,I b]) (by kernel_rfl) (B0 Tryz.call233 Bodies.nil) (Eq.mp (by kernel_rfl) hvc)
def A22(P:Program)(a:Int)(h:Heap)(K:Value->Heap->Prop):Prop:=
 K (.bool (a != a)) h
theorem A0s(a:Int)(hvc:A22 Tryz.prog a h K):FCall Tryz.prog Gk #[I a] h K:=
 B8 Tryz.func233 (c:=C2 Tryz.f233) (by kernel_rfl) (rs:=[.tmp 2]) (by kernel_rfl) (fa:=⟨[],[],[],[],[]⟩)
  (cfg:=⟨6,[],none,[],[],false⟩) (args:=[I a]) (by kernel_rfl) Bodies.nil (Eq.mp (by kernel_rfl) hvc)
def Yn(P:Program)(b:Int)(c:Int)(h:Heap)(K:Value->Heap->Prop):Prop:=
 FCall P Y9 #[U b] h (fun f g=>∃ (e:Bool),f= .bool e/\FCall P Y9 #[U c] g (fun i a=>∃ (d:Bool),i= .bool d/\Br e (Br d (K (I 0) a)
 (K (I (-1:Int)) a))
 (Br d (K (I 1) a)
 (Br (decide (b<c)) (K (I (-1:Int)) a)
 (Br (decide (b>c)) (K (I 1) a)
 (K (I 0) a))))))
theorem Ym(a:Int)(b:Int)(hvc:Yn Tryz.prog a b h K):FCall Tryz.prog Hu #[U a,U b] h K:=
 B8 Tryz.func213 (c:=C2 Tryz.f213) (by kernel_rfl) (rs:=[.tmp 4]) (by kernel_rfl) (fa:=⟨[],[],[],[],[]⟩)
  (cfg:=⟨20,[],none,[234],[],false⟩) (args:=[U a,U b]) (by kernel_rfl) (B0 Tryz.call234 Bodies.nil) (Eq.mp (by kernel_rfl) hvc)
def Qt(P:Program)(a:Int)(h:Heap)(K:Value->Heap->Prop):Prop:=
 K (.bool (a != a)) h
theorem Rp(a:Int)(hvc:Qt Tryz.prog a h K):FCall Tryz.prog Y9 #[U a] h K:=
 B8 Tryz.func234 (c:=C2 Tryz.f234) (by kernel_rfl) (rs:=[.tmp 2]) (by kernel_rfl) (fa:=⟨[],[],[],[],[]⟩)
  (cfg:=⟨6,[],none,[],[],false⟩) (args:=[U a]) (by kernel_rfl) Bodies.nil (Eq.mp (by kernel_rfl) hvc)
end Go.Proofs.YthilnfgnpdeofaaGreatDoor
