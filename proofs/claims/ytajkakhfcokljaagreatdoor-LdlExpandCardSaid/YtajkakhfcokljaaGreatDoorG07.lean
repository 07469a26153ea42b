/-
  Texts of this proof, merged by a program of ours.
-/
import Derived.Test.YtajkakhfcokljaaGreatDoorProg
import Derived.Test.YtajkakhfcokljaaGreatDoorG05
import Derived.Test.YtajkakhfcokljaaGreatDoorG06
open Go.Proofs.Tryz
set_option linter.all false
open _root_.Go.Builtin renaming append_->C3a,copy_->C3c
open _root_.ByteArray renaming size->C35
open _root_.Go.Extern.MathBitsCarry renaming m64->C3d,three->C3e,pair->C3f
open _root_.Go.Instr renaming storeAt->C37,buildSlice->C38,makeSlice->C39
open Int renaming tdiv->C34,fdiv->C36,tmod->C3b
namespace Go.Proofs.YtajkakhfcokljaaGreatDoor
open Go
set_option maxRecDepth 100000
variable {h:Heap} {K:VP}
abbrev H9:Nat:=200
abbrev U6:Nat:=194
abbrev I5:Nat:=201
abbrev R8:Nat:=233
abbrev S3:Nat:=231
abbrev P0:Nat:=222
abbrev I9:Nat:=223
abbrev R6:Nat:=259
abbrev Ak:Nat:=264
abbrev Al:Nat:=227
abbrev S2:Nat:=267
abbrev D4:Nat:=203
abbrev Bh:Nat:=232
abbrev Dz:Nat:=265
abbrev Y8:Nat:=160
abbrev O2:Nat:=219
abbrev I4:Nat:=246
abbrev Jd:Nat:=266
abbrev Bi:Nat:=260
abbrev R7:Nat:=261
abbrev Jc:Nat:=263
abbrev Bj:Nat:=245
abbrev S5:Nat:=262
abbrev S4:Nat:=269
abbrev Ni:Nat:=221
abbrev Dy:Nat:=180
abbrev Jb:Nat:=218
abbrev L7:Nat:=247
abbrev W9:Nat:=197
abbrev Ru:Nat:=139
abbrev Hr:Nat:=114
abbrev Dx:Nat:=179
abbrev L3:Nat:=216
abbrev L6:Nat:=244
abbrev V8:Nat:=198
abbrev G2:Nat:=226
abbrev S6:Nat:=250
abbrev Am:Nat:=199
abbrev Q5:Nat:=202
abbrev Xi:Nat:=147
abbrev Fx:Nat:=150
abbrev Rp:Nat:=149
abbrev Rq:Nat:=184
abbrev G0:Nat:=138
abbrev V7:Nat:=116
abbrev Xj:Nat:=192
abbrev Kr:Nat:=145
abbrev C1y:Nat:=183
abbrev Om:Nat:=154
abbrev Rr:Nat:=195
abbrev Kq:Nat:=140
abbrev B7r:Nat:=85
abbrev Rs:Nat:=115
abbrev A8z:Nat:=193
abbrev B8t:Nat:=286
abbrev C20:Nat:=287
abbrev S7:Nat:=152
abbrev Eb:Nat:=196
abbrev Pz:Nat:=153
abbrev Xk:Nat:=220
abbrev Ej:Nat:=206
abbrev Ei:Nat:=190
abbrev J4:Nat:=239
abbrev L4:Nat:=249
abbrev Qf:Nat:=254
abbrev R2:Nat:=228
abbrev At:Nat:=248
abbrev A96:Nat:=134
abbrev Ea:Nat:=217
abbrev Rt:Nat:=270
abbrev Xz:Nat:=229
abbrev Hv:Nat:=251
abbrev Jg:Nat:=230
abbrev As:Nat:=252
abbrev V3:Nat:=100
abbrev C1:Nat:=130
theorem O6:SliceT prog V3 C1 (U 0) 1 8:=⟨by kernel_rfl,by kernel_rfl,rfl,by decide⟩
theorem F2:prog.cellsOf C1=1/\(prog.info? C1).isSome=true:=⟨by kernel_rfl,by kernel_rfl⟩
abbrev A7b:Nat:=137
abbrev Do:Nat:=100
theorem A3z:SliceT prog A7b Do (.slice none 0 0) 1 24:=⟨by kernel_rfl,by kernel_rfl,rfl,by decide⟩
def B9f(P:Program)(d:OA)(f c:Nat)(h:Heap)(K:VP):Prop:=
 ∃ (e:LP) (g:LN),e [I (f:Int)] h/\
 ∀ a b,e [I a] b->Br (decide (a>(0:Int))) (∃ i,d=some i/\0<=B5 (a-1)/\B5 (a-1)<(f:Int)/\∃ j,b.cell? (i.add ((B5 (a-1)).toNat*1))=some (U j)/\Br (j==(0:Int)) (e [I (B5 (a-1))] b/\g [I (B5 (a-1))] b<g [I a] b)
 ((0<=a/\a<=(c:Int))/\K (.slice (K0 d c 0 1) ((a.toNat)-0) (c-0)) b))
 ((0<=a/\a<=(c:Int))/\K (.slice (K0 d c 0 1) ((a.toNat)-0) (c-0)) b)
theorem B3e a b c(hvc:B9f prog a b c h K):FCall prog H9 #[.slice a b c] h K:=
 C8 bod func200 [.tmp 2] { loops:=[(2,⟨[3],[],[.int .i64 0],⟨([3]++Lrg 6 12),[]⟩⟩)] } 21 [] [] [] (by kernel_rfl) hvc
def A18(P:Program)(a:Int)(h:Heap)(K:VP):Prop:=
 Br (a==(0:Int)) (K (.slice none 0 0) h)
 (wpH P (C38 100 1 #[(0,U a)]) (fun e f=>∃ (b:OA) (c d:Nat),e= .slice b c d/\K (.slice b c d) f) h)
theorem A17 a(hvc:A18 prog a h K):FCall prog U6 #[U a] h K:=
 C8 bod func194 [.tmp 2] an0 7 [] [] [] (by kernel_rfl) hvc
def Lx(P:Program)(f:OA)(c x:Nat)(g:OA)(d y:Nat)(h:Heap)(K:VP):Prop:=
 Br ((c:Int) != (d:Int)) (FCall P Xz #[I (c:Int),I (d:Int)] h (fun u v=>∃ k,u=I k/\K (I k) v))
 (∃ (e:LP) (i:LN),e [I (B5 ((c:Int)-1))] h/\
 ∀ a b,e [I a] b->Br (decide (a>=(0:Int))) (∃ l,f=some l/\0<=a/\a<(c:Int)/\∃ m,b.cell? (l.add (a.toNat*1))=some (U m)/\∃ n,g=some n/\0<=a/\a<(d:Int)/\∃ o,b.cell? (n.add (a.toNat*1))=some (U o)/\Br (m != o) (∃ p,f=some p/\0<=a/\a<(c:Int)/\∃ q,b.cell? (p.add (a.toNat*1))=some (U q)/\∃ r,g=some r/\0<=a/\a<(d:Int)/\∃ s,b.cell? (r.add (a.toNat*1))=some (U s)/\FCall P Jg #[U q,U s] b (fun w j=>∃ t,w=I t/\Heap.le b j/\K (I t) j))
 (e [I (B5 (a-1))] b/\i [I (B5 (a-1))] b<i [I a] b))
 (K (I 0) b))
theorem Pr a b c d e f(hvc:Lx prog a b c d e f h K):FCall prog I5 #[.slice a b c,.slice d e f] h K:=
 C8 bod func201 [.tmp 4] { loops:=[(4,⟨[5],[],[.int .i64 0],⟨([4,5]++Lrg 19 22),[]⟩⟩)] } 41 [] [229,230] [] (by kernel_rfl) hvc
def A53(P:Program)(f:OA)(e H:Nat)(C:OA)(j J:Nat)(h:Heap)(K:VP):Prop:=
 ∃ (k:LP) (o:LN),k [U 0,I 0] h/\
 ∀ g a c,k [U g,I a] c->Br (decide (a<(j:Int))) (∃ u,C=some u/\0<=a/\a<(j:Int)/\∃ v,c.cell? (u.add (a.toNat*1))=some (U v)/\∃ w,f=some w/\0<=a/\a<(e:Int)/\∃ x,c.cell? (w.add (a.toNat*1))=some (U x)/\ECall P R2 #[U x,U v,U g] c (fun D E=>∃ (p:Int) (l:Int),D= .tuple #[U p,U l]/\∃ y,f=some y/\0<=a/\a<(e:Int)/\wpH P (C37 130 (.pointer (some (y.add (a.toNat*1)))) (U p)) (fun _ s=>k [U l,I (B5 (a+1))] s/\o [U l,I (B5 (a+1))] s<o [U g,I a] c) E))
 (∃ (m:LP) (q:LN),m [U g,I (j:Int)] c/\
 ∀ i b d,m [U i,I b] d->Br (i != (0:Int)) (Br (decide (b<(e:Int))) (∃ z,f=some z/\0<=b/\b<(e:Int)/\∃ A,d.cell? (z.add (b.toNat*1))=some (U A)/\ECall P R2 #[U A,U 0,U i] d (fun F G=>∃ (r:Int) (n:Int),F= .tuple #[U r,U n]/\∃ B,f=some B/\0<=b/\b<(e:Int)/\wpH P (C37 130 (.pointer (some (B.add (b.toNat*1)))) (U r)) (fun _ t=>m [U n,I (B5 (b+1))] t/\q [U n,I (B5 (b+1))] t<q [U i,I b] d) G))
 (K (.tuple #[]) d))
 (K (.tuple #[]) d))
theorem A3h a b c d e f(hvc:A53 prog a b c d e f h K):FCall prog R8 #[.slice a b c,.slice d e f] h K:=
 C8 bod func233 [] { loops:=[(2,⟨[4,10],[],[.int .u64 0,.int .i64 0],⟨([4,5,6]++Lrg 10 19),[]⟩⟩),(7,⟨[4,7],[],[.int .u64 0,.int .i64 0],⟨([4,7]++Lrg 31 22),[]⟩⟩)] } 53 [] [] [] (by kernel_rfl) hvc
def Lo(P:Program)(f:OA)(e H:Nat)(C:OA)(j J:Nat)(h:Heap)(K:VP):Prop:=
 ∃ (k:LP) (o:LN),k [U 0,I 0] h/\
 ∀ g a c,k [U g,I a] c->Br (decide (a<(j:Int))) (∃ u,C=some u/\0<=a/\a<(j:Int)/\∃ v,c.cell? (u.add (a.toNat*1))=some (U v)/\∃ w,f=some w/\0<=a/\a<(e:Int)/\∃ x,c.cell? (w.add (a.toNat*1))=some (U x)/\ECall P At #[U x,U v,U g] c (fun D E=>∃ (p:Int) (l:Int),D= .tuple #[U p,U l]/\∃ y,f=some y/\0<=a/\a<(e:Int)/\wpH P (C37 130 (.pointer (some (y.add (a.toNat*1)))) (U p)) (fun _ s=>k [U l,I (B5 (a+1))] s/\o [U l,I (B5 (a+1))] s<o [U g,I a] c) E))
 (∃ (m:LP) (q:LN),m [U g,I (j:Int)] c/\
 ∀ i b d,m [U i,I b] d->Br (i != (0:Int)) (Br (decide (b<(e:Int))) (∃ z,f=some z/\0<=b/\b<(e:Int)/\∃ A,d.cell? (z.add (b.toNat*1))=some (U A)/\ECall P At #[U A,U 0,U i] d (fun F G=>∃ (r:Int) (n:Int),F= .tuple #[U r,U n]/\∃ B,f=some B/\0<=b/\b<(e:Int)/\wpH P (C37 130 (.pointer (some (B.add (b.toNat*1)))) (U r)) (fun _ t=>m [U n,I (B5 (b+1))] t/\q [U n,I (B5 (b+1))] t<q [U i,I b] d) G))
 (K (.tuple #[]) d))
 (K (.tuple #[]) d))
theorem Pl a b c d e f(hvc:Lo prog a b c d e f h K):FCall prog S3 #[.slice a b c,.slice d e f] h K:=
 C8 bod func231 [] { loops:=[(2,⟨[4,10],[],[.int .u64 0,.int .i64 0],⟨([4,5,6]++Lrg 10 19),[]⟩⟩),(7,⟨[4,7],[],[.int .u64 0,.int .i64 0],⟨([4,7]++Lrg 31 22),[]⟩⟩)] } 53 [] [] [] (by kernel_rfl) hvc
def A1c(P:Program)(m:OA)(e n:Nat)(o:OA)(f p:Nat)(h:Heap)(K:VP):Prop:=
 ∃ (g:LP),(Br (decide ((e:Int)<(f:Int))) (g [.slice o f p,.slice m e n] h)
 (g [.slice m e n,.slice o f p] h))/\
 ∀ j a k t i u l,g [.slice j a k,.slice t i u] l->Br ((i:Int)==(0:Int)) (K (.slice j a k) l)
 (wpH P (C39 100 (I (B5 ((a:Int)+1))) (I (B5 ((a:Int)+1)))) (fun v w=>∃ (b:OA) (c d:Nat),v= .slice b c d/\wpH P (C3c #[100,100] 3 #[.slice b c d,.slice j a k]) (fun x y=>∃ D,x=I D/\FCall P R8 #[.slice b c d,.slice t i u] y (fun z A=>z= .tuple #[]/\FCall P H9 #[.slice b c d] A (fun B C=>∃ (q:OA) (r s:Nat),B= .slice q r s/\K (.slice q r s) C))) w) l)
theorem A1b a b c d e f(hvc:A1c prog a b c d e f h K):FCall prog P0 #[.slice a b c,.slice d e f] h K:=
 C8 bod func222 [.tmp 4] { cuts:=[(3,⟨[0,1],[],[.slice none 0 0,.slice none 0 0],⟨[0,1,6,7,8,9,10,11,12],[]⟩⟩)] } 29 [] [200,233] [233] (by kernel_rfl) hvc
def Ij(P:Program)(d:OA)(e f:Nat)(l:OA)(g m:Nat)(h:Heap)(K:VP):Prop:=
 Br ((g:Int)==(0:Int)) (K (.slice d e f) h)
 (FCall P Ea #[.slice d e f] h (fun n o=>∃ (a:OA) (b c:Nat),n= .slice a b c/\FCall P S3 #[.slice a b c,.slice l g m] o (fun p q=>p= .tuple #[]/\FCall P H9 #[.slice a b c] q (fun r s=>∃ (i:OA) (j k:Nat),r= .slice i j k/\K (.slice i j k) s))))
theorem Nu a b c d e f(hvc:Ij prog a b c d e f h K):FCall prog I9 #[.slice a b c,.slice d e f] h K:=
 C8 bod func223 [.tmp 4] an0 17 [] [200,217,231] [231] (by kernel_rfl) hvc
def Vm(P:Program)(g:OA)(c k:Nat)(b:Int)(h:Heap)(K:VP):Prop:=
 Br ((c:Int)==(0:Int)) (K (.slice g c k) h)
 (Br (b==(0:Int)) (K (.slice g c k) h)
 (wpH P (C39 100 (I (B5 ((B5 ((c:Int)+(B5 (C0 (C34 b (64:Int))))))+1))) (I (B5 ((B5 ((c:Int)+(B5 (C0 (C34 b (64:Int))))))+1)))) (fun w x=>∃ (e:OA) (f l:Nat),w= .slice e f l/\∃ (i:LP) (m:LN),i [I 0] x/\
 ∀ a d,i [I a] d->Br (decide (a<(c:Int))) (∃ r,g=some r/\0<=a/\a<(c:Int)/\∃ j,d.cell? (r.add (a.toNat*1))=some (U j)/\∃ s,e=some s/\0<=B5 (a+(B5 (C0 (C34 b (64:Int)))))/\B5 (a+(B5 (C0 (C34 b (64:Int)))))<(f:Int)/\∃ t,d.cell? (s.add ((B5 (a+(B5 (C0 (C34 b (64:Int)))))).toNat*1))=some (U t)/\Br (decide (C3b b (64:Int)<0)) False
 (∃ u,e=some u/\0<=B5 (a+(B5 (C0 (C34 b (64:Int)))))/\B5 (a+(B5 (C0 (C34 b (64:Int)))))<(f:Int)/\wpH P (C37 130 (.pointer (some (u.add ((B5 (a+(B5 (C0 (C34 b (64:Int)))))).toNat*1)))) (U (bor .u64 t (C0 (j*2^(min (C3b b (64:Int)).toNat 64)))))) (fun _ y=>Br (decide (C0 ((64:Int)-(C3b b (64:Int)))<0)) False
 (∃ v,e=some v/\0<=B5 ((B5 (a+(B5 (C0 (C34 b (64:Int))))))+1)/\B5 ((B5 (a+(B5 (C0 (C34 b (64:Int))))))+1)<(f:Int)/\wpH P (C37 130 (.pointer (some (v.add ((B5 ((B5 (a+(B5 (C0 (C34 b (64:Int))))))+1)).toNat*1)))) (U (C36 j (2^(min (C0 ((64:Int)-(C3b b (64:Int)))).toNat 64))))) (fun _ q=>i [I (B5 (a+1))] q/\m [I (B5 (a+1))] q<m [I a] d) y)) d))
 (FCall P H9 #[.slice e f l] d (fun z A=>∃ (n:OA) (o p:Nat),z= .slice n o p/\K (.slice n o p) A))) h))
theorem Ym a b c d(hvc:Vm prog a b c d h K):FCall prog R6 #[.slice a b c,U d] h K:=
 C8 bod func259 [.tmp 4] { loops:=[(6,⟨[31],[],[.int .i64 0],⟨([8,9]++Lrg 31 27),[]⟩⟩)] } 60 [] [200] [] (by kernel_rfl) hvc
def Sr(P:Program)(k:OA)(c C:Nat)(b:Int)(h:Heap)(K:VP):Prop:=
 Br (decide ((C0 (C34 b (64:Int)))>=(C0 (c:Int)))) (K (.slice none 0 0) h)
 (wpH P (C39 100 (I (B5 ((c:Int)-(B5 (C0 (C34 b (64:Int))))))) (I (B5 ((c:Int)-(B5 (C0 (C34 b (64:Int)))))))) (fun y z=>∃ (f:OA) (d l:Nat),y= .slice f d l/\∃ (i:LP) (j:LN),i [I 0] z/\
 ∀ a e,i [I a] e->Br (decide (a<(d:Int))) (∃ q,k=some q/\0<=B5 (a+(B5 (C0 (C34 b (64:Int)))))/\B5 (a+(B5 (C0 (C34 b (64:Int)))))<(c:Int)/\∃ r,e.cell? (q.add ((B5 (a+(B5 (C0 (C34 b (64:Int)))))).toNat*1))=some (U r)/\Br (decide (C3b b (64:Int)<0)) False
 (∃ s,f=some s/\0<=a/\a<(d:Int)/\wpH P (C37 130 (.pointer (some (s.add (a.toNat*1)))) (U (C36 r (2^(min (C3b b (64:Int)).toNat 64))))) (fun _ g=>Br (decide ((B5 ((B5 (a+(B5 (C0 (C34 b (64:Int))))))+1))<(c:Int))) (∃ t,f=some t/\0<=a/\a<(d:Int)/\∃ u,g.cell? (t.add (a.toNat*1))=some (U u)/\∃ v,k=some v/\0<=B5 ((B5 (a+(B5 (C0 (C34 b (64:Int))))))+1)/\B5 ((B5 (a+(B5 (C0 (C34 b (64:Int))))))+1)<(c:Int)/\∃ w,g.cell? (v.add ((B5 ((B5 (a+(B5 (C0 (C34 b (64:Int))))))+1)).toNat*1))=some (U w)/\Br (decide (C0 ((64:Int)-(C3b b (64:Int)))<0)) False
 (∃ x,f=some x/\0<=a/\a<(d:Int)/\wpH P (C37 130 (.pointer (some (x.add (a.toNat*1)))) (U (bor .u64 u (C0 (w*2^(min (C0 ((64:Int)-(C3b b (64:Int)))).toNat 64)))))) (fun _ p=>i [I (B5 (a+1))] p/\j [I (B5 (a+1))] p<j [I a] e) g))
 (i [I (B5 (a+1))] g/\j [I (B5 (a+1))] g<j [I a] e)) e))
 (FCall P H9 #[.slice f d l] e (fun A B=>∃ (m:OA) (n o:Nat),A= .slice m n o/\K (.slice m n o) B))) h)
theorem Uc a b c d(hvc:Sr prog a b c d h K):FCall prog Ak #[.slice a b c,U d] h K:=
 C8 bod func264 [.tmp 4] { loops:=[(6,⟨[27],[],[.int .i64 0],⟨([8]++Lrg 27 38),[]⟩⟩)] } 67 [] [200] [] (by kernel_rfl) hvc
def Tc(P:Program)(i:OA)(j D:Nat)(w:OA)(k E:Nat)(x:Int)(h:Heap)(K:VP):Prop:=
 ∃ (d:LP) (l:LN),d [U 0,I 0] h/\
 ∀ c a b,d [U c,I a] b->Br (decide (a<(k:Int))) (∃ r,w=some r/\0<=a/\a<(k:Int)/\∃ s,b.cell? (r.add (a.toNat*1))=some (U s)/\FCall P Ei #[U s,U x] b (fun y z=>∃ (e:Int) (m:Int),y= .tuple #[U e,U m]/\ECall P R2 #[U m,U c,U 0] z (fun A p=>∃ (n:Int) (f:Int),A= .tuple #[U n,U f]/\∃ t,i=some t/\0<=a/\a<(j:Int)/\∃ u,p.cell? (t.add (a.toNat*1))=some (U u)/\ECall P R2 #[U u,U n,U 0] p (fun B C=>∃ (o:Int) (g:Int),B= .tuple #[U o,U g]/\∃ v,i=some v/\0<=a/\a<(j:Int)/\wpH P (C37 130 (.pointer (some (v.add (a.toNat*1)))) (U o)) (fun _ q=>d [U (C0 ((C0 (e+f))+g)),I (B5 (a+1))] q/\l [U (C0 ((C0 (e+f))+g)),I (B5 (a+1))] q<l [U c,I a] b) C))))
 (K (U c) b)
theorem Ug a b c d e f g(hvc:Tc prog a b c d e f g h K):FCall prog Al #[.slice a b c,.slice d e f,U g] h K:=
 C8 bod func227 [.tmp 6] { loops:=[(3,⟨[7,16],[],[.int .u64 0,.int .i64 0],⟨([7,8,9,10,11,12,13]++Lrg 16 36),[]⟩⟩)] } 53 [] [190] [] (by kernel_rfl) hvc
def Ez(P:Program)(i:OA)(j D:Nat)(w:OA)(k E:Nat)(x:Int)(h:Heap)(K:VP):Prop:=
 ∃ (d:LP) (l:LN),d [U 0,I 0] h/\
 ∀ c a b,d [U c,I a] b->Br (decide (a<(k:Int))) (∃ r,w=some r/\0<=a/\a<(k:Int)/\∃ s,b.cell? (r.add (a.toNat*1))=some (U s)/\FCall P Ei #[U s,U x] b (fun y z=>∃ (e:Int) (m:Int),y= .tuple #[U e,U m]/\ECall P R2 #[U m,U c,U 0] z (fun A p=>∃ (n:Int) (f:Int),A= .tuple #[U n,U f]/\∃ t,i=some t/\0<=a/\a<(j:Int)/\∃ u,p.cell? (t.add (a.toNat*1))=some (U u)/\ECall P At #[U u,U n,U 0] p (fun B C=>∃ (o:Int) (g:Int),B= .tuple #[U o,U g]/\∃ v,i=some v/\0<=a/\a<(j:Int)/\wpH P (C37 130 (.pointer (some (v.add (a.toNat*1)))) (U o)) (fun _ q=>d [U (C0 ((C0 (e+f))+g)),I (B5 (a+1))] q/\l [U (C0 ((C0 (e+f))+g)),I (B5 (a+1))] q<l [U c,I a] b) C))))
 (K (U c) b)
theorem Jh a b c d e f g(hvc:Ez prog a b c d e f g h K):FCall prog S2 #[.slice a b c,.slice d e f,U g] h K:=
 C8 bod func267 [.tmp 6] { loops:=[(3,⟨[7,16],[],[.int .u64 0,.int .i64 0],⟨([7,8,9,10,11,12,13]++Lrg 16 36),[]⟩⟩)] } 53 [] [190] [] (by kernel_rfl) hvc
def U9(P:Program)(K:VP)(s:OA)(b t:Nat)(u:OA)(g:Nat)(e:OA)(i d:Nat)(v:Heap):Prop:=
 ∃ (f:LP) (j:LN),f [I 0] v/\
 ∀ a c,f [I a] c->Br (decide (a<(g:Int))) (∃ o,u=some o/\0<=a/\a<(g:Int)/\∃ p,c.cell? (o.add (a.toNat*1))=some (U p)/\(0<=B5 (a+(b:Int))/\B5 (a+(b:Int))<=(d:Int))/\(0<=a/\a<=(((B5 (a+(b:Int))).toNat:Nat):Int))/\FCall P Al #[.slice (K0 e d (a.toNat) 1) (((B5 (a+(b:Int))).toNat)-(a.toNat)) (d-(a.toNat)),.slice s b t,U p] c (fun w x=>∃ q,w=U q/\∃ r,e=some r/\0<=B5 (a+(b:Int))/\B5 (a+(b:Int))<(i:Int)/\wpH P (C37 130 (.pointer (some (r.add ((B5 (a+(b:Int))).toNat*1)))) (U q)) (fun _ n=>f [I (B5 (a+1))] n/\j [I (B5 (a+1))] n<j [I a] c) x))
 (FCall P H9 #[.slice e i d] c (fun y z=>∃ (k:OA) (l m:Nat),y= .slice k l m/\K (.slice k l m) z))
def Cf(P:Program)(D:OA)(m E:Nat)(F:OA)(n G:Nat)(h:Heap)(K:VP):Prop:=
 ∃ (o:LP),(Br (decide ((m:Int)<(n:Int))) (o [.slice F n G,.slice D m E] h)
 (o [.slice D m E,.slice F n G] h))/\
 ∀ g a c i b d l,o [.slice g a c,.slice i b d] l->Br ((b:Int)==(0:Int)) (K (.slice none 0 0) l)
 (∃ (p:LP),(Br ((b:Int)==(1:Int)) (∃ b1,i=some b1/\0<=(0:Int)/\(0:Int)<(b:Int)/\∃ b2,l.cell? (b1.add (((0:Int)).toNat*1))=some (U b2)/\p [.bool (b2==(1:Int))] l)
 (p [.bool false] l))/\
 ∀ b3 j,p [.bool b3] j->Br b3 (K (.slice g a c) j)
 (Br (decide ((b:Int)<(40:Int))) (wpH P (C39 100 (I (B5 ((a:Int)+(b:Int)))) (I (B5 ((a:Int)+(b:Int))))) (fun b4 b5=>∃ (H:OA) (J L:Nat),b4= .slice H J L/\U9 P K g a c i b H J L b5) j)
 (Br (decide ((b:Int)<=(B5 (C34 (B5 ((a:Int)+1)) (2:Int))))) (FCall P Bh #[.slice g a c,.slice i b d] j (fun b6 b7=>∃ (M:OA) (N O:Nat),b6= .slice M N O/\K (.slice M N O) b7))
 ((0<=B5 (C34 (B5 ((a:Int)+1)) (2:Int))/\B5 (C34 (B5 ((a:Int)+1)) (2:Int))<=(c:Int))/\(0<=B5 (C34 (B5 ((a:Int)+1)) (2:Int))/\B5 (C34 (B5 ((a:Int)+1)) (2:Int))<=(a:Int))/\FCall P H9 #[.slice (K0 g c 0 1) (((B5 (C34 (B5 ((a:Int)+1)) (2:Int))).toNat)-0) (c-0)] j (fun b8 C=>∃ (q:OA) (r s:Nat),b8= .slice q r s/\Heap.le j C/\(0<=B5 (C34 (B5 ((a:Int)+1)) (2:Int))/\B5 (C34 (B5 ((a:Int)+1)) (2:Int))<=(d:Int))/\(0<=B5 (C34 (B5 ((a:Int)+1)) (2:Int))/\B5 (C34 (B5 ((a:Int)+1)) (2:Int))<=(b:Int))/\FCall P H9 #[.slice (K0 i d 0 1) (((B5 (C34 (B5 ((a:Int)+1)) (2:Int))).toNat)-0) (d-0)] C (fun b9 b0=>∃ (t:OA) (u v:Nat),b9= .slice t u v/\Heap.le C b0/\FCall P D4 #[.slice q r s,.slice t u v] b0 (fun c0 c1=>∃ (w:OA) (x y:Nat),c0= .slice w x y/\FCall P D4 #[.slice (K0 g c ((B5 (C34 (B5 ((a:Int)+1)) (2:Int))).toNat) 1) (a-((B5 (C34 (B5 ((a:Int)+1)) (2:Int))).toNat)) (c-((B5 (C34 (B5 ((a:Int)+1)) (2:Int))).toNat)),.slice (K0 i d ((B5 (C34 (B5 ((a:Int)+1)) (2:Int))).toNat) 1) (b-((B5 (C34 (B5 ((a:Int)+1)) (2:Int))).toNat)) (d-((B5 (C34 (B5 ((a:Int)+1)) (2:Int))).toNat))] c1 (fun c2 c3=>∃ (z:OA) (A B:Nat),c2= .slice z A B/\FCall P P0 #[.slice q r s,.slice (K0 g c ((B5 (C34 (B5 ((a:Int)+1)) (2:Int))).toNat) 1) (a-((B5 (C34 (B5 ((a:Int)+1)) (2:Int))).toNat)) (c-((B5 (C34 (B5 ((a:Int)+1)) (2:Int))).toNat))] c3 (fun c4 c5=>∃ (Q:OA) (R S:Nat),c4= .slice Q R S/\FCall P P0 #[.slice t u v,.slice (K0 i d ((B5 (C34 (B5 ((a:Int)+1)) (2:Int))).toNat) 1) (b-((B5 (C34 (B5 ((a:Int)+1)) (2:Int))).toNat)) (d-((B5 (C34 (B5 ((a:Int)+1)) (2:Int))).toNat))] c5 (fun c6 c7=>∃ (T:OA) (V W:Nat),c6= .slice T V W/\FCall P D4 #[.slice Q R S,.slice T V W] c7 (fun c8 c9=>∃ (X:OA) (Z a0:Nat),c8= .slice X Z a0/\FCall P I9 #[.slice X Z a0,.slice w x y] c9 (fun d0 d1=>∃ (a1:OA) (a2 a3:Nat),d0= .slice a1 a2 a3/\FCall P I9 #[.slice a1 a2 a3,.slice z A B] d1 (fun d2 d3=>∃ (a4:OA) (a5 a6:Nat),d2= .slice a4 a5 a6/\wpH P (C39 100 (I (B5 ((a:Int)+(b:Int)))) (I (B5 ((a:Int)+(b:Int))))) (fun d4 d5=>∃ (k:OA) (e f:Nat),d4= .slice k e f/\wpH P (C3c #[100,100] 3 #[.slice k e f,.slice w x y]) (fun d6 d7=>∃ e4,d6=I e4/\(0<=B5 ((2:Int)*(B5 (C34 (B5 ((a:Int)+1)) (2:Int))))/\B5 ((2:Int)*(B5 (C34 (B5 ((a:Int)+1)) (2:Int))))<=(e:Int))/\wpH P (C3c #[100,100] 3 #[.slice (K0 k f ((B5 ((2:Int)*(B5 (C34 (B5 ((a:Int)+1)) (2:Int))))).toNat) 1) (e-((B5 ((2:Int)*(B5 (C34 (B5 ((a:Int)+1)) (2:Int))))).toNat)) (f-((B5 ((2:Int)*(B5 (C34 (B5 ((a:Int)+1)) (2:Int))))).toNat)),.slice z A B]) (fun d8 d9=>∃ e5,d8=I e5/\(0<=B5 (C34 (B5 ((a:Int)+1)) (2:Int))/\B5 (C34 (B5 ((a:Int)+1)) (2:Int))<=(e:Int))/\FCall P R8 #[.slice (K0 k f ((B5 (C34 (B5 ((a:Int)+1)) (2:Int))).toNat) 1) (e-((B5 (C34 (B5 ((a:Int)+1)) (2:Int))).toNat)) (f-((B5 (C34 (B5 ((a:Int)+1)) (2:Int))).toNat)),.slice a4 a5 a6] d9 (fun e0 e1=>e0= .tuple #[]/\FCall P H9 #[.slice k e f] e1 (fun e2 e3=>∃ (a7:OA) (a8 a9:Nat),e2= .slice a7 a8 a9/\K (.slice a7 a8 a9) e3))) d7) d5) d3)))))))))))))
theorem Dd a b c d e f(hvc:Cf prog a b c d e f h K):FCall prog D4 #[.slice a b c,.slice d e f] h K:=
 C8 bod func203 [.tmp 4] ⟨[(11,⟨[55],[],[.int .i64 0],⟨([7,8]++Lrg 55 22),[]⟩⟩)],[(3,⟨[0,1],[],[.slice none 0 0,.slice none 0 0],⟨[0,1,17,18,19,20,21,22,23],[]⟩⟩),(7,⟨[32],[],[.bool false],⟨(Lrg 32 10),[]⟩⟩)],[(18,([0,1,2,4,5,6,3,7,8],[])),(19,([0,1,2,4,5,6,3,7,8],[]))],[],[]⟩ 141 [] [200,203,222,223,227,232,233] [227,233] (by kernel_rfl) hvc
def Lp(P:Program)(x:OA)(c g:Nat)(y:OA)(b z:Nat)(h:Heap)(K:VP):Prop:=
 wpH P (C39 100 (I (B5 ((c:Int)+(b:Int)))) (I (B5 ((c:Int)+(b:Int))))) (fun A B=>∃ (i:OA) (e f:Nat),A= .slice i e f/\∃ (j:LP) (l:LN),j [I 0] B/\
 ∀ a d,j [I a] d->Br (decide (a<(c:Int))) ((0<=a/\a<=(e:Int))/\(0<=(if (c:Int)<(B5 (a+(b:Int))) then (c:Int) else B5 (a+(b:Int)))/\(if (c:Int)<(B5 (a+(b:Int))) then (c:Int) else B5 (a+(b:Int)))<=(g:Int))/\(0<=a/\a<=((((if (c:Int)<(B5 (a+(b:Int))) then (c:Int) else B5 (a+(b:Int)))).toNat:Nat):Int))/\FCall P H9 #[.slice (K0 x g (a.toNat) 1) ((((if (c:Int)<(B5 (a+(b:Int))) then (c:Int) else B5 (a+(b:Int)))).toNat)-(a.toNat)) (g-(a.toNat))] d (fun C k=>∃ (m:OA) (n o:Nat),C= .slice m n o/\Heap.le d k/\FCall P D4 #[.slice m n o,.slice y b z] k (fun D v=>∃ (p:OA) (q r:Nat),D= .slice p q r/\Heap.le k v/\FCall P R8 #[.slice (K0 i f (a.toNat) 1) (e-(a.toNat)) (f-(a.toNat)),.slice p q r] v (fun E w=>E= .tuple #[]/\j [I (B5 (a+(b:Int)))] w/\l [I (B5 (a+(b:Int)))] w<l [I a] d))))
 (FCall P H9 #[.slice i e f] d (fun F G=>∃ (s:OA) (t u:Nat),F= .slice s t u/\K (.slice s t u) G))) h
theorem Pm a b c d e f(hvc:Lp prog a b c d e f h K):FCall prog Bh #[.slice a b c,.slice d e f] h K:=
 C8 bod func232 [.tmp 4] ⟨[(3,⟨[6],[],[.int .i64 0],⟨([6,7]++Lrg 14 26),[]⟩⟩)],[],[(6,([0,1,2,3,4,5,6,8,7,9,10],[]))],[],[]⟩ 42 [] [200,203,233] [233] (by kernel_rfl) hvc
def Sy(P:Program)(t:OA)(c B:Nat)(u:Int)(h:Heap)(K:VP):Prop:=
 wpH P (C39 100 (I (c:Int)) (I (c:Int))) (fun v w=>∃ (e:OA) (f j:Nat),v= .slice e f j/\∃ (g:LP) (k:LN),g [U 0,I (B5 ((c:Int)-1))] w/\
 ∀ d a b,g [U d,I a] b->Br (decide (a>=(0:Int))) (∃ q,t=some q/\0<=a/\a<(c:Int)/\∃ r,b.cell? (q.add (a.toNat*1))=some (U r)/\FCall P Ej #[U d,U r,U u] b (fun x y=>∃ (l:Int) (i:Int),x= .tuple #[U l,U i]/\∃ s,e=some s/\0<=a/\a<(f:Int)/\wpH P (C37 130 (.pointer (some (s.add (a.toNat*1)))) (U l)) (fun _ p=>g [U i,I (B5 (a-1))] p/\k [U i,I (B5 (a-1))] p<k [U d,I a] b) y))
 (FCall P H9 #[.slice e f j] b (fun z A=>∃ (m:OA) (n o:Nat),z= .slice m n o/\K (.tuple #[.slice m n o,U d]) A))) h
theorem Uf a b c d(hvc:Sy prog a b c d h K):FCall prog Dz #[.slice a b c,U d] h K:=
 C8 bod func265 [.tmp 4,.tmp 5] { loops:=[(4,⟨[7,8],[],[.int .u64 0,.int .i64 0],⟨([7,8]++Lrg 15 17),[]⟩⟩)] } 35 [] [200,206] [] (by kernel_rfl) hvc
def Ik(P:Program)(l:OA)(f p:Nat)(m:Int)(h:Heap)(K:VP):Prop:=
 ∃ (d:LP) (g:LN),d [U 0,I (B5 ((f:Int)-1))] h/\
 ∀ c a b,d [U c,I a] b->Br (decide (a>=(0:Int))) (∃ j,l=some j/\0<=a/\a<(f:Int)/\∃ k,b.cell? (j.add (a.toNat*1))=some (U k)/\FCall P Ej #[U c,U k,U m] b (fun o i=>∃ (n:Int) (e:Int),o= .tuple #[U n,U e]/\d [U e,I (B5 (a-1))] i/\g [U e,I (B5 (a-1))] i<g [U c,I a] b))
 (K (U c) b)
theorem Nv a b c d(hvc:Ik prog a b c d h K):FCall prog Y8 #[.slice a b c,U d] h K:=
 C8 bod func160 [.tmp 4] { loops:=[(3,⟨[5,6],[],[.int .u64 0,.int .i64 0],⟨([5,6]++Lrg 10 14),[]⟩⟩)] } 25 [] [206] [] (by kernel_rfl) hvc
def Pb(P:Program)(c:OA)(b d:Nat)(e:OA)(a f:Nat)(h:Heap)(K:VP):Prop:=
 Br (decide ((a:Int)>=(80:Int))) (Br (decide ((B5 ((b:Int)-(a:Int)))>=(80:Int))) (FCall P Bj #[.slice c b d,.slice e a f] h (fun z A=>∃ (g:OA) (i j:Nat) (k:OA) (l m:Nat),z= .tuple #[.slice g i j,.slice k l m]/\K (.tuple #[.slice g i j,.slice k l m]) A))
 (FCall P I4 #[.slice c b d,.slice e a f] h (fun B C=>∃ (n:OA) (o p:Nat) (q:OA) (r s:Nat),B= .tuple #[.slice n o p,.slice q r s]/\K (.tuple #[.slice n o p,.slice q r s]) C)))
 (FCall P I4 #[.slice c b d,.slice e a f] h (fun D E=>∃ (t:OA) (u v:Nat) (w:OA) (x y:Nat),D= .tuple #[.slice t u v,.slice w x y]/\K (.tuple #[.slice t u v,.slice w x y]) E))
theorem Sw a b c d e f(hvc:Pb prog a b c d e f h K):FCall prog O2 #[.slice a b c,.slice d e f] h K:=
 C8 bod func219 [.tmp 4,.tmp 5] an0 27 [] [245,246] [] (by kernel_rfl) hvc
def Z2(P:Program)(d:Nat)(w:OA)(k:Nat)(e:OA)(f:Nat)(b:Int)(x:Int)(y:LP)(z:Heap):Prop:=
 ∃ (i:LP) (l:LN),i [U 0,I 0] z/\
 ∀ g a c,i [U g,I a] c->Br (decide (a<(k:Int))) (∃ o,w=some o/\0<=a/\a<(k:Int)/\∃ p,c.cell? (o.add (a.toNat*1))=some (U p)/\∃ q,e=some q/\0<=B5 (b+a)/\B5 (b+a)<(f:Int)/\∃ r,c.cell? (q.add ((B5 (b+a)).toNat*1))=some (U r)/\ECall P R2 #[U r,U p,U g] c (fun A B=>∃ (m:Int) (j:Int),A= .tuple #[U m,U j]/\∃ s,e=some s/\0<=B5 (b+a)/\B5 (b+a)<(f:Int)/\wpH P (C37 130 (.pointer (some (s.add ((B5 (b+a)).toNat*1)))) (U m)) (fun _ n=>i [U j,I (B5 (a+1))] n/\l [U j,I (B5 (a+1))] n<l [U g,I a] c) B))
 (∃ t,e=some t/\0<=B5 (b+(d:Int))/\B5 (b+(d:Int))<(f:Int)/\∃ u,c.cell? (t.add ((B5 (b+(d:Int))).toNat*1))=some (U u)/\∃ v,e=some v/\0<=B5 (b+(d:Int))/\B5 (b+(d:Int))<(f:Int)/\wpH P (C37 130 (.pointer (some (v.add ((B5 (b+(d:Int))).toNat*1)))) (U (C0 (u+g)))) (fun _ C=>y [U (C0 (x-1))] C) c)
def Fa(P:Program)(b:Nat)(K:VP)(J:Int)(g:OA)(i n:Nat)(d:OA)(e c:Nat)(o:OA)(p L:Nat)(M:LP)(q:LN)(a:Int)(j:Heap):Prop:=
 Br (decide (a>=(0:Int))) ((0<=B5 ((B5 (a+(b:Int)))+1)/\B5 ((B5 (a+(b:Int)))+1)<=(c:Int))/\(0<=a/\a<=(((B5 ((B5 (a+(b:Int)))+1)).toNat:Nat):Int))/\FCall P Jd #[.slice (K0 d c (a.toNat) 1) (((B5 ((B5 (a+(b:Int)))+1)).toNat)-(a.toNat)) (c-(a.toNat)),.slice g i n] j (fun N O=>∃ f,N=U f/\(0<=B5 (a+(b:Int))/\B5 (a+(b:Int))<=(c:Int))/\(0<=a/\a<=(((B5 (a+(b:Int))).toNat:Nat):Int))/\FCall P S2 #[.slice (K0 d c (a.toNat) 1) (((B5 (a+(b:Int))).toNat)-(a.toNat)) (c-(a.toNat)),.slice g i n,U f] O (fun Q A=>∃ l,Q=U l/\∃ D,d=some D/\0<=B5 (a+(b:Int))/\B5 (a+(b:Int))<(e:Int)/\∃ m,A.cell? (D.add ((B5 (a+(b:Int))).toNat*1))=some (U m)/\∃ E,d=some E/\0<=B5 (a+(b:Int))/\B5 (a+(b:Int))<(e:Int)/\wpH P (C37 130 (.pointer (some (E.add ((B5 (a+(b:Int))).toNat*1)))) (U (C0 (m-l)))) (fun _ B=>∃ (k:LP),(Br (decide (m<l)) (Z2 P b g i d e a f k B)
 (k [U f] B))/\
 ∀ F G,k [U F] G->∃ H,o=some H/\0<=a/\a<(p:Int)/\wpH P (C37 130 (.pointer (some (H.add (a.toNat*1)))) (U F)) (fun _ C=>M [I (B5 (a-1))] C/\q [I (B5 (a-1))] C<q [I a] j) G) A)))
 (FCall P H9 #[.slice o p L] j (fun R S=>∃ (r:OA) (s t:Nat),R= .slice r s t/\FCall P H9 #[.slice d e c] S (fun T V=>∃ (u:OA) (v w:Nat),T= .slice u v w/\FCall P Ak #[.slice u v w,U (C0 J)] V (fun W X=>∃ (x:OA) (y z:Nat),W= .slice x y z/\K (.tuple #[.slice r s t,.slice x y z]) X))))
def Z5(P:Program)(e b:Nat)(K:VP)(f:Int)(g:OA)(i j:Nat)(k:OA)(l m:Nat)(n:OA)(o p:Nat)(q:Heap):Prop:=
 ∃ (a:LP) (r:LN),a [I (B5 ((e:Int)-(b:Int)))] q/\
 ∀ c d,a [I c] d->Fa P b K f g i j k l m n o p a r c d
def Lr(P:Program)(d:OA)(b e:Nat)(f:OA)(a l:Nat)(h:Heap)(K:VP):Prop:=
 FCall P I5 #[.slice d b e,.slice f a l] h (fun H c=>∃ C,H=I C/\Br (decide (C<(0:Int))) (K (.tuple #[.slice none 0 0,.slice d b e]) c)
 (Br ((a:Int)==(1:Int)) (∃ D,f=some D/\0<=(0:Int)/\(0:Int)<(a:Int)/\∃ E,c.cell? (D.add (((0:Int)).toNat*1))=some (U E)/\FCall P Dz #[.slice d b e,U E] c (fun J L=>∃ (m:OA) (n o:Nat) (p:Int),J= .tuple #[.slice m n o,U p]/\FCall P U6 #[U p] L (fun M N=>∃ (q:OA) (r s:Nat),M= .slice q r s/\K (.tuple #[.slice m n o,.slice q r s]) N)))
 (∃ F,f=some F/\0<=B5 ((a:Int)-1)/\B5 ((a:Int)-1)<(a:Int)/\∃ G,c.cell? (F.add ((B5 ((a:Int)-1)).toNat*1))=some (U G)/\FCall P J4 #[U G] c (fun O Q=>∃ g,O=I g/\FCall P R6 #[.slice f a l,U (C0 g)] Q (fun R S=>∃ (t:OA) (u v:Nat),R= .slice t u v/\wpH P (C39 100 (I (B5 ((b:Int)+1))) (I (B5 ((b:Int)+1)))) (fun T V=>∃ (i:OA) (j k:Nat),T= .slice i j k/\FCall P R6 #[.slice d b e,U (C0 g)] V (fun W X=>∃ (w:OA) (x y:Nat),W= .slice w x y/\wpH P (C3c #[100,100] 3 #[.slice i j k,.slice w x y]) (fun Z a0=>∃ a3,Z=I a3/\wpH P (C39 100 (I (B5 ((B5 ((b:Int)-(a:Int)))+1))) (I (B5 ((B5 ((b:Int)-(a:Int)))+1)))) (fun a1 a2=>∃ (z:OA) (A B:Nat),a1= .slice z A B/\Z5 P b a K g t u v i j k z A B a2) a0) X)) S)))))
theorem Po a b c d e f(hvc:Lr prog a b c d e f h K):FCall prog I4 #[.slice a b c,.slice d e f] h K:=
 C8 bod func246 [.tmp 4,.tmp 5] ⟨[(13,⟨[13],[],[.int .i64 0],⟨([13,14,15,16,17,18,19]++Lrg 72 79),[]⟩⟩),(23,⟨[17,115],[],[.int .u64 0,.int .i64 0],⟨([17,18,19]++Lrg 115 23),[]⟩⟩)],[(28,⟨[14],[],[.int .u64 0],⟨([14,17,18,19]++Lrg 108 39),[]⟩⟩)],[],[],[]⟩ 157 [] [194,200,201,239,259,264,265,266,267] [267] (by kernel_rfl) hvc
def A1a(P:Program)(f:OA)(g E:Nat)(m:OA)(a F:Nat)(h:Heap)(K:VP):Prop:=
 ∃ r,m=some r/\0<=B5 ((a:Int)-1)/\B5 ((a:Int)-1)<(a:Int)/\∃ c,h.cell? (r.add ((B5 ((a:Int)-1)).toNat*1))=some (U c)/\∃ s,m=some s/\0<=B5 ((a:Int)-2)/\B5 ((a:Int)-2)<(a:Int)/\∃ t,h.cell? (s.add ((B5 ((a:Int)-2)).toNat*1))=some (U t)/\∃ u,f=some u/\0<=(a:Int)/\(a:Int)<(g:Int)/\∃ v,h.cell? (u.add (((a:Int)).toNat*1))=some (U v)/\Br (decide (v>=c)) (K (U 18446744073709551615) h)
 (∃ w,f=some w/\0<=(a:Int)/\(a:Int)<(g:Int)/\∃ x,h.cell? (w.add (((a:Int)).toNat*1))=some (U x)/\∃ y,f=some y/\0<=B5 ((a:Int)-1)/\B5 ((a:Int)-1)<(g:Int)/\∃ z,h.cell? (y.add ((B5 ((a:Int)-1)).toNat*1))=some (U z)/\FCall P Ej #[U x,U z,U c] h (fun C q=>∃ (n:Int) (o:Int),C= .tuple #[U n,U o]/\Heap.le h q/\∃ (i:LP) (j:LN),i [U n,U o] q/\
 ∀ b d k,i [U b,U d] k->FCall P Ei #[U b,U t] k (fun D e=>∃ (l:Int) (p:Int),D= .tuple #[U l,U p]/\Br (decide (l<d)) (K (U b) e)
 (Br (l==d) (∃ A,f=some A/\0<=B5 ((a:Int)-2)/\B5 ((a:Int)-2)<(g:Int)/\∃ B,e.cell? (A.add ((B5 ((a:Int)-2)).toNat*1))=some (U B)/\Br (decide (p<=B)) (K (U b) e)
 (Br (decide ((C0 (d+c))<c)) (K (U (C0 (b-1))) e)
 (i [U (C0 (b-1)),U (C0 (d+c))] e/\j [U (C0 (b-1)),U (C0 (d+c))] e<j [U b,U d] k)))
 (Br (decide ((C0 (d+c))<c)) (K (U (C0 (b-1))) e)
 (i [U (C0 (b-1)),U (C0 (d+c))] e/\j [U (C0 (b-1)),U (C0 (d+c))] e<j [U b,U d] k))))))
theorem A19 a b c d e f(hvc:A1a prog a b c d e f h K):FCall prog Jd #[.slice a b c,.slice d e f] h K:=
 C8 bod func266 [.tmp 4] { loops:=[(6,⟨[8,9],[],[.int .u64 0,.int .u64 0],⟨([4,8,9,10,11]++Lrg 44 33),[]⟩⟩)] } 77 [] [190,206] [] (by kernel_rfl) hvc
def A14(P:Program)(g:OA)(a c:Nat)(b:Int)(h:Heap)(K:VP):Prop:=
 (0<=(if (a:Int)<b then (a:Int) else b)/\(if (a:Int)<b then (a:Int) else b)<=(c:Int))/\FCall P H9 #[.slice (K0 g c 0 1) ((((if (a:Int)<b then (a:Int) else b)).toNat)-0) (c-0)] h (fun i j=>∃ (d:OA) (e f:Nat),i= .slice d e f/\K (.slice d e f) j)
theorem A13 a b c d(hvc:A14 prog a b c d h K):FCall prog Bi #[.slice a b c,I d] h K:=
 C8 bod func260 [.tmp 4] an0 12 [] [200] [] (by kernel_rfl) hvc
def Vn(P:Program)(d:OA)(a c:Nat)(b:Int)(h:Heap)(K:VP):Prop:=
 (0<=(if (a:Int)<b then (a:Int) else b)/\(if (a:Int)<b then (a:Int) else b)<=(a:Int))/\K (.slice (K0 d c (((if (a:Int)<b then (a:Int) else b)).toNat) 1) (a-(((if (a:Int)<b then (a:Int) else b)).toNat)) (c-(((if (a:Int)<b then (a:Int) else b)).toNat))) h
theorem Yn a b c d(hvc:Vn prog a b c d h K):FCall prog R7 #[.slice a b c,I d] h K:=
 C8 bod func261 [.tmp 4] an0 11 [] [] [] (by kernel_rfl) hvc
def B9g(P:Program)(j:OA)(e k:Nat)(l:OA)(m n:Nat)(a:Int)(h:Heap)(K:VP):Prop:=
 wpH P (C39 100 (I (B5 (a+(e:Int)))) (I (B5 (a+(e:Int))))) (fun o p=>∃ (d:OA) (b c:Nat),o= .slice d b c/\wpH P (C3c #[100,100] 3 #[.slice d b c,.slice l m n]) (fun q r=>∃ w,q=I w/\(0<=a/\a<=(b:Int))/\wpH P (C3c #[100,100] 3 #[.slice (K0 d c (a.toNat) 1) (b-(a.toNat)) (c-(a.toNat)),.slice j e k]) (fun s t=>∃ x,s=I x/\FCall P H9 #[.slice d b c] t (fun u v=>∃ (f:OA) (g i:Nat),u= .slice f g i/\K (.slice f g i) v)) r) p) h
theorem B3f a b c d e f g(hvc:B9g prog a b c d e f g h K):FCall prog Jc #[.slice a b c,.slice d e f,I g] h K:=
 C8 bod func263 [.tmp 6] an0 23 [] [200] [] (by kernel_rfl) hvc
def Z6(P:Program)(c:Nat)(K:VP)(a:Int)(M:Int)(N:OA)(O Q:Nat)(R:OA)(o S:Nat)(p:OA)(i j:Nat)(T:Heap):Prop:=
 ∃ (k:LP) (q:LN),k [.slice none 0 0,I (B5 ((B5 (C34 (B5 ((o:Int)-1)) (B5 ((B5 (C34 (B5 ((B5 ((c:Int)+a))-1)) a))*a))))*(B5 ((B5 (C34 (B5 ((B5 ((c:Int)+a))-1)) a))*a))))] T/\
 ∀ d e f b g,k [.slice d e f,I b] g->Br (decide (b>=(0:Int))) (FCall P R7 #[.slice R o S,I b] g (fun V W=>∃ (r:OA) (s t:Nat),V= .slice r s t/\FCall P Bi #[.slice r s t,I (B5 ((B5 (C34 (B5 ((B5 ((c:Int)+a))-1)) a))*a))] W (fun X Z=>∃ (u:OA) (v w:Nat),X= .slice u v w/\FCall P Jc #[.slice d e f,.slice u v w,I (B5 ((B5 (C34 (B5 ((B5 ((c:Int)+a))-1)) a))*a))] Z (fun a0 a1=>∃ (x:OA) (y z:Nat),a0= .slice x y z/\FCall P S5 #[.slice x y z,.slice N O Q] a1 (fun a2 a3=>∃ (A:OA) (B C:Nat) (l:OA) (m n:Nat),a2= .tuple #[.slice A B C,.slice l m n]/\(0<=b/\b<=(i:Int))/\wpH P (C3c #[100,100] 3 #[.slice (K0 p j (b.toNat) 1) (i-(b.toNat)) (j-(b.toNat)),.slice A B C]) (fun a4 L=>∃ a9,a4=I a9/\k [.slice l m n,I (B5 (b-(B5 ((B5 (C34 (B5 ((B5 ((c:Int)+a))-1)) a))*a))))] L/\q [.slice l m n,I (B5 (b-(B5 ((B5 (C34 (B5 ((B5 ((c:Int)+a))-1)) a))*a))))] L<q [.slice d e f,I b] g) a3)))))
 (FCall P H9 #[.slice p i j] g (fun a5 a6=>∃ (D:OA) (E F:Nat),a5= .slice D E F/\FCall P Ak #[.slice d e f,U (C0 (B5 ((B5 ((64:Int)*(B5 ((B5 ((B5 (C34 (B5 ((B5 ((c:Int)+a))-1)) a))*a))-(c:Int)))))+M)))] a6 (fun a7 a8=>∃ (G:OA) (H J:Nat),a7= .slice G H J/\K (.tuple #[.slice D E F,.slice G H J]) a8)))
def Gw(P:Program)(t:OA)(u v:Nat)(g:OA)(b w:Nat)(h:Heap)(K:VP):Prop:=
 ∃ (f:LP) (i:LN),f [I 1] h/\
 ∀ a c,f [I a] c->Br (decide (a=0)) False
 (Br (decide ((B5 (C34 (B5 ((B5 ((b:Int)+a))-1)) a))>=(80:Int))) (f [I (B5 (a*(2:Int)))] c/\i [I (B5 (a*(2:Int)))] c<i [I a] c)
 (Br (decide (a=0)) False
 (∃ r,g=some r/\0<=B5 ((b:Int)-1)/\B5 ((b:Int)-1)<(b:Int)/\∃ s,c.cell? (r.add ((B5 ((b:Int)-1)).toNat*1))=some (U s)/\FCall P J4 #[U s] c (fun x y=>∃ e,x=I e/\FCall P R6 #[.slice g b w,U (C0 (B5 ((B5 ((64:Int)*(B5 ((B5 ((B5 (C34 (B5 ((B5 ((b:Int)+a))-1)) a))*a))-(b:Int)))))+e)))] y (fun z A=>∃ (j:OA) (k l:Nat),z= .slice j k l/\FCall P R6 #[.slice t u v,U (C0 (B5 ((B5 ((64:Int)*(B5 ((B5 ((B5 (C34 (B5 ((B5 ((b:Int)+a))-1)) a))*a))-(b:Int)))))+e)))] A (fun B C=>∃ (m:OA) (d n:Nat),B= .slice m d n/\wpH P (C39 100 (I (B5 ((d:Int)+(B5 ((B5 (C34 (B5 ((B5 ((b:Int)+a))-1)) a))*a))))) (I (B5 ((d:Int)+(B5 ((B5 (C34 (B5 ((B5 ((b:Int)+a))-1)) a))*a)))))) (fun D E=>∃ (o:OA) (p q:Nat),D= .slice o p q/\Br (decide (B5 ((B5 (C34 (B5 ((B5 ((b:Int)+a))-1)) a))*a)=0)) False
 (Z6 P b K a e j k l m d n o p q E)) C))))))
def Lu(P:Program)(a:OA)(b c:Nat)(d:OA)(e f:Nat)(h:Heap)(K:VP):Prop:=
 Gw P a b c d e f h K
theorem Pq a b c d e f(hvc:Lu prog a b c d e f h K):FCall prog Bj #[.slice a b c,.slice d e f] h K:=
 C8 bod func245 [.tmp 4,.tmp 5] { loops:=[(3,⟨[7],[],[.int .i64 0],⟨([7]++Lrg 20 9),[]⟩⟩),(11,⟨[13,14],[],[.slice none 0 0,.int .i64 0],⟨([13,14,15,16,17]++Lrg 67 25),[]⟩⟩)] } 97 [] [200,239,259,260,261,262,263,264] [] (by kernel_rfl) hvc
def Ls(P:Program)(b:OA)(c d:Nat)(e:OA)(a f:Nat)(h:Heap)(K:VP):Prop:=
 Br (decide ((a:Int)<(80:Int))) (FCall P I4 #[.slice b c d,.slice e a f] h (fun V W=>∃ (g:OA) (i j:Nat) (k:OA) (l m:Nat),V= .tuple #[.slice g i j,.slice k l m]/\K (.tuple #[.slice g i j,.slice k l m]) W))
 (Br ((C3b (a:Int) (2:Int)) != (0:Int)) (FCall P I4 #[.slice b c d,.slice e a f] h (fun X Z=>∃ (n:OA) (o p:Nat) (q:OA) (r s:Nat),X= .tuple #[.slice n o p,.slice q r s]/\K (.tuple #[.slice n o p,.slice q r s]) Z))
 (FCall P R7 #[.slice b c d,I (B5 (C34 (a:Int) (2:Int)))] h (fun a0 a1=>∃ (t:OA) (u v:Nat),a0= .slice t u v/\FCall P S4 #[.slice t u v,.slice e a f] a1 (fun a2 a3=>∃ (w:OA) (x y:Nat) (z:OA) (A B:Nat),a2= .tuple #[.slice w x y,.slice z A B]/\FCall P Bi #[.slice b c d,I (B5 (C34 (a:Int) (2:Int)))] a3 (fun a4 a5=>∃ (C:OA) (D E:Nat),a4= .slice C D E/\FCall P Jc #[.slice z A B,.slice C D E,I (B5 (C34 (a:Int) (2:Int)))] a5 (fun a6 a7=>∃ (F:OA) (G H:Nat),a6= .slice F G H/\FCall P S4 #[.slice F G H,.slice e a f] a7 (fun a8 a9=>∃ (J:OA) (L M:Nat) (N:OA) (O Q:Nat),a8= .tuple #[.slice J L M,.slice N O Q]/\FCall P Jc #[.slice w x y,.slice J L M,I (B5 (C34 (a:Int) (2:Int)))] a9 (fun b0 b1=>∃ (R:OA) (S T:Nat),b0= .slice R S T/\K (.tuple #[.slice R S T,.slice N O Q]) b1))))))))
theorem Pp a b c d e f(hvc:Ls prog a b c d e f h K):FCall prog S5 #[.slice a b c,.slice d e f] h K:=
 C8 bod func262 [.tmp 4,.tmp 5] an0 51 [] [246,260,261,263,269] [] (by kernel_rfl) hvc
def Z1(P:Program)(C:OA)(D E:Nat)(K:VP)(F:OA)(G H:Nat)(p:OA)(q r:Nat)(J:OA)(L M:Nat)(N:Heap):Prop:=
 ∃ (g:LP) (s:LN),g [.slice F G H,.slice J L M] N/\
 ∀ d e f a b c o,g [.slice d e f,.slice a b c] o->FCall P I5 #[.slice a b c,.slice p q r] o (fun O z=>∃ B,O=I B/\Br (decide (B<(0:Int))) (FCall P P0 #[.slice a b c,.slice C D E] z (fun Q R=>∃ (i:OA) (j k:Nat),Q= .slice i j k/\wpH P (C38 100 1 #[(0,U 1)]) (fun S T=>∃ (t:OA) (u v:Nat),S= .slice t u v/\FCall P I9 #[.slice d e f,.slice t u v] T (fun V A=>∃ (l:OA) (m n:Nat),V= .slice l m n/\g [.slice l m n,.slice i j k] A/\s [.slice l m n,.slice i j k] A<s [.slice d e f,.slice a b c] o)) R))
 (FCall P I9 #[.slice a b c,.slice p q r] z (fun W X=>∃ (w:OA) (x y:Nat),W= .slice w x y/\K (.tuple #[.slice d e f,.slice w x y]) X)))
def Lq(P:Program)(d:OA)(e f:Nat)(c:OA)(a b:Nat)(h:Heap)(K:VP):Prop:=
 (0<=B5 (C34 (a:Int) (2:Int))/\B5 (C34 (a:Int) (2:Int))<=(b:Int))/\(0<=B5 (C34 (a:Int) (2:Int))/\B5 (C34 (a:Int) (2:Int))<=(a:Int))/\FCall P H9 #[.slice (K0 c b 0 1) (((B5 (C34 (a:Int) (2:Int))).toNat)-0) (b-0)] h (fun b0 a3=>∃ (o:OA) (p q:Nat),b0= .slice o p q/\Heap.le h a3/\FCall P R7 #[.slice d e f,I (B5 (C34 (a:Int) (2:Int)))] a3 (fun b1 b2=>∃ (g:OA) (i j:Nat),b1= .slice g i j/\∃ (k:LP),(FCall P R7 #[.slice d e f,I (B5 ((2:Int)*(B5 (C34 (a:Int) (2:Int)))))] b2 (fun b3 b4=>∃ (r:OA) (s t:Nat),b3= .slice r s t/\FCall P I5 #[.slice r s t,.slice (K0 c b ((B5 (C34 (a:Int) (2:Int))).toNat) 1) (a-((B5 (C34 (a:Int) (2:Int))).toNat)) (b-((B5 (C34 (a:Int) (2:Int))).toNat))] b4 (fun b5 a4=>∃ a5,b5=I a5/\Br (decide (a5<(0:Int))) (FCall P S5 #[.slice g i j,.slice (K0 c b ((B5 (C34 (a:Int) (2:Int))).toNat) 1) (a-((B5 (C34 (a:Int) (2:Int))).toNat)) (b-((B5 (C34 (a:Int) (2:Int))).toNat))] a4 (fun b6 b7=>∃ (u:OA) (v w:Nat) (x:OA) (y z:Nat),b6= .tuple #[.slice u v w,.slice x y z]/\k [.slice u v w,.slice x y z] b7))
 (wpH P (C38 100 1 #[(0,U 18446744073709551615)]) (fun b8 b9=>∃ (A:OA) (B C:Nat),b8= .slice A B C/\FCall P Rt #[.slice A B C,I (B5 (C34 (a:Int) (2:Int)))] b9 (fun c0 c1=>∃ (D:OA) (E F:Nat),c0= .slice D E F/\FCall P Jc #[.slice (K0 c b ((B5 (C34 (a:Int) (2:Int))).toNat) 1) (a-((B5 (C34 (a:Int) (2:Int))).toNat)) (b-((B5 (C34 (a:Int) (2:Int))).toNat)),.slice none 0 0,I (B5 (C34 (a:Int) (2:Int)))] c1 (fun c2 c3=>∃ (G:OA) (H J:Nat),c2= .slice G H J/\FCall P I9 #[.slice g i j,.slice G H J] c3 (fun c4 c5=>∃ (L:OA) (M N:Nat),c4= .slice L M N/\FCall P P0 #[.slice L M N,.slice (K0 c b ((B5 (C34 (a:Int) (2:Int))).toNat) 1) (a-((B5 (C34 (a:Int) (2:Int))).toNat)) (b-((B5 (C34 (a:Int) (2:Int))).toNat))] c5 (fun c6 c7=>∃ (O:OA) (Q R:Nat),c6= .slice O Q R/\k [.slice D E F,.slice O Q R] c7))))) a4))))/\
 ∀ l m n a6 a7 a8 a9,k [.slice l m n,.slice a6 a7 a8] a9->FCall P D4 #[.slice l m n,.slice o p q] a9 (fun c8 c9=>∃ (S:OA) (T V:Nat),c8= .slice S T V/\FCall P Bi #[.slice d e f,I (B5 (C34 (a:Int) (2:Int)))] c9 (fun d0 d1=>∃ (W:OA) (X Z:Nat),d0= .slice W X Z/\FCall P Jc #[.slice a6 a7 a8,.slice W X Z,I (B5 (C34 (a:Int) (2:Int)))] d1 (fun d2 d3=>∃ (a0:OA) (a1 a2:Nat),d2= .slice a0 a1 a2/\Z1 P c a b K l m n S T V a0 a1 a2 d3)))))
theorem Pn a b c d e f(hvc:Lq prog a b c d e f h K):FCall prog S4 #[.slice a b c,.slice d e f] h K:=
 C8 bod func269 [.tmp 4,.tmp 5] ⟨[(11,⟨[10,11],[],[.slice none 0 0,.slice none 0 0],⟨([10,11]++Lrg 58 10),[]⟩⟩)],[(9,⟨[10,11],[],[.slice none 0 0,.slice none 0 0],⟨([10,11]++Lrg 26 23),[]⟩⟩)],[(2,([0,1,2,4,5,6,3,7,8],[]))],[],[]⟩ 72 [] [200,201,203,222,223,260,261,262,263,270] [] (by kernel_rfl) hvc
def A52(P:Program)(d:Int)(e:Int)(h:Heap)(K:VP):Prop:=
 Br (d==(0:Int)) (K (U (bor .u64 d e)) h)
 (Br (e==(0:Int)) (K (U (bor .u64 d e)) h)
 (FCall P L4 #[U (bor .u64 d e)] h (fun m n=>∃ k,m=I k/\FCall P L4 #[U d] n (fun o p=>∃ l,o=I l/\Br (decide (l<0)) False
 (∃ (g:LP) (i:LN),g [U (C36 d (2^(min l.toNat 64))),U e] p/\
 ∀ b a f,g [U b,U a] f->Br (a != (0:Int)) (FCall P L4 #[U a] f (fun q j=>∃ c,q=I c/\Br (decide (c<0)) False
 (Br (decide (b>(C36 a (2^(min c.toNat 64))))) (g [U (C36 a (2^(min c.toNat 64))),U (C0 (b-(C36 a (2^(min c.toNat 64)))))] j/\i [U (C36 a (2^(min c.toNat 64))),U (C0 (b-(C36 a (2^(min c.toNat 64)))))] j<i [U b,U a] f)
 (g [U b,U (C0 ((C36 a (2^(min c.toNat 64)))-b))] j/\i [U b,U (C0 ((C36 a (2^(min c.toNat 64)))-b))] j<i [U b,U a] f))))
 (Br (decide (k<0)) False
 (K (U (C0 (b*2^(min k.toNat 64)))) f)))))))
theorem A3g a b(hvc:A52 prog a b h K):FCall prog Ni #[U a,U b] h K:=
 C8 bod func221 [.tmp 4] { loops:=[(5,⟨[0,1],[],[.int .u64 0,.int .u64 0],⟨([0,1]++Lrg 23 14),[]⟩⟩)] } 40 [] [249] [] (by kernel_rfl) hvc
def Pa(P:Program)(C:LP)(s:LN)(f:OA)(d g:Nat)(t:OA)(u v:Nat)(D:Int)(E:Int)(F:Int)(G:Int)(H:Bool)(J:Heap)(L:Heap):Prop:=
 ∃ (i:LP) (w:LN),i [.slice t u v] J/\
 ∀ b a c e,i [.slice b a c] e->Br (decide ((a:Int)<(d:Int))) (wpH P (C38 100 1 #[(0,U 0)]) (fun M N=>∃ (x:OA) (y z:Nat),M= .slice x y z/\wpH P (C3a #[100,100] 100 #[.slice b a c,.slice x y z]) (fun O A=>∃ (j:OA) (k l:Nat),O= .slice j k l/\i [.slice j k l] A/\w [.slice j k l] A<w [.slice b a c] e) N) e)
 (FCall P Xk #[.agg #[U D,U E,U F,U G,.bool H],.slice f d g,.slice b a c] e (fun Q R=>Q= .tuple #[]/\FCall P H9 #[.slice f d g] R (fun S T=>∃ (m:OA) (n o:Nat),S= .slice m n o/\FCall P H9 #[.slice b a c] T (fun V B=>∃ (p:OA) (q r:Nat),V= .slice p q r/\C [.slice m n o,.slice p q r] B/\s [.slice m n o,.slice p q r] B<s [.slice f d g,.slice t u v] L))))
def Ji(P:Program)(K:VP)(L:OA)(M N:Nat)(O:OA)(Q R:Nat)(S:Heap):Prop:=
 ∃ (i:LP) (j:LN),i [.slice L M N,.slice O Q R] S/\
 ∀ d e f b a g c,i [.slice d e f,.slice b a g] c->Br (decide ((a:Int)>(1:Int))) (FCall P Jb #[.slice d e f,.slice b a g] c (fun X A=>∃ (q:Int) (r:Int) (k:Int) (s:Int) (t:Bool),X= .agg #[U q,U r,U k,U s,.bool t]/\Br (k==(0:Int)) (FCall P O2 #[.slice d e f,.slice b a g] A (fun Z a0=>∃ (T:OA) (V W:Nat) (u:OA) (v w:Nat),Z= .tuple #[.slice T V W,.slice u v w]/\FCall P Ea #[.slice u v w] a0 (fun a1 B=>∃ (l:OA) (m n:Nat),a1= .slice l m n/\i [.slice b a g,.slice l m n] B/\j [.slice b a g,.slice l m n] B<j [.slice d e f,.slice b a g] c)))
 (Pa P i j d e f b a g q r k s t A c)))
 (Br ((a:Int)==(0:Int)) (K (.slice d e f) c)
 (∃ D,b=some D/\0<=(0:Int)/\(0:Int)<(a:Int)/\∃ E,c.cell? (D.add (((0:Int)).toNat*1))=some (U E)/\∃ F,b=some F/\0<=(0:Int)/\(0:Int)<(a:Int)/\∃ G,c.cell? (F.add (((0:Int)).toNat*1))=some (U G)/\FCall P Y8 #[.slice d e f,U G] c (fun a2 o=>∃ H,a2=U H/\Heap.le c o/\FCall P Ni #[U E,U H] o (fun a3 p=>∃ J,a3=U J/\Heap.le o p/\FCall P U6 #[U J] p (fun a4 C=>∃ (x:OA) (y z:Nat),a4= .slice x y z/\Heap.le p C/\K (.slice x y z) C)))))
def A16(P:Program)(a:OA)(b c:Nat)(d:OA)(e f:Nat)(h:Heap)(K:VP):Prop:=
 ∃ (g:LP),(FCall P I5 #[.slice a b c,.slice d e f] h (fun x t=>∃ u,x=I u/\Br (decide (u<(0:Int))) (g [.slice d e f,.slice a b c] t)
 (g [.slice a b c,.slice d e f] t)))/\
 ∀ j k l v i w m,g [.slice j k l,.slice v i w] m->Br ((i:Int)==(0:Int)) (K (.slice j k l) m)
 (FCall P Ea #[.slice j k l] m (fun y z=>∃ (n:OA) (o p:Nat),y= .slice n o p/\FCall P Ea #[.slice v i w] z (fun A B=>∃ (q:OA) (r s:Nat),A= .slice q r s/\Ji P K n o p q r s B)))
theorem A15 a b c d e f(hvc:A16 prog a b c d e f h K):FCall prog Dy #[.slice a b c,.slice d e f] h K:=
 C8 bod func180 [.tmp 4] ⟨[(6,⟨[5,6],[],[.slice none 0 0,.slice none 0 0],⟨([5,6,7,8,9]++Lrg 24 34),[7]⟩⟩),(11,⟨[6],[],[.slice none 0 0],⟨([6]++Lrg 42 8),[]⟩⟩)],[(3,⟨[0,1],[],[.slice none 0 0,.slice none 0 0],⟨[0,1,10,11,12,13,14,15],[]⟩⟩)],[],[],[]⟩ 72 [7] [160,194,200,201,217,218,219,220,221] [220] (by kernel_rfl) hvc
def Gv(P:Program)(K:VP)(m:Int)(o:Int)(p:Int)(q:Int)(r:Heap):Prop:=
 ∃ (l:LP) (n:LN),l [U (bor .u64 (C0 (o*2^(min (C0 m).toNat 64))) (C36 p (2^(min (C0 ((64:Int)-(C0 m))).toNat 64)))),U q,U 0,U 1,U 0,U 1,U 0,U 0,.bool false] r/\
 ∀ b a f d j e k c g i,l [U b,U a,U f,U d,U j,U e,U k,U c,.bool g] i->Br (decide (a>=d)) (Br (decide ((C0 (b-a))>=(C0 (c+d)))) (Br (decide (a=0)) False
 (Br (decide (a=0)) False
 (l [U a,U (C3b b a),U (C0 (e+(C0 ((C0 (C34 b a))*f)))),U (C0 (c+(C0 ((C0 (C34 b a))*d)))),U e,U f,U c,U d,.bool (!g)] i/\n [U a,U (C3b b a),U (C0 (e+(C0 ((C0 (C34 b a))*f)))),U (C0 (c+(C0 ((C0 (C34 b a))*d)))),U e,U f,U c,U d,.bool (!g)] i<n [U b,U a,U f,U d,U j,U e,U k,U c,.bool g] i)))
 (K (.agg #[U j,U e,U k,U c,.bool g]) i))
 (K (.agg #[U j,U e,U k,U c,.bool g]) i)
def A12(P:Program)(f:OA)(a x:Nat)(g:OA)(d y:Nat)(h:Heap)(K:VP):Prop:=
 ∃ i,f=some i/\0<=B5 ((a:Int)-1)/\B5 ((a:Int)-1)<(a:Int)/\∃ j,h.cell? (i.add ((B5 ((a:Int)-1)).toNat*1))=some (U j)/\FCall P J4 #[U j] h (fun w c=>∃ b,w=I b/\∃ k,f=some k/\0<=B5 ((a:Int)-1)/\B5 ((a:Int)-1)<(a:Int)/\∃ l,c.cell? (k.add ((B5 ((a:Int)-1)).toNat*1))=some (U l)/\Br (decide (C0 b<0)) False
 (∃ m,f=some m/\0<=B5 ((a:Int)-2)/\B5 ((a:Int)-2)<(a:Int)/\∃ n,c.cell? (m.add ((B5 ((a:Int)-2)).toNat*1))=some (U n)/\Br (decide (C0 ((64:Int)-(C0 b))<0)) False
 (∃ (e:LP),(Br ((d:Int)==(a:Int)) (∃ o,g=some o/\0<=B5 ((a:Int)-1)/\B5 ((a:Int)-1)<(d:Int)/\∃ p,c.cell? (o.add ((B5 ((a:Int)-1)).toNat*1))=some (U p)/\Br (decide (C0 b<0)) False
 (∃ q,g=some q/\0<=B5 ((a:Int)-2)/\B5 ((a:Int)-2)<(d:Int)/\∃ r,c.cell? (q.add ((B5 ((a:Int)-2)).toNat*1))=some (U r)/\Br (decide (C0 ((64:Int)-(C0 b))<0)) False
 (e [U (bor .u64 (C0 (p*2^(min (C0 b).toNat 64))) (C36 r (2^(min (C0 ((64:Int)-(C0 b))).toNat 64))))] c)))
 (Br ((d:Int)==(B5 ((a:Int)-1))) (∃ s,g=some s/\0<=B5 ((a:Int)-2)/\B5 ((a:Int)-2)<(d:Int)/\∃ t,c.cell? (s.add ((B5 ((a:Int)-2)).toNat*1))=some (U t)/\Br (decide (C0 ((64:Int)-(C0 b))<0)) False
 (e [U (C36 t (2^(min (C0 ((64:Int)-(C0 b))).toNat 64)))] c))
 (e [U 0] c)))/\
 ∀ u v,e [U u] v->Gv P K b l n u v)))
theorem A11 a b c d e f(hvc:A12 prog a b c d e f h K):FCall prog Jb #[.slice a b c,.slice d e f] h K:=
 C8 bod func218 [.cell 4 260] ⟨[(13,⟨[7,8,10,11],[(9,5)],[.int .u64 0,.int .u64 0,.int .u64 0,.int .u64 0,.int .u64 0,.int .u64 0,.int .u64 0,.int .u64 0,.bool false],⟨([7,8,10,11,12]++Lrg 72 46),[9]⟩⟩)],[(10,⟨[8],[],[.int .u64 0],⟨([8]++Lrg 38 33),[]⟩⟩)],[],[],[]⟩ 119 [4,9] [239] [] (by kernel_rfl) hvc
def Oz(P:Program)(e:Int)(f:Int)(g:Int)(h:Heap)(K:VP):Prop:=
 FCall P Ei #[U e,U f] h (fun i j=>∃ (a:Int) (b:Int),i= .tuple #[U a,U b]/\ECall P R2 #[U b,U g,U 0] j (fun k l=>∃ (c:Int) (d:Int),k= .tuple #[U c,U d]/\K (.tuple #[U c,U (C0 (a+d))]) l))
theorem Sv a b c(hvc:Oz prog a b c h K):FCall prog L7 #[U a,U b,U c] h K:=
 C8 bod func247 [.tmp 6,.tmp 7] an0 27 [] [190] [] (by kernel_rfl) hvc
def B08(P:Program)(d:Bool)(b:OA)(a c:Nat)(h:Heap)(K:VP):Prop:=
 Br d (K (.agg #[.bool (decide ((a:Int)>(0:Int))),.slice b a c]) h)
 (K (.agg #[.bool false,.slice b a c]) h)
theorem A6g a b c d(hvc:B08 prog a b c d h K):FCall prog W9 #[.bool a,.slice b c d] h K:=
 C8 bod func197 [.cell 4 102] an0 13 [4] [] [] (by kernel_rfl) hvc
def C2h(P:Program)(a:Int)(h:Heap)(K:VP):Prop:=
 Br (decide (a<(0:Int))) (FCall P U6 #[U (C0 (0-(C0 a)))] h (fun i j=>∃ (b:OA) (c d:Nat),i= .slice b c d/\K (.agg #[.bool true,.slice b c d]) j))
 (FCall P U6 #[U (C0 a)] h (fun k l=>∃ (e:OA) (f g:Nat),k= .slice e f g/\K (.agg #[.bool false,.slice e f g]) l))
theorem B7c a(hvc:C2h prog a h K):FCall prog Ru #[I a] h K:=
 C8 bod func139 [.cell 2 102] an0 14 [2] [194] [] (by kernel_rfl) hvc
def B50(P:Program)(d:ByteArray)(h:Heap)(K:VP):Prop:=
 FCall P Dx #[.string d] h (fun e f=>∃ (a:OA) (b c:Nat),e= .slice a b c/\K (.agg #[.bool false,.slice a b c]) f)
theorem B0a a(hvc:B50 prog a h K):FCall prog Hr #[.string a] h K:=
 C8 bod func114 [.cell 2 102] an0 6 [2] [179] [] (by kernel_rfl) hvc
def Ss(P:Program)(d:ByteArray)(h:Heap)(K:VP):Prop:=
 Br (decide (((C35 d:Nat):Int)>(570:Int))) (wpH P (C38 100 1 #[(0,U 10000000000000000000)]) (fun N O=>∃ (n:OA) (o p:Nat),N= .slice n o p/\wpH P (C38 137 1 #[(0,.slice n o p)]) (fun Q R=>∃ (q:OA) (r s:Nat),Q= .slice q r s/\wpH P (C3a #[137,137] 137 #[.slice none 0 0,.slice q r s]) (fun S T=>∃ (t:OA) (u v:Nat),S= .slice t u v/\∃ (f:LP) (w:LN),f [.slice t u v] T/\
 ∀ b a e c,f [.slice b a e] c->Br (decide ((a:Int)<0)) False
 (Br (decide ((B5 ((19:Int)*2^(min ((a:Int)).toNat 64)))<((C35 d:Nat):Int))) (∃ M,b=some M/\0<=B5 ((a:Int)-1)/\B5 ((a:Int)-1)<(a:Int)/\∃ (g:OA) (i j:Nat),c.cell? (M.add ((B5 ((a:Int)-1)).toNat*1))=some (.slice g i j)/\FCall P D4 #[.slice g i j,.slice g i j] c (fun V W=>∃ (x:OA) (y z:Nat),V= .slice x y z/\wpH P (C38 137 1 #[(0,.slice x y z)]) (fun X Z=>∃ (A:OA) (B C:Nat),X= .slice A B C/\wpH P (C3a #[137,137] 137 #[.slice b a e,.slice A B C]) (fun a0 L=>∃ (k:OA) (l m:Nat),a0= .slice k l m/\f [.slice k l m] L/\w [.slice k l m] L<w [.slice b a e] c) Z) W))
 (FCall P L3 #[.string d,.slice b a e] c (fun a1 a2=>∃ (D:OA) (E F:Nat),a1= .slice D E F/\K (.slice D E F) a2)))) R) O) h)
 (FCall P L3 #[.string d,.slice none 0 0] h (fun a3 a4=>∃ (G:OA) (H J:Nat),a3= .slice G H J/\K (.slice G H J) a4))
theorem Ud a(hvc:Ss prog a h K):FCall prog Dx #[.string a] h K:=
 C8 bod func179 [.tmp 2] { loops:=[(4,⟨[3],[],[.slice none 0 0],⟨([3,4]++Lrg 12 18),[]⟩⟩)] } 33 [] [203,216] [] (by kernel_rfl) hvc
def St(P:Program)(b:ByteArray)(e:OA)(f d:Nat)(h:Heap)(K:VP):Prop:=
 ∃ (g:LP) (o:LN),g [I (B5 ((f:Int)-1))] h/\
 ∀ a c,g [I a] c->Br (decide (a>=(0:Int))) (Br (decide (a<0)) False
 (Br (decide ((B5 ((19:Int)*2^(min a.toNat 64)))>=((C35 b:Nat):Int))) (g [I (B5 (a-1))] c/\o [I (B5 (a-1))] c<o [I a] c)
 (Br (decide (a<(0:Int))) (FCall P L6 #[.string b] c (fun b4 b5=>∃ (p:OA) (q r:Nat),b4= .slice p q r/\K (.slice p q r) b5))
 (Br (decide (((C35 b:Nat):Int)<=(570:Int))) (FCall P L6 #[.string b] c (fun b6 b7=>∃ (s:OA) (t u:Nat),b6= .slice s t u/\K (.slice s t u) b7))
 (Br (decide (a<0)) False
 ((0<=B5 (((C35 b:Nat):Int)-(B5 ((19:Int)*2^(min a.toNat 64))))/\B5 (((C35 b:Nat):Int)-(B5 ((19:Int)*2^(min a.toNat 64))))<=(((b).size:Nat):Int))/\(0<=a/\a<=(d:Int))/\∃ b2,e=some b2/\0<=a/\a<(f:Int)/\∃ (v:OA) (w x:Nat),c.cell? (b2.add (a.toNat*1))=some (.slice v w x)/\FCall P L3 #[.string ((b).extract 0 ((B5 (((C35 b:Nat):Int)-(B5 ((19:Int)*2^(min a.toNat 64))))).toNat)),.slice (K0 e d 0 1) ((a.toNat)-0) (d-0)] c (fun b8 i=>∃ (y:OA) (z A:Nat),b8= .slice y z A/\Heap.le c i/\FCall P D4 #[.slice y z A,.slice v w x] i (fun b9 j=>∃ (B:OA) (C D:Nat),b9= .slice B C D/\Heap.le i j/\(0<=B5 (((C35 b:Nat):Int)-(B5 ((19:Int)*2^(min a.toNat 64))))/\B5 (((C35 b:Nat):Int)-(B5 ((19:Int)*2^(min a.toNat 64))))<=(((b).size:Nat):Int))/\(0<=a/\a<=(d:Int))/\FCall P L3 #[.string ((b).extract ((B5 (((C35 b:Nat):Int)-(B5 ((19:Int)*2^(min a.toNat 64))))).toNat) ((b).size)),.slice (K0 e d 0 1) ((a.toNat)-0) (d-0)] j (fun c0 k=>∃ (E:OA) (F G:Nat),c0= .slice E F G/\Heap.le j k/\FCall P P0 #[.slice B C D,.slice E F G] k (fun c1 b0=>∃ (H:OA) (J L:Nat),c1= .slice H J L/\Heap.le k b0/\K (.slice H J L) b0))))))))))
 (Br (decide (a<(0:Int))) (FCall P L6 #[.string b] c (fun c2 c3=>∃ (M:OA) (N O:Nat),c2= .slice M N O/\K (.slice M N O) c3))
 (Br (decide (((C35 b:Nat):Int)<=(570:Int))) (FCall P L6 #[.string b] c (fun c4 c5=>∃ (Q:OA) (R S:Nat),c4= .slice Q R S/\K (.slice Q R S) c5))
 (Br (decide (a<0)) False
 ((0<=B5 (((C35 b:Nat):Int)-(B5 ((19:Int)*2^(min a.toNat 64))))/\B5 (((C35 b:Nat):Int)-(B5 ((19:Int)*2^(min a.toNat 64))))<=(((b).size:Nat):Int))/\(0<=a/\a<=(d:Int))/\∃ b3,e=some b3/\0<=a/\a<(f:Int)/\∃ (T:OA) (V W:Nat),c.cell? (b3.add (a.toNat*1))=some (.slice T V W)/\FCall P L3 #[.string ((b).extract 0 ((B5 (((C35 b:Nat):Int)-(B5 ((19:Int)*2^(min a.toNat 64))))).toNat)),.slice (K0 e d 0 1) ((a.toNat)-0) (d-0)] c (fun c6 l=>∃ (X:OA) (Z a0:Nat),c6= .slice X Z a0/\Heap.le c l/\FCall P D4 #[.slice X Z a0,.slice T V W] l (fun c7 m=>∃ (a1:OA) (a2 a3:Nat),c7= .slice a1 a2 a3/\Heap.le l m/\(0<=B5 (((C35 b:Nat):Int)-(B5 ((19:Int)*2^(min a.toNat 64))))/\B5 (((C35 b:Nat):Int)-(B5 ((19:Int)*2^(min a.toNat 64))))<=(((b).size:Nat):Int))/\(0<=a/\a<=(d:Int))/\FCall P L3 #[.string ((b).extract ((B5 (((C35 b:Nat):Int)-(B5 ((19:Int)*2^(min a.toNat 64))))).toNat) ((b).size)),.slice (K0 e d 0 1) ((a.toNat)-0) (d-0)] m (fun c8 n=>∃ (a4:OA) (a5 a6:Nat),c8= .slice a4 a5 a6/\Heap.le m n/\FCall P P0 #[.slice a1 a2 a3,.slice a4 a5 a6] n (fun c9 b1=>∃ (a7:OA) (a8 a9:Nat),c9= .slice a7 a8 a9/\Heap.le n b1/\K (.slice a7 a8 a9) b1))))))))
theorem Ue a b c d(hvc:St prog a b c d h K):FCall prog L3 #[.string a,.slice b c d] h K:=
 C8 bod func216 [.tmp 4] ⟨[(2,⟨[5],[],[.int .i64 0],⟨([5]++Lrg 11 11),[]⟩⟩)],[],[(7,([0,1,2,3,4,5,7,8,9,10,6,11,12],[]))],[],[]⟩ 57 [] [203,216,222,244] [] (by kernel_rfl) hvc
def T2(P:Program)(o:LP)(i:LN)(a:ByteArray)(d:OA)(c f:Nat)(A:Int)(B:Int)(p:Heap)(C:Heap):Prop:=
 ∃ (j:LP) (q:LN),j [U A,I 0] C/\
 ∀ g b e,j [U g,I b] e->Br (decide (b<(c:Int))) (∃ x,d=some x/\0<=b/\b<(c:Int)/\∃ y,e.cell? (x.add (b.toNat*1))=some (U y)/\FCall P L7 #[U y,U B,U g] e (fun D E=>∃ (r:Int) (k:Int),D= .tuple #[U r,U k]/\∃ z,d=some z/\0<=b/\b<(c:Int)/\wpH P (C37 130 (.pointer (some (z.add (b.toNat*1)))) (U r)) (fun _ v=>j [U k,I (B5 (b+1))] v/\q [U k,I (B5 (b+1))] v<q [U g,I b] e) E))
 (Br (g != (0:Int)) (wpH P (C38 100 1 #[(0,U g)]) (fun F G=>∃ (s:OA) (t u:Nat),F= .slice s t u/\wpH P (C3a #[100,100] 100 #[.slice d c f,.slice s t u]) (fun H w=>∃ (l:OA) (m n:Nat),H= .slice l m n/\o [.string ((a).extract ((B5 ((C3b (B5 (((C35 a:Nat):Int)-1)) (19:Int))+1)).toNat) ((a).size)),.slice l m n] w/\i [.string ((a).extract ((B5 ((C3b (B5 (((C35 a:Nat):Int)-1)) (19:Int))+1)).toNat) ((a).size)),.slice l m n] w<i [.string a,.slice d c f] p) G) e)
 (o [.string ((a).extract ((B5 ((C3b (B5 (((C35 a:Nat):Int)-1)) (19:Int))+1)).toNat) ((a).size)),.slice d c f] e/\i [.string ((a).extract ((B5 ((C3b (B5 (((C35 a:Nat):Int)-1)) (19:Int))+1)).toNat) ((a).size)),.slice d c f] e<i [.string a,.slice d c f] p))
def Ce(P:Program)(l:LP)(m:LN)(e:ByteArray)(n:OA)(o p:Nat)(q:OA)(i:Nat)(r:Heap)(s:Heap):Prop:=
 ∃ (f:LP) (j:LN),f [U 0,U 1,I 0] r/\
 ∀ c d a b,f [U c,U d,I a] b->Br (decide (a<(i:Int))) (∃ k,q=some k/\0<=a/\a<(i:Int)/\∃ g,b.cell? (k.add (a.toNat*1))=some (Y g)/\f [U (C0 ((C0 ((10:Int)*c))+(C0 (wu8 (g-48))))),U (C0 (d*(10:Int))),I (B5 (a+1))] b/\j [U (C0 ((C0 ((10:Int)*c))+(C0 (wu8 (g-48))))),U (C0 (d*(10:Int))),I (B5 (a+1))] b<j [U c,U d,I a] b)
 ((0<=B5 ((C3b (B5 (((C35 e:Nat):Int)-1)) (19:Int))+1)/\B5 ((C3b (B5 (((C35 e:Nat):Int)-1)) (19:Int))+1)<=(((e).size:Nat):Int))/\T2 P l m e n o p c d s b)
def Il(P:Program)(j:ByteArray)(h:Heap)(K:VP):Prop:=
 ∃ (c:LP) (k:LN),c [.string j,.slice none 0 0] h/\
 ∀ a d e f b,c [.string a,.slice d e f] b->Br (decide (((C35 a:Nat):Int)>(0:Int))) ((0<=B5 ((C3b (B5 (((C35 a:Nat):Int)-1)) (19:Int))+1)/\B5 ((C3b (B5 (((C35 a:Nat):Int)-1)) (19:Int))+1)<=(((a).size:Nat):Int))/\wpH P (convert 9 199 (.string ((a).extract 0 ((B5 ((C3b (B5 (((C35 a:Nat):Int)-1)) (19:Int))+1)).toNat)))) (fun m n=>∃ (g:OA) (i l:Nat),m= .slice g i l/\Ce P c k a d e f g i n b) b)
 (K (.slice d e f) b)
def Oy(P:Program)(a:ByteArray)(h:Heap)(K:VP):Prop:=
 Il P a h K
theorem Su a(hvc:Oy prog a h K):FCall prog L6 #[.string a] h K:=
 C8 bod func244 [.tmp 2] { loops:=[(2,⟨[0,3],[],[.string ⟨#[]⟩,.slice none 0 0],⟨([0,3,4,5,6]++Lrg 8 58),[]⟩⟩),(6,⟨[5,6,25],[],[.int .u64 0,.int .u64 0,.int .i64 0],⟨([5,6,8]++Lrg 25 13),[]⟩⟩),(14,⟨[9,44],[],[.int .u64 0,.int .i64 0],⟨([9,10,11]++Lrg 44 16),[]⟩⟩)] } 67 [] [247] [] (by kernel_rfl) hvc
def Pc(P:Program)(f:OA)(g i:Nat)(j:OA)(b r:Nat)(h:Heap)(K:VP):Prop:=
 Br ((b:Int)==(0:Int)) (wpH P (C38 199 1 #[(0,Y (48:Int))]) (fun a7 a8=>∃ (s:OA) (t u:Nat),a7= .slice s t u/\wpH P (C3a #[199,199] 199 #[.slice f g i,.slice s t u]) (fun a9 b0=>∃ (v:OA) (w x:Nat),a9= .slice v w x/\K (.slice v w x) b0) a8) h)
 (Br ((b:Int)==(1:Int)) (∃ a1,j=some a1/\0<=(0:Int)/\(0:Int)<(b:Int)/\∃ a2,h.cell? (a1.add (((0:Int)).toNat*1))=some (U a2)/\FCall P 225 #[.slice f g i,U a2,I 10] h (fun b1 b2=>∃ (y:OA) (z A:Nat),b1= .slice y z A/\K (.slice y z A) b2))
 (wpH P (C38 100 1 #[(0,U 10000000000000000000)]) (fun b3 b4=>∃ (B:OA) (C D:Nat),b3= .slice B C D/\wpH P (C38 137 1 #[(0,.slice B C D)]) (fun b5 b6=>∃ (E:OA) (F G:Nat),b5= .slice E F G/\∃ (k:LP) (H:LN),k [.slice E F G] b6/\
 ∀ c a e d,k [.slice c a e] d->Br (decide ((b:Int)>(30:Int))) (∃ a3,c=some a3/\0<=B5 ((a:Int)-1)/\B5 ((a:Int)-1)<(a:Int)/\∃ (a5:OA) (J a6:Nat),d.cell? (a3.add ((B5 ((a:Int)-1)).toNat*1))=some (.slice a5 J a6)/\Br (decide ((B5 ((2:Int)*(J:Int)))<=(b:Int))) (∃ a4,c=some a4/\0<=B5 ((a:Int)-1)/\B5 ((a:Int)-1)<(a:Int)/\∃ (l:OA) (m n:Nat),d.cell? (a4.add ((B5 ((a:Int)-1)).toNat*1))=some (.slice l m n)/\FCall P D4 #[.slice l m n,.slice l m n] d (fun b7 b8=>∃ (L:OA) (M N:Nat),b7= .slice L M N/\wpH P (C38 137 1 #[(0,.slice L M N)]) (fun b9 c0=>∃ (O:OA) (Q R:Nat),b9= .slice O Q R/\wpH P (C3a #[137,137] 137 #[.slice c a e,.slice O Q R]) (fun c1 a0=>∃ (o:OA) (p q:Nat),c1= .slice o p q/\k [.slice o p q] a0/\H [.slice o p q] a0<H [.slice c a e] d) c0) b8))
 (FCall P G2 #[.slice f g i,.slice j b r,I 0,.slice c a e] d (fun c2 c3=>∃ (S:OA) (T V:Nat),c2= .slice S T V/\K (.slice S T V) c3)))
 (FCall P G2 #[.slice f g i,.slice j b r,I 0,.slice c a e] d (fun c4 c5=>∃ (W:OA) (X Z:Nat),c4= .slice W X Z/\K (.slice W X Z) c5))) b4) h))
theorem Ta a b c d e f(hvc:Pc prog a b c d e f h K):FCall prog V8 #[.slice a b c,.slice d e f] h K:=
 C8 bod func198 [.tmp 4] { loops:=[(6,⟨[5],[],[.slice none 0 0],⟨([5,6]++Lrg 23 28),[]⟩⟩)] } 55 [] [203,225,226] [] (by kernel_rfl) hvc
def Gz(P:Program)(e:OA)(f g:Nat)(n:OA)(i o:Nat)(c:Int)(d:OA)(a b:Nat)(h:Heap)(K:VP):Prop:=
 Br (decide ((B5 ((a:Int)-1))<(0:Int))) (FCall P S6 #[.slice e f g,.slice n i o,I c] h (fun V W=>∃ (s:OA) (t u:Nat),V= .slice s t u/\K (.slice s t u) W))
 (Br (decide ((i:Int)<=(30:Int))) (FCall P S6 #[.slice e f g,.slice n i o,I c] h (fun X Z=>∃ (v:OA) (w x:Nat),X= .slice v w x/\K (.slice v w x) Z))
 (∃ T,d=some T/\0<=B5 ((a:Int)-1)/\B5 ((a:Int)-1)<(a:Int)/\∃ (y:OA) (z A:Nat),h.cell? (T.add ((B5 ((a:Int)-1)).toNat*1))=some (.slice y z A)/\FCall P O2 #[.slice n i o,.slice y z A] h (fun a0 r=>∃ (p:OA) (j q:Nat) (k:OA) (l m:Nat),a0= .tuple #[.slice p j q,.slice k l m]/\Br (decide (B5 ((a:Int)-1)<0)) False
 (Br ((j:Int)==(0:Int)) (Br (c==(0:Int)) ((0<=B5 ((a:Int)-1)/\B5 ((a:Int)-1)<=(b:Int))/\FCall P G2 #[.slice e f g,.slice k l m,I 0,.slice (K0 d b 0 1) (((B5 ((a:Int)-1)).toNat)-0) (b-0)] r (fun a1 a2=>∃ (B:OA) (C D:Nat),a1= .slice B C D/\K (.slice B C D) a2))
 ((0<=B5 ((a:Int)-1)/\B5 ((a:Int)-1)<=(b:Int))/\FCall P G2 #[.slice e f g,.slice p j q,I (if (0:Int)>(B5 (c-(B5 ((19:Int)*2^(min (B5 ((a:Int)-1)).toNat 64))))) then (0:Int) else B5 (c-(B5 ((19:Int)*2^(min (B5 ((a:Int)-1)).toNat 64))))),.slice (K0 d b 0 1) (((B5 ((a:Int)-1)).toNat)-0) (b-0)] r (fun a3 a4=>∃ (E:OA) (F G:Nat),a3= .slice E F G/\(0<=B5 ((a:Int)-1)/\B5 ((a:Int)-1)<=(b:Int))/\FCall P G2 #[.slice E F G,.slice k l m,I (B5 ((19:Int)*2^(min (B5 ((a:Int)-1)).toNat 64))),.slice (K0 d b 0 1) (((B5 ((a:Int)-1)).toNat)-0) (b-0)] a4 (fun a5 a6=>∃ (H:OA) (J L:Nat),a5= .slice H J L/\K (.slice H J L) a6))))
 ((0<=B5 ((a:Int)-1)/\B5 ((a:Int)-1)<=(b:Int))/\FCall P G2 #[.slice e f g,.slice p j q,I (if (0:Int)>(B5 (c-(B5 ((19:Int)*2^(min (B5 ((a:Int)-1)).toNat 64))))) then (0:Int) else B5 (c-(B5 ((19:Int)*2^(min (B5 ((a:Int)-1)).toNat 64))))),.slice (K0 d b 0 1) (((B5 ((a:Int)-1)).toNat)-0) (b-0)] r (fun a7 a8=>∃ (M:OA) (N O:Nat),a7= .slice M N O/\(0<=B5 ((a:Int)-1)/\B5 ((a:Int)-1)<=(b:Int))/\FCall P G2 #[.slice M N O,.slice k l m,I (B5 ((19:Int)*2^(min (B5 ((a:Int)-1)).toNat 64))),.slice (K0 d b 0 1) (((B5 ((a:Int)-1)).toNat)-0) (b-0)] a8 (fun a9 b0=>∃ (Q:OA) (R S:Nat),a9= .slice Q R S/\K (.slice Q R S) b0)))))))
theorem Gy a b c d e f g i j k(hvc:Gz prog a b c d e f g i j k h K):FCall prog G2 #[.slice a b c,.slice d e f,I g,.slice i j k] h K:=
 C8 bod func226 [.tmp 8] an0 68 [] [219,226,250] [] (by kernel_rfl) hvc
def Cg(P:Program)(H:Nat)(J:LP)(p:LN)(q:OA)(r s:Nat)(j:Int)(L:Int)(M:Heap)(N:Heap):Prop:=
 ∃ (k:LP) (l:LN),k [.slice q r s,U L,I (B5 (j+(H:Int)))] M/\
 ∀ c b d f a e,k [.slice c b d,U f,I a] e->Br (f != (0:Int)) (Br (a==(b:Int)) (wpH P (C38 100 1 #[(0,U 0)]) (fun O Q=>∃ (t:OA) (u v:Nat),O= .slice t u v/\wpH P (C3a #[100,100] 100 #[.slice c b d,.slice t u v]) (fun R y=>∃ (g:OA) (i m:Nat),R= .slice g i m/\∃ B,g=some B/\0<=a/\a<(i:Int)/\∃ C,y.cell? (B.add (a.toNat*1))=some (U C)/\ECall P R2 #[U C,U f,U 0] y (fun S T=>∃ (w:Int) (n:Int),S= .tuple #[U w,U n]/\∃ D,g=some D/\0<=a/\a<(i:Int)/\wpH P (C37 130 (.pointer (some (D.add (a.toNat*1)))) (U w)) (fun _ z=>k [.slice g i m,U n,I (B5 (a+1))] z/\l [.slice g i m,U n,I (B5 (a+1))] z<l [.slice c b d,U f,I a] e) T)) Q) e)
 (∃ E,c=some E/\0<=a/\a<(b:Int)/\∃ F,e.cell? (E.add (a.toNat*1))=some (U F)/\ECall P R2 #[U F,U f,U 0] e (fun V W=>∃ (x:Int) (o:Int),V= .tuple #[U x,U o]/\∃ G,c=some G/\0<=a/\a<(b:Int)/\wpH P (C37 130 (.pointer (some (G.add (a.toNat*1)))) (U x)) (fun _ A=>k [.slice c b d,U o,I (B5 (a+1))] A/\l [.slice c b d,U o,I (B5 (a+1))] A<l [.slice c b d,U f,I a] e) W)))
 (J [.slice c b d,I (B5 (j+1))] e/\p [.slice c b d,I (B5 (j+1))] e<p [.slice q r s,I j] N)
def Er(P:Program)(K:VP)(m:OA)(b n:Nat)(o:OA)(i:Nat)(p:OA)(q r:Nat)(s:Heap):Prop:=
 ∃ (f:LP) (t:LN),f [.slice p q r,I 0] s/\
 ∀ e g c a d,f [.slice e g c,I a] d->Br (decide (a<(i:Int))) (∃ j,o=some j/\0<=a/\a<(i:Int)/\∃ k,d.cell? (j.add (a.toNat*1))=some (U k)/\(0<=B5 (a+(b:Int))/\B5 (a+(b:Int))<=(c:Int))/\(0<=a/\a<=(((B5 (a+(b:Int))).toNat:Nat):Int))/\FCall P Al #[.slice (K0 e c (a.toNat) 1) (((B5 (a+(b:Int))).toNat)-(a.toNat)) (c-(a.toNat)),.slice m b n,U k] d (fun u v=>∃ l,u=U l/\Cg P b f t e g c a l v d))
 (K (.slice e g c) d)
def Ly(P:Program)(q:OA)(r s:Nat)(K:VP)(t:OA)(j u:Nat)(v:OA)(k:Nat)(w:Heap):Prop:=
 ∃ (e:LP) (l:LN),e [.slice q r s] w/\
 ∀ b a c d,e [.slice b a c] d->Br (decide ((a:Int)<(B5 ((j:Int)+(k:Int))))) (wpH P (C38 100 1 #[(0,U 0)]) (fun x y=>∃ (m:OA) (n o:Nat),x= .slice m n o/\wpH P (C3a #[100,100] 100 #[.slice b a c,.slice m n o]) (fun z p=>∃ (f:OA) (g i:Nat),z= .slice f g i/\e [.slice f g i] p/\l [.slice f g i] p<l [.slice b a c] d) y) d)
 (Er P K t j u v k b a c d)
def Td(P:Program)(C:OA)(D E:Nat)(m:OA)(b n:Nat)(o:OA)(c p:Nat)(h:Heap)(K:VP):Prop:=
 ∃ (d:LP),(Br (decide ((b:Int)<(c:Int))) (d [.slice o c p,.slice m b n] h)
 (d [.slice m b n,.slice o c p] h))/\
 ∀ f g i j a k l,d [.slice f g i,.slice j a k] l->∃ (e:LP),(Br (decide ((a:Int)>=(40:Int))) (FCall P D4 #[.slice f g i,.slice j a k] l (fun F G=>∃ (q:OA) (r s:Nat),F= .slice q r s/\wpH P (C38 100 1 #[(0,U 1)]) (fun H J=>∃ (t:OA) (u v:Nat),H= .slice t u v/\e [.slice q r s,.slice t u v] J) G))
 (e [.slice f g i,.slice j a k] l))/\
 ∀ w x y z A L B,e [.slice w x y,.slice z A L] B->Ly P C D E K w x y z A B
theorem Uh a b c d e f g i j(hvc:Td prog a b c d e f g i j h K):FCall prog Am #[.slice a b c,.slice d e f,.slice g i j] h K:=
 C8 bod func199 [.tmp 6] ⟨[(5,⟨[0],[],[.slice none 0 0],⟨([0]++Lrg 25 11),[]⟩⟩),(8,⟨[0,38],[],[.slice none 0 0,.int .i64 0],⟨([0,7,8,9,10]++Lrg 38 43),[]⟩⟩),(12,⟨[0,9,10],[],[.slice none 0 0,.int .u64 0,.int .i64 0],⟨([0,9,10]++Lrg 57 23),[]⟩⟩)],[(3,⟨[1,2],[],[.slice none 0 0,.slice none 0 0],⟨[1,2,11,12,13,14,15,16,17],[]⟩⟩),(5,⟨[1,2],[],[.slice none 0 0,.slice none 0 0],⟨[1,2,18,19,20,21,22,23,24],[]⟩⟩)],[],[],[]⟩ 82 [] [203,227] [227] (by kernel_rfl) hvc
def Gx(P:Program)(i:OA)(d j:Nat)(k:OA)(l m:Nat)(h:Heap)(K:VP):Prop:=
 wpH P (C39 100 (I (d:Int)) (I (d:Int))) (fun n o=>∃ (a:OA) (b c:Nat),n= .slice a b c/\wpH P (C3c #[100,100] 3 #[.slice a b c,.slice i d j]) (fun p q=>∃ v,p=I v/\FCall P S3 #[.slice a b c,.slice k l m] q (fun r s=>r= .tuple #[]/\FCall P H9 #[.slice a b c] s (fun t u=>∃ (e:OA) (f g:Nat),t= .slice e f g/\K (.slice e f g) u))) o) h
theorem Lw a b c d e f(hvc:Gx prog a b c d e f h K):FCall prog Q5 #[.slice a b c,.slice d e f] h K:=
 C8 bod func202 [.tmp 4] an0 17 [] [200,231] [231] (by kernel_rfl) hvc
def B4y(P:Program)(b:Bool)(e:OA)(c f:Nat)(h:Heap)(K:VP):Prop:=
 Br ((c:Int)==(0:Int)) (K (.tuple #[I 0,.bool true]) h)
 (∃ d,e=some d/\0<=(0:Int)/\(0:Int)<(c:Int)/\∃ a,h.cell? (d.add (((0:Int)).toNat*1))=some (U a)/\Br (decide ((c:Int)>(1:Int))) (K (.tuple #[I 0,.bool false]) h)
 (Br b (Br (decide (a<=(9223372036854775808:Int))) (K (.tuple #[I (B5 (C0 (0-a))),.bool true]) h)
 (Br (!b) (Br (decide (a<=(9223372036854775807:Int))) (K (.tuple #[I (B5 a),.bool true]) h)
 (K (.tuple #[I 0,.bool false]) h))
 (K (.tuple #[I 0,.bool false]) h)))
 (Br (!b) (Br (decide (a<=(9223372036854775807:Int))) (K (.tuple #[I (B5 a),.bool true]) h)
 (K (.tuple #[I 0,.bool false]) h))
 (K (.tuple #[I 0,.bool false]) h))))
theorem B05 a b c d(hvc:B4y prog a b c d h K):FCall prog Xi #[.agg #[.bool a,.slice b c d]] h K:=
 C8 bod func147 [.tmp 2,.tmp 3] an0 38 [1] [] [] (by kernel_rfl) hvc
def B07(P:Program)(t:Bool)(a:OA)(b c:Nat)(d:OA)(e f:Nat)(h:Heap)(K:VP):Prop:=
 Br t (wpH P (C38 199 1 #[(0,Y (45:Int))]) (fun u v=>∃ (g:OA) (i j:Nat),u= .slice g i j/\wpH P (C3a #[199,199] 199 #[.slice d e f,.slice g i j]) (fun w x=>∃ (k:OA) (l m:Nat),w= .slice k l m/\FCall P V8 #[.slice k l m,.slice a b c] x (fun y z=>∃ (n:OA) (o p:Nat),y= .slice n o p/\K (.slice n o p) z)) v) h)
 (FCall P V8 #[.slice d e f,.slice a b c] h (fun A B=>∃ (q:OA) (r s:Nat),A= .slice q r s/\K (.slice q r s) B))
theorem A6f a b c d e f g(hvc:B07 prog a b c d e f g h K):FCall prog Fx #[.agg #[.bool a,.slice b c d],.slice e f g] h K:=
 C8 bod func150 [.tmp 4] an0 14 [2] [198] [] (by kernel_rfl) hvc
def B01(P:Program)(e:Bool)(f:OA)(g i:Nat)(h:Heap)(K:VP):Prop:=
 FCall P Fx #[.agg #[.bool e,.slice f g i],.slice none 0 0] h (fun j k=>∃ (a:OA) (b c:Nat),j= .slice a b c/\wpH P (convert 199 9 (.slice a b c)) (fun l m=>∃ (d:ByteArray),l= .string d/\K (.string d) m) k)
theorem A6c a b c d(hvc:B01 prog a b c d h K):FCall prog Rp #[.agg #[.bool a,.slice b c d]] h K:=
 C8 bod func149 [.tmp 2] an0 6 [1] [150] [] (by kernel_rfl) hvc
def B9e(P:Program)(a:Bool)(c:OA)(b d:Nat)(h:Heap)(K:VP):Prop:=
 Br ((b:Int)==(0:Int)) (K (I 0) h)
 (Br a (K (I (-1:Int)) h)
 (K (I 1) h))
theorem B3c a b c d(hvc:B9e prog a b c d h K):FCall prog Rq #[.agg #[.bool a,.slice b c d]] h K:=
 C8 bod func184 [.tmp 2] an0 11 [1] [] [] (by kernel_rfl) hvc
def B03(P:Program)(b:Bool)(c:OA)(a d:Nat)(h:Heap)(K:VP):Prop:=
 K (.bool ((a:Int)==(0:Int))) h
theorem A6e a b c d(hvc:B03 prog a b c d h K):FCall prog G0 #[.agg #[.bool a,.slice b c d]] h K:=
 C8 bod func138 [.tmp 2] an0 7 [1] [] [] (by kernel_rfl) hvc
def B4x(P:Program)(d:Bool)(e:OA)(a f:Nat)(h:Heap)(K:VP):Prop:=
 Br (!d) (Br ((a:Int)==(1:Int)) (∃ b,e=some b/\0<=(0:Int)/\(0:Int)<(a:Int)/\∃ c,h.cell? (b.add (((0:Int)).toNat*1))=some (U c)/\K (.bool (c==(1:Int))) h)
 (K (.bool false) h))
 (K (.bool false) h)
theorem B04 a b c d(hvc:B4x prog a b c d h K):FCall prog V7 #[.agg #[.bool a,.slice b c d]] h K:=
 C8 bod func116 [.tmp 2] an0 19 [1] [] [] (by kernel_rfl) hvc
def B4z(P:Program)(b:Bool)(c:OA)(d e:Nat)(f:Bool)(g:OA)(i j:Nat)(h:Heap)(K:VP):Prop:=
 Br (b==f) (FCall P I5 #[.slice c d e,.slice g i j] h (fun k l=>∃ a,k=I a/\K (.bool (a==(0:Int))) l))
 (K (.bool false) h)
theorem B06 a b c d e f g i(hvc:B4z prog a b c d e f g i h K):FCall prog Xj #[.agg #[.bool a,.slice b c d],.agg #[.bool e,.slice f g i]] h K:=
 C8 bod func192 [.tmp 4] an0 18 [2,3] [201] [] (by kernel_rfl) hvc
def C2d(P:Program)(e:Bool)(f:OA)(g i:Nat)(h:Heap)(K:VP):Prop:=
 FCall P W9 #[.bool (!e),.slice f g i] h (fun j k=>∃ (a:Bool) (b:OA) (c d:Nat),j= .agg #[.bool a,.slice b c d]/\K (.agg #[.bool a,.slice b c d]) k)
theorem B78 a b c d(hvc:C2d prog a b c d h K):FCall prog Kr #[.agg #[.bool a,.slice b c d]] h K:=
 C8 bod func145 [.cell 2 102] an0 9 [1,2] [197] [] (by kernel_rfl) hvc
def C2e(P:Program)(k:Bool)(l:OA)(m n:Nat)(o:Bool)(p:OA)(q r:Nat)(h:Heap)(K:VP):Prop:=
 FCall P D4 #[.slice l m n,.slice p q r] h (fun s a=>∃ (b:OA) (c d:Nat),s= .slice b c d/\Heap.le h a/\FCall P W9 #[.bool (!(k==o)),.slice b c d] a (fun t j=>∃ (e:Bool) (f:OA) (g i:Nat),t= .agg #[.bool e,.slice f g i]/\Heap.le a j/\K (.agg #[.bool e,.slice f g i]) j))
theorem B79 a b c d e f g i(hvc:C2e prog a b c d e f g i h K):FCall prog Om #[.agg #[.bool a,.slice b c d],.agg #[.bool e,.slice f g i]] h K:=
 C8 bod func154 [.cell 4 102] an0 16 [2,3,4] [197,203] [] (by kernel_rfl) hvc
def B02(P:Program)(b:Bool)(u:OA)(v w:Nat)(x:Bool)(y:OA)(c z:Nat)(h:Heap)(K:VP):Prop:=
 Br ((c:Int)==(0:Int)) (K (.tuple #[.agg #[.bool false,.slice none 0 0],.agg #[.bool false,.slice none 0 0]]) h)
 (FCall P O2 #[.slice u v w,.slice y c z] h (fun A s=>∃ (d:OA) (e f:Nat) (g:OA) (i j:Nat),A= .tuple #[.slice d e f,.slice g i j]/\FCall P W9 #[.bool (!(b==x)),.slice d e f] s (fun B a=>∃ (k:Bool) (l:OA) (m n:Nat),B= .agg #[.bool k,.slice l m n]/\Heap.le s a/\FCall P W9 #[.bool b,.slice g i j] a (fun C t=>∃ (o:Bool) (p:OA) (q r:Nat),C= .agg #[.bool o,.slice p q r]/\Heap.le a t/\K (.tuple #[.agg #[.bool k,.slice l m n],.agg #[.bool o,.slice p q r]]) t))))
theorem A6d a b c d e f g i(hvc:B02 prog a b c d e f g i h K):FCall prog Rr #[.agg #[.bool a,.slice b c d],.agg #[.bool e,.slice f g i]] h K:=
 C8 bod func195 [.cell 4 102,.cell 5 102] { orders:=[(4,([0,1,2,3,4,5,7,8,9,6,10,11,12],[]))] } 33 [2,3,4,5] [197,219] [] (by kernel_rfl) hvc
def C2c(P:Program)(a:Bool)(b:OA)(c d:Nat)(e:Bool)(f:OA)(g i:Nat)(h:Heap)(K:VP):Prop:=
 FCall P V7 #[.agg #[.bool e,.slice f g i]] h (fun t o=>∃ (j:Bool),t= .bool j/\Br j (K (.agg #[.bool a,.slice b c d]) o)
 (FCall P Rr #[.agg #[.bool a,.slice b c d],.agg #[.bool e,.slice f g i]] o (fun u v=>∃ (k:Bool) (l:OA) (m n:Nat) (p:Bool) (q:OA) (r s:Nat),u= .tuple #[.agg #[.bool k,.slice l m n],.agg #[.bool p,.slice q r s]]/\K (.agg #[.bool k,.slice l m n]) v)))
theorem B77 a b c d e f g i(hvc:C2c prog a b c d e f g i h K):FCall prog Kq #[.agg #[.bool a,.slice b c d],.agg #[.bool e,.slice f g i]] h K:=
 C8 bod func140 [.cell 4 102] an0 17 [2,3,4,5,6] [116,195] [] (by kernel_rfl) hvc
def C2g(P:Program)(m:Bool)(d:OA)(e f:Nat)(n:Bool)(g:OA)(i j:Nat)(h:Heap)(K:VP):Prop:=
 FCall P Dy #[.slice d e f,.slice g i j] h (fun k l=>∃ (a:OA) (b c:Nat),k= .slice a b c/\K (.agg #[.bool false,.slice a b c]) l)
theorem B7b a b c d e f g i(hvc:C2g prog a b c d e f g i h K):FCall prog Rs #[.agg #[.bool a,.slice b c d],.agg #[.bool e,.slice f g i]] h K:=
 C8 bod func115 [.cell 4 102] an0 11 [2,3,4] [180] [] (by kernel_rfl) hvc
def C2f(P:Program)(z:Bool)(d:OA)(a e:Nat)(A:Bool)(f:OA)(b g:Nat)(h:Heap)(K:VP):Prop:=
 Br ((a:Int)==(0:Int)) (K (.agg #[.bool false,.slice none 0 0]) h)
 (Br ((b:Int)==(0:Int)) (K (.agg #[.bool false,.slice none 0 0]) h)
 (FCall P Dy #[.slice d a e,.slice f b g] h (fun v c=>∃ (i:OA) (j k:Nat),v= .slice i j k/\Heap.le h c/\FCall P O2 #[.slice f b g,.slice i j k] c (fun w r=>∃ (l:OA) (m n:Nat) (s:OA) (t u:Nat),w= .tuple #[.slice l m n,.slice s t u]/\Heap.le c r/\FCall P D4 #[.slice d a e,.slice l m n] r (fun x y=>∃ (o:OA) (p q:Nat),x= .slice o p q/\K (.agg #[.bool false,.slice o p q]) y)))))
theorem B7a a b c d e f g i(hvc:C2f prog a b c d e f g i h K):FCall prog A8z #[.agg #[.bool a,.slice b c d],.agg #[.bool e,.slice f g i]] h K:=
 C8 bod func193 [.cell 4 102] an0 34 [2,3,4] [180,203,219] [] (by kernel_rfl) hvc
def B56(P:Program)(i:OA)(h:Heap)(K:VP):Prop:=
 ∃ F,i=some F/\∃ (j:OA) (k l:Nat),h.cell? (F.add 0)=some (.slice j k l)/\∃ G,i=some G/\∃ (m:OA) (n o:Nat),h.cell? (G.add 1)=some (.slice m n o)/\FCall P H9 #[.slice j k l] h (fun J g=>∃ (a:OA) (b c:Nat),J= .slice a b c/\Heap.le h g/\FCall P H9 #[.slice m n o] g (fun L D=>∃ (d:OA) (e f:Nat),L= .slice d e f/\Heap.le g D/\FCall P I5 #[.slice a b c,.slice d e f] D (fun M E=>∃ H,M=I H/\Br (decide (H>=(0:Int))) (FCall P Q5 #[.slice a b c,.slice d e f] E (fun N O=>∃ (p:OA) (q r:Nat),N= .slice p q r/\FCall P W9 #[.bool false,.slice p q r] O (fun Q R=>∃ (s:Bool) (t:OA) (u v:Nat),Q= .agg #[.bool s,.slice t u v]/\K (.agg #[.bool s,.slice t u v]) R)))
 (FCall P Q5 #[.slice d e f,.slice a b c] E (fun S T=>∃ (w:OA) (x y:Nat),S= .slice w x y/\FCall P W9 #[.bool true,.slice w x y] T (fun V W=>∃ (z:Bool) (A:OA) (B C:Nat),V= .agg #[.bool z,.slice A B C]/\K (.agg #[.bool z,.slice A B C]) W))))))
theorem B0j a(hvc:B56 prog a h K):FCall prog Pz #[.pointer a] h K:=
 C8 bod func153 [.cell 2 102] { orders:=[(1,([0,1,2,3,5,6,7,8,4,9,10,11],[]))] } 27 [2] [197,200,201,202] [] (by kernel_rfl) hvc
def B52(P:Program)(T:Int)(V:Int)(W:Int)(X:Int)(Z:Bool)(q:OA)(j b7:Nat)(r:OA)(s b8:Nat)(h:Heap)(K:VP):Prop:=
 ∃ (k:LP) (l:LN),k [U 0,U 0,U 0,U 0,U 0,U 0,I 0] h/\
 ∀ m n o p g i a b,k [U m,U n,U o,U p,U g,U i,I a] b->Br (decide (a<(j:Int))) (∃ M,q=some M/\0<=a/\a<(j:Int)/\∃ B,b.cell? (M.add (a.toNat*1))=some (U B)/\∃ N,r=some N/\0<=a/\a<(s:Int)/\∃ C,b.cell? (N.add (a.toNat*1))=some (U C)/\FCall P L7 #[U B,U T,U m] b (fun a0 a1=>∃ (t:Int) (c:Int),a0= .tuple #[U t,U c]/\FCall P L7 #[U C,U W,U n] a1 (fun a2 a3=>∃ (u:Int) (d:Int),a2= .tuple #[U u,U d]/\FCall P L7 #[U C,U X,U o] a3 (fun a4 a5=>∃ (v:Int) (e:Int),a4= .tuple #[U v,U e]/\FCall P L7 #[U B,U V,U p] a5 (fun a6 H=>∃ (w:Int) (f:Int),a6= .tuple #[U w,U f]/\Br Z (ECall P At #[U t,U u,U g] H (fun a7 a8=>∃ (D:Int) (x:Int),a7= .tuple #[U D,U x]/\∃ O,q=some O/\0<=a/\a<(j:Int)/\wpH P (C37 130 (.pointer (some (O.add (a.toNat*1)))) (U D)) (fun _ a9=>ECall P At #[U v,U w,U i] a9 (fun b0 b1=>∃ (E:Int) (y:Int),b0= .tuple #[U E,U y]/\∃ Q,r=some Q/\0<=a/\a<(s:Int)/\wpH P (C37 130 (.pointer (some (Q.add (a.toNat*1)))) (U E)) (fun _ J=>k [U c,U d,U e,U f,U x,U y,I (B5 (a+1))] J/\l [U c,U d,U e,U f,U x,U y,I (B5 (a+1))] J<l [U m,U n,U o,U p,U g,U i,I a] b) b1)) a8))
 (ECall P At #[U u,U t,U g] H (fun b2 b3=>∃ (F:Int) (z:Int),b2= .tuple #[U F,U z]/\∃ R,q=some R/\0<=a/\a<(j:Int)/\wpH P (C37 130 (.pointer (some (R.add (a.toNat*1)))) (U F)) (fun _ b4=>ECall P At #[U w,U v,U i] b4 (fun b5 b6=>∃ (G:Int) (A:Int),b5= .tuple #[U G,U A]/\∃ S,r=some S/\0<=a/\a<(s:Int)/\wpH P (C37 130 (.pointer (some (S.add (a.toNat*1)))) (U G)) (fun _ L=>k [U c,U d,U e,U f,U z,U A,I (B5 (a+1))] L/\l [U c,U d,U e,U f,U z,U A,I (B5 (a+1))] L<l [U m,U n,U o,U p,U g,U i,I a] b) b6)) b3)))))))
 (K (.tuple #[]) b)
theorem B0c a b c d e f g i j k l(hvc:B52 prog a b c d e f g i j k l h K):FCall prog Xk #[.agg #[U a,U b,U c,U d,.bool e],.slice f g i,.slice j k l] h K:=
 C8 bod func220 [] { loops:=[(4,⟨[6,7,8,9,10,11,21],[],[.int .u64 0,.int .u64 0,.int .u64 0,.int .u64 0,.int .u64 0,.int .u64 0,.int .i64 0],⟨(Lrg 6 13++Lrg 21 68),[]⟩⟩)] } 89 [3] [247] [] (by kernel_rfl) hvc
def A1s(P:Program)(i:Int)(f:Int)(c:Int)(a:Int)(l:LP)(n:Heap):Prop:=
 ∃ (j:LP) (m:LN),j [U (C0 (C34 (bor .u64 (C0 (i*2^(min (C0 a).toNat 64))) (C36 f (2^(min (C0 ((64:Int)-(C0 a))).toNat 64)))) (C36 (C0 (c*2^(min (C0 a).toNat 64))) (2^(min ((32:Int)).toNat 64))))),U (C0 ((bor .u64 (C0 (i*2^(min (C0 a).toNat 64))) (C36 f (2^(min (C0 ((64:Int)-(C0 a))).toNat 64))))-(C0 ((C0 (C34 (bor .u64 (C0 (i*2^(min (C0 a).toNat 64))) (C36 f (2^(min (C0 ((64:Int)-(C0 a))).toNat 64)))) (C36 (C0 (c*2^(min (C0 a).toNat 64))) (2^(min ((32:Int)).toNat 64)))))*(C36 (C0 (c*2^(min (C0 a).toNat 64))) (2^(min ((32:Int)).toNat 64)))))))] n/\
 ∀ b d e,j [U b,U d] e->∃ (k:LP),(Br (decide (b>=(4294967296:Int))) (k [] e)
 (Br (decide ((C0 (b*(Nr .u64 (C0 (c*2^(min (C0 a).toNat 64))) (4294967295:Int))))>(C0 ((C0 ((4294967296:Int)*d))+(C36 (C0 (f*2^(min (C0 a).toNat 64))) (2^(min ((32:Int)).toNat 64))))))) (k [] e)
 (l [U b] e)))/\
 ∀ g,k [] g->Br (decide ((C0 (d+(C36 (C0 (c*2^(min (C0 a).toNat 64))) (2^(min ((32:Int)).toNat 64)))))>=(4294967296:Int))) (l [U (C0 (b-1))] g)
 (j [U (C0 (b-1)),U (C0 (d+(C36 (C0 (c*2^(min (C0 a).toNat 64))) (2^(min ((32:Int)).toNat 64)))))] g/\m [U (C0 (b-1)),U (C0 (d+(C36 (C0 (c*2^(min (C0 a).toNat 64))) (2^(min ((32:Int)).toNat 64)))))] g<m [U b,U d] e)
def A1r(P:Program)(i:Int)(d:Int)(b:Int)(a:Int)(j:Int)(m:LP)(o:Heap):Prop:=
 ∃ (k:LP) (n:LN),k [U (C0 ((C0 ((C0 ((C0 ((bor .u64 (C0 (i*2^(min (C0 a).toNat 64))) (C36 d (2^(min (C0 ((64:Int)-(C0 a))).toNat 64))))*(4294967296:Int)))+(C36 (C0 (d*2^(min (C0 a).toNat 64))) (2^(min ((32:Int)).toNat 64)))))-(C0 (j*(C0 (b*2^(min (C0 a).toNat 64)))))))-(C0 ((C0 (C34 (C0 ((C0 ((C0 ((bor .u64 (C0 (i*2^(min (C0 a).toNat 64))) (C36 d (2^(min (C0 ((64:Int)-(C0 a))).toNat 64))))*(4294967296:Int)))+(C36 (C0 (d*2^(min (C0 a).toNat 64))) (2^(min ((32:Int)).toNat 64)))))-(C0 (j*(C0 (b*2^(min (C0 a).toNat 64))))))) (C36 (C0 (b*2^(min (C0 a).toNat 64))) (2^(min ((32:Int)).toNat 64)))))*(C36 (C0 (b*2^(min (C0 a).toNat 64))) (2^(min ((32:Int)).toNat 64))))))),U (C0 (C34 (C0 ((C0 ((C0 ((bor .u64 (C0 (i*2^(min (C0 a).toNat 64))) (C36 d (2^(min (C0 ((64:Int)-(C0 a))).toNat 64))))*(4294967296:Int)))+(C36 (C0 (d*2^(min (C0 a).toNat 64))) (2^(min ((32:Int)).toNat 64)))))-(C0 (j*(C0 (b*2^(min (C0 a).toNat 64))))))) (C36 (C0 (b*2^(min (C0 a).toNat 64))) (2^(min ((32:Int)).toNat 64)))))] o/\
 ∀ e c f,k [U e,U c] f->∃ (l:LP),(Br (decide (c>=(4294967296:Int))) (l [] f)
 (Br (decide ((C0 (c*(Nr .u64 (C0 (b*2^(min (C0 a).toNat 64))) (4294967295:Int))))>(C0 ((C0 ((4294967296:Int)*e))+(Nr .u64 (C0 (d*2^(min (C0 a).toNat 64))) (4294967295:Int)))))) (l [] f)
 (m [U c] f)))/\
 ∀ g,l [] g->Br (decide ((C0 (e+(C36 (C0 (b*2^(min (C0 a).toNat 64))) (2^(min ((32:Int)).toNat 64)))))>=(4294967296:Int))) (m [U (C0 (c-1))] g)
 (k [U (C0 (e+(C36 (C0 (b*2^(min (C0 a).toNat 64))) (2^(min ((32:Int)).toNat 64))))),U (C0 (c-1))] g/\n [U (C0 (e+(C36 (C0 (b*2^(min (C0 a).toNat 64))) (2^(min ((32:Int)).toNat 64))))),U (C0 (c-1))] g<n [U e,U c] f)
def A1t(P:Program)(f:Int)(b:Int)(c:Int)(K:VP)(a:Int)(d:Int)(e:Int)(g:Heap):Prop:=
 Br (decide (C0 a<0)) False
 (K (.tuple #[U (C0 ((C0 (d*(4294967296:Int)))+e)),U (C36 (C0 ((C0 ((C0 ((C0 ((C0 ((C0 ((bor .u64 (C0 (f*2^(min (C0 a).toNat 64))) (C36 b (2^(min (C0 ((64:Int)-(C0 a))).toNat 64))))*(4294967296:Int)))+(C36 (C0 (b*2^(min (C0 a).toNat 64))) (2^(min ((32:Int)).toNat 64)))))-(C0 (d*(C0 (c*2^(min (C0 a).toNat 64)))))))*(4294967296:Int)))+(Nr .u64 (C0 (b*2^(min (C0 a).toNat 64))) (4294967295:Int))))-(C0 (e*(C0 (c*2^(min (C0 a).toNat 64))))))) (2^(min (C0 a).toNat 64)))]) g)
def A1u(P:Program)(c:Int)(d:Int)(a:Int)(K:VP)(b:Int)(e:Int)(j:Heap):Prop:=
 Br (decide (C36 (C0 (a*2^(min (C0 b).toNat 64))) (2^(min ((32:Int)).toNat 64))=0)) False
 (∃ (f:LP),(A1r P c d a b e f j)/\
 ∀ g i,f [U g] i->A1t P c d a K b e g i)
def B5s(P:Program)(c:Int)(d:Int)(a:Int)(h:Heap)(K:VP):Prop:=
 Br (a==(0:Int)) (∃ (i:Value),h.cell? (⟨0,0,none⟩)=some (i)/\False)
 (Br (decide (a<=c)) (∃ (j:Value),h.cell? (⟨1,0,none⟩)=some (j)/\False)
 (Br (c==(0:Int)) (Br (decide (a=0)) False
 (Br (decide (a=0)) False
 (K (.tuple #[U (C0 (C34 d a)),U (C3b d a)]) h)))
 (FCall P J4 #[U a] h (fun k l=>∃ b,k=I b/\Br (decide (C0 b<0)) False
 (Br (decide (C0 b<0)) False
 (Br (decide (C0 ((64:Int)-(C0 b))<0)) False
 (Br (decide (C0 b<0)) False
 (Br (decide (C36 (C0 (a*2^(min (C0 b).toNat 64))) (2^(min ((32:Int)).toNat 64))=0)) False
 (∃ (e:LP),(A1s P c d a b e l)/\
 ∀ f g,e [U f] g->A1u P c d a K b f g)))))))))
theorem B1l a b c(hvc:B5s prog a b c h K):FCall prog Ej #[U a,U b,U c] h K:=
 C8 bod func206 [.tmp 6,.tmp 7] ⟨[(17,⟨[15,16],[],[.int .u64 0,.int .u64 0],⟨([15,16]++Lrg 67 19),[]⟩⟩),(24,⟨[16,18],[],[.int .u64 0,.int .u64 0],⟨([16,18]++Lrg 102 19),[]⟩⟩)],[(18,⟨[],[],[],⟨(Lrg 67 12),[]⟩⟩),(21,⟨[15],[],[.int .u64 0],⟨([15,16]++Lrg 67 19),[]⟩⟩),(25,⟨[],[],[],⟨(Lrg 102 12),[]⟩⟩),(28,⟨[18],[],[.int .u64 0],⟨([16,18]++Lrg 102 19),[]⟩⟩)],[],[],[]⟩ 135 [] [239] [] (by kernel_rfl) hvc
def B5q(P:Program)(a:Int)(b:Int)(h:Heap)(K:VP):Prop:=
 K (.tuple #[U (C0 ((C0 ((C0 ((C36 a (2^(min ((32:Int)).toNat 64)))*(C36 b (2^(min ((32:Int)).toNat 64)))))+(C36 (C0 ((C0 ((C36 a (2^(min ((32:Int)).toNat 64)))*(Nr .u64 b (4294967295:Int))))+(C36 (C0 ((Nr .u64 a (4294967295:Int))*(Nr .u64 b (4294967295:Int)))) (2^(min ((32:Int)).toNat 64))))) (2^(min ((32:Int)).toNat 64)))))+(C36 (C0 ((Nr .u64 (C0 ((C0 ((C36 a (2^(min ((32:Int)).toNat 64)))*(Nr .u64 b (4294967295:Int))))+(C36 (C0 ((Nr .u64 a (4294967295:Int))*(Nr .u64 b (4294967295:Int)))) (2^(min ((32:Int)).toNat 64))))) (4294967295:Int))+(C0 ((Nr .u64 a (4294967295:Int))*(C36 b (2^(min ((32:Int)).toNat 64))))))) (2^(min ((32:Int)).toNat 64))))),U (C0 (a*b))]) h
theorem B1j a b(hvc:B5q prog a b h K):FCall prog Ei #[U a,U b] h K:=
 C8 bod func190 [.tmp 4,.tmp 5] an0 51 [] [] [] (by kernel_rfl) hvc
def Hf(P:Program)(b:Int)(h:Heap)(K:VP):Prop:=
 FCall P Qf #[U b] h (fun c d=>∃ a,c=I a/\K (I (B5 ((64:Int)-a))) d)
theorem Me a(hvc:Hf prog a h K):FCall prog J4 #[U a] h K:=
 C8 bod func239 [.tmp 2] an0 6 [] [254] [] (by kernel_rfl) hvc
def Fc(P:Program)(a:Int)(h:Heap)(K:VP):Prop:=
 Br (a==(0:Int)) (K (I 64) h)
 ((0<=C36 (C0 ((Nr .u64 a (C0 (0-a)))*(285870213051353865:Int))) (2^(min ((58:Int)).toNat 64))/\C36 (C0 ((Nr .u64 a (C0 (0-a)))*(285870213051353865:Int))) (2^(min ((58:Int)).toNat 64))<(64:Int))/\∃ b,h.cell? (Addr.add (⟨3,0,none⟩) ((C36 (C0 ((Nr .u64 a (C0 (0-a)))*(285870213051353865:Int))) (2^(min ((58:Int)).toNat 64))).toNat*1))=some (Y b)/\K (I (B5 b)) h)
theorem Jk a(hvc:Fc prog a h K):FCall prog L4 #[U a] h K:=
 C8 bod func249 [.tmp 2] an0 14 [] [] [] (by kernel_rfl) hvc
def A4h:ByteArray:={ data:=#[0,1,2,2,3,3,3,3,4,4,4,4,4,4,4,4,5,5,5,5,5,5,5,5,5,5,5,5,5,5,5,5,6,6,6,6,6,6,6,6,6,6,6,6,6,6,6,6,6,6,6,6,6,6,6,6,6,6,6,6,6,6,6,6,7,7,7,7,7,7,7,7,7,7,7,7,7,7,7,7,7,7,7,7,7,7,7,7,7,7,7,7,7,7,7,7,7,7,7,7,7,7,7,7,7,7,7,7,7,7,7,7,7,7,7,7,7,7,7,7,7,7,7,7,7,7,7,7,8,8,8,8,8,8,8,8,8,8,8,8,8,8,8,8,8,8,8,8,8,8,8,8,8,8,8,8,8,8,8,8,8,8,8,8,8,8,8,8,8,8,8,8,8,8,8,8,8,8,8,8,8,8,8,8,8,8,8,8,8,8,8,8,8,8,8,8,8,8,8,8,8,8,8,8,8,8,8,8,8,8,8,8,8,8,8,8,8,8,8,8,8,8,8,8,8,8,8,8,8,8,8,8,8,8,8,8,8,8,8,8,8,8,8,8,8,8,8,8,8,8,8,8,8,8,8,8] }
def B5r(P:Program)(c:Int)(h:Heap)(K:VP):Prop:=
 ∃ (d:LP),(Br (decide (c>=(4294967296:Int))) (d [U (C36 c (2^(min ((32:Int)).toNat 64))),I 32] h)
 (d [U c,I 0] h))/\
 ∀ a g i,d [U a,I g] i->∃ (e:LP),(Br (decide (a>=(65536:Int))) (e [U (C36 a (2^(min ((16:Int)).toNat 64))),I (B5 (g+16))] i)
 (e [U a,I g] i))/\
 ∀ b j k,e [U b,I j] k->∃ (f:LP),(Br (decide (b>=(256:Int))) (f [U (C36 b (2^(min ((8:Int)).toNat 64))),I (B5 (j+8))] k)
 (f [U b,I j] k))/\
 ∀ l n o,f [U l,I n] o->∃ (m:UInt8),(0<=wu8 l/\((A4h:ByteArray))[(wu8 l).toNat]? = some m)/\K (I (B5 (n+(B5 ((m.toNat:Nat):Int))))) o
theorem B1k a(hvc:B5r prog a h K):FCall prog Qf #[U a] h K:=
 C8 bod func254 [.tmp 2] { cuts:=[(4,⟨[0,2],[],[.int .u64 0,.int .i64 0],⟨[0,2,3,4,5,6],[]⟩⟩),(7,⟨[0,2],[],[.int .u64 0,.int .i64 0],⟨[0,2,7,8,9,10,11,12],[]⟩⟩),(10,⟨[0,2],[],[.int .u64 0,.int .i64 0],⟨[0,2,13,14,15,16,17,18],[]⟩⟩)] } 25 [] [] [] (by kernel_rfl) hvc
theorem A70:C1p prog R2 (fun a=>do
 let (x,y,c)<-C3e "Add64" a
 pure (C3f ((x+y+c)%C3d) ((x+y+c)/C3d))):=⟨f228,func228,by kernel_rfl,by kernel_rfl,by kernel_rfl,by kernel_rfl⟩
theorem A6z:C1p prog At (fun a=>do
 let (x,y,c)<-C3e "Sub64" a
 pure (C3f ((x+C3d-y-c)%C3d) (if x<y+c then 1 else 0))):=⟨f248,func248,by kernel_rfl,by kernel_rfl,by kernel_rfl,by kernel_rfl⟩
def C2t(P:Program)(c:Int)(d:Int)(h:Heap)(K:VP):Prop:=
 FCall P Ei #[U c,U d] h (fun e f=>∃ (a:Int) (b:Int),e= .tuple #[U a,U b]/\K (.tuple #[U a,U b]) f)
theorem B7p a b(hvc:C2t prog a b h K):FCall prog A96 #[U a,U b] h K:=
 C8 bod func134 [.tmp 4,.tmp 5] an0 30 [] [190] [] (by kernel_rfl) hvc
def B51(P:Program)(a:OA)(i j:Nat)(h:Heap)(K:VP):Prop:=
 Br (Option.isNone a) (K (.slice none 0 0) h)
 (wpH P (C38 100 0 #[]) (fun k l=>∃ (b:OA) (c d:Nat),k= .slice b c d/\wpH P (C3a #[100,100] 100 #[.slice b c d,.slice a i j]) (fun m n=>∃ (e:OA) (f g:Nat),m= .slice e f g/\K (.slice e f g) n) l) h)
theorem B0b a b c(hvc:B51 prog a b c h K):FCall prog Ea #[.slice a b c] h K:=
 C8 bod func217 [.tmp 2] an0 8 [] [] [] (by kernel_rfl) hvc
def B09(P:Program)(p:OA)(j q:Nat)(k:Int)(h:Heap)(K:VP):Prop:=
 Br (decide (k<(0:Int))) (False)
 (FCall P A96 #[U (C0 (j:Int)),U (C0 k)] h (fun r s=>∃ (l:Int) (e:Int),r= .tuple #[U l,U e]/\Br (decide (l>(0:Int))) (False)
 (Br (decide (e>(9223372036854775807:Int))) (False)
 (wpH P (C39 100 (I (B5 e)) (I (B5 e))) (fun t u=>∃ (d:OA) (c b:Nat),t= .slice d c b/\wpH P (C3c #[100,100] 3 #[.slice d c b,.slice p j q]) (fun v w=>∃ o,v=I o/\∃ (g:LP) (m:LN),g [I o] w/\
 ∀ a f,g [I a] f->Br (decide (a<(c:Int))) ((0<=a/\a<=(c:Int))/\(0<=a/\a<=(b:Int))/\wpH P (C3c #[100,100] 3 #[.slice (K0 d b (a.toNat) 1) (c-(a.toNat)) (b-(a.toNat)),.slice (K0 d b 0 1) ((a.toNat)-0) (b-0)]) (fun x n=>∃ i,x=I i/\g [I (B5 (a+i))] n/\m [I (B5 (a+i))] n<m [I a] f) f)
 (K (.slice d c b) f)) u) s))))
theorem A6h a b c d(hvc:B09 prog a b c d h K):FCall prog Rt #[.slice a b c,I d] h K:=
 C8 bod func270 [.tmp 4] { loops:=[(8,⟨[8],[],[.int .i64 0],⟨([8]++Lrg 34 13),[]⟩⟩)] } 48 [] [134] [] (by kernel_rfl) hvc
def B5p(P:Program)(b:Int)(c:Int)(h:Heap)(K:VP):Prop:=
 FCall P Hv #[I b] h (fun f g=>∃ (e:Bool),f= .bool e/\FCall P Hv #[I c] g (fun i a=>∃ (d:Bool),i= .bool d/\Br e (Br d (K (I 0) a)
 (K (I (-1:Int)) a))
 (Br d (K (I 1) a)
 (Br (decide (b<c)) (K (I (-1:Int)) a)
 (Br (decide (b>c)) (K (I 1) a)
 (K (I 0) a))))))
theorem B1i a b(hvc:B5p prog a b h K):FCall prog Xz #[I a,I b] h K:=
 C8 bod func229 [.tmp 4] an0 20 [] [251] [] (by kernel_rfl) hvc
def A5b(P:Program)(a:Int)(h:Heap)(K:VP):Prop:=
 K (.bool (a != a)) h
theorem A3q a(hvc:A5b prog a h K):FCall prog Hv #[I a] h K:=
 C8 bod func251 [.tmp 2] an0 6 [] [] [] (by kernel_rfl) hvc
def A1q(P:Program)(b:Int)(c:Int)(h:Heap)(K:VP):Prop:=
 FCall P As #[U b] h (fun f g=>∃ (e:Bool),f= .bool e/\FCall P As #[U c] g (fun i a=>∃ (d:Bool),i= .bool d/\Br e (Br d (K (I 0) a)
 (K (I (-1:Int)) a))
 (Br d (K (I 1) a)
 (Br (decide (b<c)) (K (I (-1:Int)) a)
 (Br (decide (b>c)) (K (I 1) a)
 (K (I 0) a))))))
theorem A1p a b(hvc:A1q prog a b h K):FCall prog Jg #[U a,U b] h K:=
 C8 bod func230 [.tmp 4] an0 20 [] [252] [] (by kernel_rfl) hvc
def To(P:Program)(a:Int)(h:Heap)(K:VP):Prop:=
 K (.bool (a != a)) h
theorem Uo a(hvc:To prog a h K):FCall prog As #[U a] h K:=
 C8 bod func252 [.tmp 2] an0 6 [] [] [] (by kernel_rfl) hvc
end Go.Proofs.YtajkakhfcokljaaGreatDoor
