/-
  Texts of this proof, merged by a program of ours.
-/
import Derived.Test.YthilnfgnpdeofaaGreatDoorProg
import Derived.Test.YthilnfgnpdeofaaGreatDoorG05
namespace Go.Proofs.YthilnfgnpdeofaaGreatDoor
open Go
set_option maxRecDepth 100000
set_option linter.unusedVariables false
variable {h:Heap} {K:Value->Heap->Prop}
abbrev R4:Nat:=167
abbrev Lj:Nat:=185
abbrev Lk:Nat:=180
abbrev Ld:Nat:=186
abbrev Lg:Nat:=181
abbrev Er:Nat:=146
abbrev Cm:Nat:=232
abbrev Lh:Nat:=209
abbrev Q5:Nat:=144
abbrev Hs:Nat:=118
abbrev Xm:Nat:=90
abbrev A0p:Nat:=179
abbrev A4h:Nat:=147
abbrev Ii:Nat:=148
abbrev Lf:Nat:=184
abbrev A8u:Nat:=182
abbrev Xq:Nat:=183
abbrev Li:Nat:=86
abbrev Az:Nat:=143
abbrev Cv:Nat:=149
abbrev Nr:Nat:=145
abbrev B80:Nat:=59
abbrev Hr:Nat:=32
abbrev Xo:Nat:=140
abbrev A2y:Nat:=87
abbrev Xn:Nat:=107
abbrev Rv:Nat:=88
abbrev Xp:Nat:=106
abbrev Jf:Nat:=28
abbrev A2x:Nat:=85
abbrev A2z:Nat:=26
abbrev Xl:Nat:=84
abbrev A79:Nat:=9
abbrev A3v:Nat:=50
abbrev C4:Nat:=178
theorem Mq:SliceT Tryz.prog A3v C4 (U32 (0:Int)) 1 4:=⟨by kernel_rfl,by kernel_rfl,rfl,by decide⟩
theorem J4:Tryz.prog.cellsOf C4=1/\(Tryz.prog.info? C4).isSome=true:=⟨by kernel_rfl,by kernel_rfl⟩
abbrev Fx:Nat:=181
abbrev F5:Nat:=5
theorem Fc:SliceT Tryz.prog Fx F5 (Y (0:Int)) 1 1:=⟨by kernel_rfl,by kernel_rfl,rfl,by decide⟩
theorem A5d:Tryz.prog.cellsOf F5=1/\(Tryz.prog.info? F5).isSome=true:=⟨by kernel_rfl,by kernel_rfl⟩
abbrev Am:Nat:=43
abbrev F7:Nat:=54
theorem Zr:SliceT Tryz.prog Am F7 (.agg #[.bool false,.slice none 0 0,.bool false,.slice none 0 0]) 4 64:=⟨by kernel_rfl,by kernel_rfl,rfl,by decide⟩
theorem Zq:Tryz.prog.cellsOf F7=4/\(Tryz.prog.info? F7).isSome=true:=⟨by kernel_rfl,by kernel_rfl⟩
abbrev Qm:Nat:=22
abbrev S4:Nat:=9
theorem Hk:SliceT Tryz.prog Qm S4 (.string ({ data:=#[] }:ByteArray)) 1 16:=⟨by kernel_rfl,by kernel_rfl,rfl,by decide⟩
theorem Om:Tryz.prog.cellsOf S4=1/\(Tryz.prog.info? S4).isSome=true:=⟨by kernel_rfl,by kernel_rfl⟩
def B8o(P:Program)(j:OA)(k l:Nat)(h:Heap)(K:Value->Heap->Prop):Prop:=
 ∃ (e:List Value->Heap->Prop) (f:List Value->Heap->Nat),e [.slice j k l] h/\
 ∀ (c:OA) (a b:Nat),∀ d,e [.slice c a b] d->Br (decide ((a:Int)>(0:Int))) (∃ i,c=some i/\0<=B4 ((a:Int)-1)/\B4 ((a:Int)-1)<(a:Int)/\∃ (g:Int),d.cell? (i.add ((B4 ((a:Int)-1)).toNat*1))=some (U32 g)/\Br (g==(0:Int)) ((0<=B4 ((a:Int)-1)/\B4 ((a:Int)-1)<=(b:Int))/\e [.slice (I8 c b 0 1) (((B4 ((a:Int)-1)).toNat)-0) (b-0)] d/\f [.slice (I8 c b 0 1) (((B4 ((a:Int)-1)).toNat)-0) (b-0)] d<f [.slice c a b] d)
 (K (.slice c a b) d))
 (K (.slice c a b) d)
theorem B35(a:OA)(b d:Nat)(hvc:B8o Tryz.prog a b d h K):FCall Tryz.prog R4 #[.slice a b d] h K:=
 B8 Tryz.func167 (c:=C1 Tryz.f167) (by kernel_rfl) (rs:=[.tmp 2]) (by kernel_rfl) (fa:=⟨[(1,⟨[0],[],[.slice none 0 0],⟨([0]++Lrg 3 17),[]⟩⟩)],[],[],[],[]⟩)
  (cfg:=⟨21,[],none,[],[],false⟩) (args:=[.slice a b d]) (by kernel_rfl) Bodies.nil (Eq.mp (by kernel_rfl) hvc)
def B0i(P:Program)(f:OA)(c r:Nat)(g:OA)(d s:Nat)(h:Heap)(K:Value->Heap->Prop):Prop:=
 Br ((c:Int) != (d:Int)) (Br (decide ((c:Int)<(d:Int))) (K (I (-1:Int)) h)
 (K (I 1) h))
 (∃ (e:List Value->Heap->Prop) (i:List Value->Heap->Nat),e [I (B4 ((c:Int)-1))] h/\
 ∀ (a:Int),∀ b,e [I a] b->Br (decide (a>=(0:Int))) (∃ n,f=some n/\0<=a/\a<(c:Int)/\∃ (j:Int),b.cell? (n.add (a.toNat*1))=some (U32 j)/\∃ o,g=some o/\0<=a/\a<(d:Int)/\∃ (k:Int),b.cell? (o.add (a.toNat*1))=some (U32 k)/\Br (j != k) (∃ p,f=some p/\0<=a/\a<(c:Int)/\∃ (l:Int),b.cell? (p.add (a.toNat*1))=some (U32 l)/\∃ q,g=some q/\0<=a/\a<(d:Int)/\∃ (m:Int),b.cell? (q.add (a.toNat*1))=some (U32 m)/\Br (decide (l<m)) (K (I (-1:Int)) b)
 (K (I 1) b))
 (e [I (B4 (a-1))] b/\i [I (B4 (a-1))] b<i [I a] b))
 (K (I 0) b))
theorem A6p(a:OA)(b d:Nat)(e:OA)(f g:Nat)(hvc:B0i Tryz.prog a b d e f g h K):FCall Tryz.prog Lj #[.slice a b d,.slice e f g] h K:=
 B8 Tryz.func185 (c:=C1 Tryz.f185) (by kernel_rfl) (rs:=[.tmp 4]) (by kernel_rfl) (fa:=⟨[(6,⟨[5],[],[.int .i64 0],⟨([4,5]++Lrg 19 22),[]⟩⟩)],[],[(8,((Lrg 0 9),[[],[],[0,1],[0,1,2],[],[],[4,5],[4,5,6],(Lrg 0 8)])),(9,((Lrg 0 9),[[],[],[0,1],[0,1,2],[],[],[4,5],[4,5,6],(Lrg 0 8)]))],[],[]⟩)
  (cfg:=⟨41,[],none,[],[],false⟩) (args:=[.slice a b d,.slice e f g]) (by kernel_rfl) Bodies.nil (Eq.mp (by kernel_rfl) hvc)
def B0j(P:Program)(p:OA)(i q:Nat)(r:OA)(j s:Nat)(h:Heap)(K:Value->Heap->Prop):Prop:=
 ∃ (k:List Value->Heap->Prop),(Br (decide ((i:Int)<(j:Int))) (k [.slice r j s,.slice p i q] h)
 (k [.slice p i q,.slice r j s] h))/\
 ∀ (t:OA) (b J:Nat) (u:OA) (l L:Nat),∀ C,k [.slice t b J,.slice u l L] C->wpH P (Instr.makeSlice 50 (I (B4 ((b:Int)+1))) (I (B4 ((b:Int)+1)))) (fun M N=>∃ (e:OA) (f v:Nat),M= .slice e f v/\∃ (m:List Value->Heap->Prop) (w:List Value->Heap->Nat),m [U 0,I 0] N/\
 ∀ (d:Int) (a:Int),∀ c,m [U d,I a] c->Br (decide (a<(b:Int))) (∃ D,t=some D/\0<=a/\a<(b:Int)/\∃ (n:Int),c.cell? (D.add (a.toNat*1))=some (U32 n)/\∃ (o:List Value->Heap->Prop),(Br (decide (a<(l:Int))) (∃ E,u=some E/\0<=a/\a<(l:Int)/\∃ (x:Int),c.cell? (E.add (a.toNat*1))=some (U32 x)/\o [U (C0 ((C0 (d+(C0 n)))+(C0 x)))] c)
 (o [U (C0 (d+(C0 n)))] c))/\
 ∀ (g:Int),∀ F,o [U g] F->∃ G,e=some G/\0<=a/\a<(f:Int)/\wpH P (Instr.storeAt 178 (.pointer (some (G.add (a.toNat*1)))) (U32 (F4 g))) (fun _ B=>m [U (Int.fdiv g (2^(min ((32:Int)).toNat 64))),I (B4 (a+1))] B/\w [U (Int.fdiv g (2^(min ((32:Int)).toNat 64))),I (B4 (a+1))] B<w [U d,I a] c) F)
 (∃ H,e=some H/\0<=(b:Int)/\(b:Int)<(f:Int)/\wpH P (Instr.storeAt 178 (.pointer (some (H.add (((b:Int)).toNat*1)))) (U32 (F4 d))) (fun _ O=>FCall P R4 #[.slice e f v] O (fun Q R=>∃ (y:OA) (z A:Nat),Q= .slice y z A/\K (.slice y z A) R)) c)) C
theorem A6q(a:OA)(b d:Nat)(e:OA)(f g:Nat)(hvc:B0j Tryz.prog a b d e f g h K):FCall Tryz.prog Lk #[.slice a b d,.slice e f g] h K:=
 B8 Tryz.func180 (c:=C1 Tryz.f180) (by kernel_rfl) (rs:=[.tmp 4]) (by kernel_rfl) (fa:=⟨[(6,⟨[6,7],[],[.int .u64 0,.int .i64 0],⟨([6,7]++Lrg 19 31),[]⟩⟩)],[(3,⟨[0,1],[],[.slice none 0 0,.slice none 0 0],⟨[0,1,8,9,10,11,12,13,14],[]⟩⟩),(11,⟨[6],[],[.int .u64 0],⟨([6]++Lrg 32 11),[]⟩⟩)],[],[],[]⟩)
  (cfg:=⟨58,[],none,[167],[],false⟩) (args:=[.slice a b d,.slice e f g]) (by kernel_rfl) (B0 Tryz.call167 Bodies.nil) (Eq.mp (by kernel_rfl) hvc)
def B0a(P:Program)(x:OA)(c D:Nat)(y:OA)(l E:Nat)(h:Heap)(K:Value->Heap->Prop):Prop:=
 wpH P (Instr.makeSlice 50 (I (c:Int)) (I (c:Int))) (fun z A=>∃ (f:OA) (g m:Nat),z= .slice f g m/\∃ (i:List Value->Heap->Prop) (n:List Value->Heap->Nat),i [U 0,I 0] A/\
 ∀ (d:Int) (a:Int),∀ b,i [U d,I a] b->Br (decide (a<(c:Int))) (∃ t,x=some t/\0<=a/\a<(c:Int)/\∃ (j:Int),b.cell? (t.add (a.toNat*1))=some (U32 j)/\∃ (k:List Value->Heap->Prop),(Br (decide (a<(l:Int))) (∃ u,y=some u/\0<=a/\a<(l:Int)/\∃ (o:Int),b.cell? (u.add (a.toNat*1))=some (U32 o)/\k [U (C0 ((C0 ((C0 j)-d))-(C0 o)))] b)
 (k [U (C0 ((C0 j)-d))] b))/\
 ∀ (e:Int),∀ v,k [U e] v->∃ w,f=some w/\0<=a/\a<(g:Int)/\wpH P (Instr.storeAt 178 (.pointer (some (w.add (a.toNat*1)))) (U32 (F4 e))) (fun _ s=>i [U (Nz .u64 (Int.fdiv e (2^(min ((32:Int)).toNat 64))) (1:Int)),I (B4 (a+1))] s/\n [U (Nz .u64 (Int.fdiv e (2^(min ((32:Int)).toNat 64))) (1:Int)),I (B4 (a+1))] s<n [U d,I a] b) v)
 (FCall P R4 #[.slice f g m] b (fun B C=>∃ (p:OA) (q r:Nat),B= .slice p q r/\K (.slice p q r) C))) h
theorem A6k(a:OA)(b d:Nat)(e:OA)(f g:Nat)(hvc:B0a Tryz.prog a b d e f g h K):FCall Tryz.prog Ld #[.slice a b d,.slice e f g] h K:=
 B8 Tryz.func186 (c:=C1 Tryz.f186) (by kernel_rfl) (rs:=[.tmp 4]) (by kernel_rfl) (fa:=⟨[(4,⟨[6,7],[],[.int .u64 0,.int .i64 0],⟨([6,7,8]++Lrg 12 32),[]⟩⟩)],[(9,⟨[8],[],[.int .u64 0],⟨([8]++Lrg 25 11),[]⟩⟩)],[],[],[]⟩)
  (cfg:=⟨46,[],none,[167],[],false⟩) (args:=[.slice a b d,.slice e f g]) (by kernel_rfl) (B0 Tryz.call167 Bodies.nil) (Eq.mp (by kernel_rfl) hvc)
def B0d(P:Program)(w:OA)(x:Nat)(y:OA)(e:Nat)(j:OA)(k:Nat)(z:List Value->Heap->Prop)(m:List Value->Heap->Nat)(a:Int)(n:Heap):Prop:=
 ∃ (l:List Value->Heap->Prop) (o:List Value->Heap->Nat),l [U 0,I 0] n/\
 ∀ (d:Int) (b:Int),∀ c,l [U d,I b] c->Br (decide (b<(e:Int))) (∃ r,w=some r/\0<=a/\a<(x:Int)/\∃ (f:Int),c.cell? (r.add (a.toNat*1))=some (U32 f)/\∃ s,y=some s/\0<=b/\b<(e:Int)/\∃ (g:Int),c.cell? (s.add (b.toNat*1))=some (U32 g)/\∃ t,j=some t/\0<=B4 (a+b)/\B4 (a+b)<(k:Int)/\∃ (i:Int),c.cell? (t.add ((B4 (a+b)).toNat*1))=some (U32 i)/\∃ u,j=some u/\0<=B4 (a+b)/\B4 (a+b)<(k:Int)/\wpH P (Instr.storeAt 178 (.pointer (some (u.add ((B4 (a+b)).toNat*1)))) (U32 (F4 (C0 (d+(C0 ((C0 ((C0 f)*(C0 g)))+(C0 i)))))))) (fun _ p=>l [U (Int.fdiv (C0 (d+(C0 ((C0 ((C0 f)*(C0 g)))+(C0 i))))) (2^(min ((32:Int)).toNat 64))),I (B4 (b+1))] p/\o [U (Int.fdiv (C0 (d+(C0 ((C0 ((C0 f)*(C0 g)))+(C0 i))))) (2^(min ((32:Int)).toNat 64))),I (B4 (b+1))] p<o [U d,I b] c) c)
 (∃ v,j=some v/\0<=B4 (a+(e:Int))/\B4 (a+(e:Int))<(k:Int)/\wpH P (Instr.storeAt 178 (.pointer (some (v.add ((B4 (a+(e:Int))).toNat*1)))) (U32 (F4 d))) (fun _ q=>z [I (B4 (a+1))] q/\m [I (B4 (a+1))] q<m [I a] n) c)
def B0e(P:Program)(m:OA)(a t:Nat)(n:OA)(b u:Nat)(h:Heap)(K:Value->Heap->Prop):Prop:=
 Br ((a:Int)==(0:Int)) (K (.slice none 0 0) h)
 (Br ((b:Int)==(0:Int)) (K (.slice none 0 0) h)
 (wpH P (Instr.makeSlice 50 (I (B4 ((a:Int)+(b:Int)))) (I (B4 ((a:Int)+(b:Int))))) (fun p q=>∃ (c:OA) (d i:Nat),p= .slice c d i/\∃ (e:List Value->Heap->Prop) (o:List Value->Heap->Nat),e [I 0] q/\
 ∀ (f:Int),∀ g,e [I f] g->Br (decide (f<(a:Int))) (B0d P m a n b c d e o f g)
 (FCall P R4 #[.slice c d i] g (fun r s=>∃ (j:OA) (k l:Nat),r= .slice j k l/\K (.slice j k l) s))) h))
theorem A6m(a:OA)(b d:Nat)(e:OA)(f g:Nat)(hvc:B0e Tryz.prog a b d e f g h K):FCall Tryz.prog Lg #[.slice a b d,.slice e f g] h K:=
 B8 Tryz.func181 (c:=C1 Tryz.f181) (by kernel_rfl) (rs:=[.tmp 4]) (by kernel_rfl) (fa:=⟨[(5,⟨[6],[],[.int .i64 0],⟨([6,7,8]++Lrg 23 50),[]⟩⟩),(9,⟨[7,8],[],[.int .u64 0,.int .i64 0],⟨([7,8]++Lrg 29 36),[]⟩⟩)],[],[(11,((Lrg 0 22),[[],[],[],[1,2],[1,2,3],[1,2,3,4],[],[],[6,7],[6,7,8],[6,7,8,9],(Lrg 1 10),[],[],[],[13,14],[12,13,14,15],[12,13,14,15,16],[12,13,14,15,16,17],(Lrg 1 18),(Lrg 0 20),(Lrg 0 21)]))],[],[]⟩)
  (cfg:=⟨75,[],none,[167],[],false⟩) (args:=[.slice a b d,.slice e f g]) (by kernel_rfl) (B0 Tryz.call167 Bodies.nil) (Eq.mp (by kernel_rfl) hvc)
def A1i(P:Program)(s:OA)(e x:Nat)(c:Int)(h:Heap)(K:Value->Heap->Prop):Prop:=
 wpH P (Instr.makeSlice 50 (I (e:Int)) (I (e:Int))) (fun t u=>∃ (g:OA) (i k:Nat),t= .slice g i k/\∃ (j:List Value->Heap->Prop) (l:List Value->Heap->Nat),j [U 0,I (B4 ((e:Int)-1))] u/\
 ∀ (b:Int) (a:Int),∀ d,j [U b,I a] d->Br (decide (a>=(0:Int))) (∃ q,s=some q/\0<=a/\a<(e:Int)/\∃ (f:Int),d.cell? (q.add (a.toNat*1))=some (U32 f)/\Br (decide (C0 c=0)) False
 (∃ r,g=some r/\0<=a/\a<(i:Int)/\wpH P (Instr.storeAt 178 (.pointer (some (r.add (a.toNat*1)))) (U32 (F4 (C0 (Int.tdiv (bor .u64 (C0 (b*2^(min ((32:Int)).toNat 64))) (C0 f)) (C0 c)))))) (fun _ p=>Br (decide (C0 c=0)) False
 (j [U (Int.tmod (bor .u64 (C0 (b*2^(min ((32:Int)).toNat 64))) (C0 f)) (C0 c)),I (B4 (a-1))] p/\l [U (Int.tmod (bor .u64 (C0 (b*2^(min ((32:Int)).toNat 64))) (C0 f)) (C0 c)),I (B4 (a-1))] p<l [U b,I a] d)) d))
 (FCall P R4 #[.slice g i k] d (fun v w=>∃ (m:OA) (n o:Nat),v= .slice m n o/\K (.tuple #[.slice m n o,U32 (F4 b)]) w))) h
theorem A1h(a:OA)(b d:Nat)(e:Int)(hvc:A1i Tryz.prog a b d e h K):FCall Tryz.prog Er #[.slice a b d,U32 e] h K:=
 B8 Tryz.func146 (c:=C1 Tryz.f146) (by kernel_rfl) (rs:=[.tmp 4,.tmp 5]) (by kernel_rfl) (fa:=⟨[(4,⟨[7,8],[],[.int .u64 0,.int .i64 0],⟨([7,8]++Lrg 15 24),[]⟩⟩)],[],[],[],[]⟩)
  (cfg:=⟨43,[],none,[167],[],false⟩) (args:=[.slice a b d,U32 e]) (by kernel_rfl) (B0 Tryz.call167 Bodies.nil) (Eq.mp (by kernel_rfl) hvc)
def Vs(P:Program)(r:OA)(e v:Nat)(f:Int)(h:Heap)(K:Value->Heap->Prop):Prop:=
 wpH P (Instr.makeSlice 50 (I (B4 ((e:Int)+1))) (I (B4 ((e:Int)+1)))) (fun s t=>∃ (c:OA) (d j:Nat),s= .slice c d j/\∃ (g:List Value->Heap->Prop) (k:List Value->Heap->Nat),g [I 0] t/\
 ∀ (a:Int),∀ b,g [I a] b->Br (decide (a<(e:Int))) (∃ n,r=some n/\0<=a/\a<(e:Int)/\∃ (i:Int),b.cell? (n.add (a.toNat*1))=some (U32 i)/\Br (decide (f<0)) False
 (∃ o,c=some o/\0<=a/\a<(d:Int)/\∃ (l:Int),b.cell? (o.add (a.toNat*1))=some (U32 l)/\∃ p,c=some p/\0<=a/\a<(d:Int)/\wpH P (Instr.storeAt 178 (.pointer (some (p.add (a.toNat*1)))) (U32 (bor .u32 l (F4 (C0 ((C0 i)*2^(min f.toNat 64))))))) (fun _ u=>∃ q,c=some q/\0<=B4 (a+1)/\B4 (a+1)<(d:Int)/\wpH P (Instr.storeAt 178 (.pointer (some (q.add ((B4 (a+1)).toNat*1)))) (U32 (F4 (Int.fdiv (C0 ((C0 i)*2^(min f.toNat 64))) (2^(min ((32:Int)).toNat 64)))))) (fun _ m=>g [I (B4 (a+1))] m/\k [I (B4 (a+1))] m<k [I a] b) u) b))
 (K (.slice c d j) b)) h
theorem Yv(a:OA)(b d:Nat)(e:Int)(hvc:Vs Tryz.prog a b d e h K):FCall Tryz.prog Cm #[.slice a b d,U e] h K:=
 B8 Tryz.func232 (c:=C1 Tryz.f232) (by kernel_rfl) (rs:=[.tmp 4]) (by kernel_rfl) (fa:=⟨[(3,⟨[6],[],[.int .i64 0],⟨([6,7]++Lrg 12 28),[]⟩⟩)],[],[],[],[]⟩)
  (cfg:=⟨41,[],none,[],[],false⟩) (args:=[.slice a b d,U e]) (by kernel_rfl) Bodies.nil (Eq.mp (by kernel_rfl) hvc)
def Of(P:Program)(k:OA)(a:Nat)(u:OA)(v:Nat)(g:Int)(l:Int)(m:Int)(w:Int)(x:Int)(n:List Value->Heap->Prop)(y:Heap):Prop:=
 ∃ (i:List Value->Heap->Prop) (o:List Value->Heap->Nat),i [U (C0 (Int.tdiv (bor .u64 (C0 ((C0 l)*2^(min ((32:Int)).toNat 64))) (C0 m)) (C0 w))),U (Int.tmod (bor .u64 (C0 ((C0 l)*2^(min ((32:Int)).toNat 64))) (C0 m)) (C0 x))] y/\
 ∀ (b:Int) (d:Int),∀ c,i [U b,U d] c->∃ (j:List Value->Heap->Prop),(Br (decide (b>=(4294967296:Int))) (j [] c)
 (∃ r,k=some r/\0<=B4 ((a:Int)-2)/\B4 ((a:Int)-2)<(a:Int)/\∃ (p:Int),c.cell? (r.add ((B4 ((a:Int)-2)).toNat*1))=some (U32 p)/\∃ s,u=some s/\0<=B4 ((B4 (g+(a:Int)))-2)/\B4 ((B4 (g+(a:Int)))-2)<(v:Int)/\∃ (q:Int),c.cell? (s.add ((B4 ((B4 (g+(a:Int)))-2)).toNat*1))=some (U32 q)/\Br (decide ((C0 (b*(C0 p)))>(bor .u64 (C0 (d*2^(min ((32:Int)).toNat 64))) (C0 q)))) (j [] c)
 (n [U b] c)))/\
 ∀ e,j [] e->∃ t,k=some t/\0<=B4 ((a:Int)-1)/\B4 ((a:Int)-1)<(a:Int)/\∃ (f:Int),e.cell? (t.add ((B4 ((a:Int)-1)).toNat*1))=some (U32 f)/\Br (decide ((C0 (d+(C0 f)))>=(4294967296:Int))) (n [U (C0 (b-1))] e)
 (i [U (C0 (b-1)),U (C0 (d+(C0 f)))] e/\o [U (C0 (b-1)),U (C0 (d+(C0 f)))] e<o [U b,U d] c)
def Od(P:Program)(t:OA)(c:Nat)(f:OA)(g:Nat)(b:Int)(u:Int)(v:List Value->Heap->Prop)(w:Heap):Prop:=
 ∃ (k:List Value->Heap->Prop) (l:List Value->Heap->Nat),k [U 0,I 0] w/\
 ∀ (e:Int) (a:Int),∀ d,k [U e,I a] d->Br (decide (a<(c:Int))) (∃ o,f=some o/\0<=B4 (a+b)/\B4 (a+b)<(g:Int)/\∃ (i:Int),d.cell? (o.add ((B4 (a+b)).toNat*1))=some (U32 i)/\∃ p,t=some p/\0<=a/\a<(c:Int)/\∃ (j:Int),d.cell? (p.add (a.toNat*1))=some (U32 j)/\∃ q,f=some q/\0<=B4 (a+b)/\B4 (a+b)<(g:Int)/\wpH P (Instr.storeAt 178 (.pointer (some (q.add ((B4 (a+b)).toNat*1)))) (U32 (F4 (C0 (e+(C0 ((C0 i)+(C0 j)))))))) (fun _ n=>k [U (Int.fdiv (C0 (e+(C0 ((C0 i)+(C0 j))))) (2^(min ((32:Int)).toNat 64))),I (B4 (a+1))] n/\l [U (Int.fdiv (C0 (e+(C0 ((C0 i)+(C0 j))))) (2^(min ((32:Int)).toNat 64))),I (B4 (a+1))] n<l [U e,I a] d) d)
 (∃ r,f=some r/\0<=B4 (b+(c:Int))/\B4 (b+(c:Int))<(g:Int)/\∃ (m:Int),d.cell? (r.add ((B4 (b+(c:Int))).toNat*1))=some (U32 m)/\∃ s,f=some s/\0<=B4 (b+(c:Int))/\B4 (b+(c:Int))<(g:Int)/\wpH P (Instr.storeAt 178 (.pointer (some (s.add ((B4 (b+(c:Int))).toNat*1)))) (U32 (F4 (m+(F4 e))))) (fun _ x=>v [U (C0 (u-1))] x) d)
def Oh(P:Program)(c:OA)(d:Nat)(a:Int)(e:List Value->Heap->Prop)(f:Int)(g:Heap):Prop:=
 ∃ b,c=some b/\0<=a/\a<(d:Int)/\wpH P (Instr.storeAt 178 (.pointer (some (b.add (a.toNat*1)))) (U32 (F4 f))) (fun _ i=>e [] i) g
def Oe(P:Program)(p:OA)(c:Nat)(j:OA)(k:Nat)(A:OA)(B:Nat)(a:Int)(C:List Value->Heap->Prop)(e:Int)(D:Heap):Prop:=
 ∃ (m:List Value->Heap->Prop) (q:List Value->Heap->Nat),m [U 0,U 0,I 0] D/\
 ∀ (d:Int) (f:Int) (b:Int),∀ g,m [U d,U f,I b] g->Br (decide (b<(c:Int))) (∃ u,p=some u/\0<=b/\b<(c:Int)/\∃ (i:Int),g.cell? (u.add (b.toNat*1))=some (U32 i)/\∃ v,j=some v/\0<=B4 (b+a)/\B4 (b+a)<(k:Int)/\∃ (l:Int),g.cell? (v.add ((B4 (b+a)).toNat*1))=some (U32 l)/\∃ w,j=some w/\0<=B4 (b+a)/\B4 (b+a)<(k:Int)/\wpH P (Instr.storeAt 178 (.pointer (some (w.add ((B4 (b+a)).toNat*1)))) (U32 (F4 (C0 ((C0 ((C0 l)-(Nz .u64 (C0 ((C0 (e*(C0 i)))+d)) (4294967295:Int))))-f))))) (fun _ s=>m [U (Int.fdiv (C0 ((C0 (e*(C0 i)))+d)) (2^(min ((32:Int)).toNat 64))),U (Nz .u64 (Int.fdiv (C0 ((C0 ((C0 l)-(Nz .u64 (C0 ((C0 (e*(C0 i)))+d)) (4294967295:Int))))-f)) (2^(min ((32:Int)).toNat 64))) (1:Int)),I (B4 (b+1))] s/\q [U (Int.fdiv (C0 ((C0 (e*(C0 i)))+d)) (2^(min ((32:Int)).toNat 64))),U (Nz .u64 (Int.fdiv (C0 ((C0 ((C0 l)-(Nz .u64 (C0 ((C0 (e*(C0 i)))+d)) (4294967295:Int))))-f)) (2^(min ((32:Int)).toNat 64))) (1:Int)),I (B4 (b+1))] s<q [U d,U f,I b] g) g)
 (∃ x,j=some x/\0<=B4 (a+(c:Int))/\B4 (a+(c:Int))<(k:Int)/\∃ (n:Int),g.cell? (x.add ((B4 (a+(c:Int))).toNat*1))=some (U32 n)/\∃ y,j=some y/\0<=B4 (a+(c:Int))/\B4 (a+(c:Int))<(k:Int)/\wpH P (Instr.storeAt 178 (.pointer (some (y.add ((B4 (a+(c:Int))).toNat*1)))) (U32 (F4 (C0 ((C0 ((C0 n)-d))-f))))) (fun _ t=>∃ (o:List Value->Heap->Prop),(Br ((Int.fdiv (C0 ((C0 ((C0 n)-d))-f)) (2^(min ((63:Int)).toNat 64)))==(1:Int)) (Od P p c j k a e o t)
 (o [U e] t))/\
 ∀ (r:Int),∀ z,o [U r] z->Oh P A B a C r z) g)
def Vt(P:Program)(a:OA)(b:Nat)(c:OA)(d:Nat)(e:OA)(f:Nat)(g:Int)(i:List Value->Heap->Prop)(j:Int)(k:Heap):Prop:=
 Oe P a b c d e f g i j k
def Vu(P:Program)(d:List Value->Heap->Prop)(b:List Value->Heap->Nat)(a:Int)(e:Heap)(c:Heap):Prop:=
 d [I (B4 (a-1))] c/\b [I (B4 (a-1))] c<b [I a] e
def Ic(P:Program)(K:Value->Heap->Prop)(f:Int)(y:OA)(z A:Nat)(c:OA)(b B:Nat)(C:Heap):Prop:=
 ∃ (g:List Value->Heap->Prop) (i:List Value->Heap->Nat),g [I 0] C/\
 ∀ (a:Int),∀ d,g [I a] d->Br (decide (a<(b:Int))) (∃ t,c=some t/\0<=a/\a<(b:Int)/\∃ (j:Int),d.cell? (t.add (a.toNat*1))=some (U32 j)/\Br (decide (f<0)) False
 (∃ u,c=some u/\0<=a/\a<(b:Int)/\wpH P (Instr.storeAt 178 (.pointer (some (u.add (a.toNat*1)))) (U32 (Int.fdiv j (2^(min f.toNat 32))))) (fun _ e=>Br (decide ((B4 (a+1))<(b:Int))) (∃ v,c=some v/\0<=a/\a<(b:Int)/\∃ (k:Int),e.cell? (v.add (a.toNat*1))=some (U32 k)/\∃ w,c=some w/\0<=B4 (a+1)/\B4 (a+1)<(b:Int)/\∃ (l:Int),e.cell? (w.add ((B4 (a+1)).toNat*1))=some (U32 l)/\Br (decide (C0 ((32:Int)-f)<0)) False
 (∃ x,c=some x/\0<=a/\a<(b:Int)/\wpH P (Instr.storeAt 178 (.pointer (some (x.add (a.toNat*1)))) (U32 (bor .u32 k (F4 (C0 ((C0 l)*2^(min (C0 ((32:Int)-f)).toNat 64))))))) (fun _ s=>g [I (B4 (a+1))] s/\i [I (B4 (a+1))] s<i [I a] d) e))
 (g [I (B4 (a+1))] e/\i [I (B4 (a+1))] e<i [I a] d)) d))
 (FCall P R4 #[.slice y z A] d (fun D E=>∃ (m:OA) (n o:Nat),D= .slice m n o/\FCall P R4 #[.slice c b B] E (fun F G=>∃ (p:OA) (q r:Nat),F= .slice p q r/\K (.tuple #[.slice m n o,.slice p q r]) G)))
def Vv(P:Program)(K:Value->Heap->Prop)(A:Int)(e:OA)(a:Nat)(d:OA)(f g:Nat)(k:OA)(l B:Nat)(C:List Value->Heap->Prop)(D:List Value->Heap->Nat)(b:Int)(c:Heap):Prop:=
 Br (decide (b>=(0:Int))) (∃ (m:List Value->Heap->Prop),(∃ u,d=some u/\0<=B4 (b+(a:Int))/\B4 (b+(a:Int))<(f:Int)/\∃ (n:Int),c.cell? (u.add ((B4 (b+(a:Int))).toNat*1))=some (U32 n)/\∃ v,d=some v/\0<=B4 ((B4 (b+(a:Int)))-1)/\B4 ((B4 (b+(a:Int)))-1)<(f:Int)/\∃ (o:Int),c.cell? (v.add ((B4 ((B4 (b+(a:Int)))-1)).toNat*1))=some (U32 o)/\∃ w,e=some w/\0<=B4 ((a:Int)-1)/\B4 ((a:Int)-1)<(a:Int)/\∃ (i:Int),c.cell? (w.add ((B4 ((a:Int)-1)).toNat*1))=some (U32 i)/\Br (decide (C0 i=0)) False
 (∃ x,e=some x/\0<=B4 ((a:Int)-1)/\B4 ((a:Int)-1)<(a:Int)/\∃ (j:Int),c.cell? (x.add ((B4 ((a:Int)-1)).toNat*1))=some (U32 j)/\Br (decide (C0 j=0)) False
 (∃ (p:List Value->Heap->Prop),(Of P e a d f b n o i j p c)/\
 ∀ (q:Int),∀ y,p [U q] y->Vt P e a d f k l b m q y)))/\
 ∀ z,m [] z->Vu P C D b c z)
 ((0<=(a:Int)/\(a:Int)<=(g:Int))/\FCall P R4 #[.slice (I8 d g 0 1) ((((a:Int)).toNat)-0) (g-0)] c (fun E F=>∃ (r:OA) (s t:Nat),E= .slice r s t/\Ic P K A k l B r s t F))
def Og(P:Program)(K:Value->Heap->Prop)(f:Int)(g:OA)(b:Nat)(i:OA)(c j:Nat)(k:OA)(l m:Nat)(n:Heap):Prop:=
 ∃ (a:List Value->Heap->Prop) (o:List Value->Heap->Nat),a [I (B4 ((B4 ((c:Int)-(b:Int)))-1))] n/\
 ∀ (d:Int),∀ e,a [I d] e->Vv P K f g b i c j k l m a o d e
def A1j(P:Program)(u:OA)(v w:Nat)(g:OA)(c x:Nat)(K:Value->Heap->Prop)(y:Heap):Prop:=
 ∃ (f:List Value->Heap->Prop) (i:List Value->Heap->Nat),f [U 0] y/\
 ∀ (a:Int),∀ b,f [U a] b->∃ t,g=some t/\0<=B4 ((c:Int)-1)/\B4 ((c:Int)-1)<(c:Int)/\∃ (j:Int),b.cell? (t.add ((B4 ((c:Int)-1)).toNat*1))=some (U32 j)/\Br (decide (a<0)) False
 (Br (decide ((F4 (j*2^(min a.toNat 32)))<(2147483648:Int))) (f [U (C0 (a+1))] b/\i [U (C0 (a+1))] b<i [U a] b)
 (FCall P Cm #[.slice g c x,U a] b (fun A B=>∃ (k:OA) (l m:Nat),A= .slice k l m/\FCall P R4 #[.slice k l m] B (fun C D=>∃ (n:OA) (d z:Nat),C= .slice n d z/\FCall P Cm #[.slice u v w,U a] D (fun E F=>∃ (o:OA) (e p:Nat),E= .slice o e p/\wpH P (Instr.makeSlice 50 (I (B4 ((B4 ((B4 ((e:Int)-(d:Int)))-1))+1))) (I (B4 ((B4 ((B4 ((e:Int)-(d:Int)))-1))+1)))) (fun G H=>∃ (q:OA) (r s:Nat),G= .slice q r s/\Og P K a n d o e p q r s H) F)))))
def B0g(P:Program)(a:OA)(b c:Nat)(f:OA)(d g:Nat)(h:Heap)(K:Value->Heap->Prop):Prop:=
 FCall P Lj #[.slice a b c,.slice f d g] h (fun B e=>∃ (i:Int),B=I i/\Br (decide (i<(0:Int))) (wpH P (Instr.buildSlice 50 0 #[]) (fun C D=>∃ (j:OA) (k l:Nat),C= .slice j k l/\wpH P (Builtin.append_ #[50,50] 50 #[.slice j k l,.slice a b c]) (fun E F=>∃ (m:OA) (n o:Nat),E= .slice m n o/\K (.tuple #[.slice none 0 0,.slice m n o]) F) D) e)
 (Br ((d:Int)==(1:Int)) (∃ A,f=some A/\0<=(0:Int)/\(0:Int)<(d:Int)/\∃ (p:Int),e.cell? (A.add (((0:Int)).toNat*1))=some (U32 p)/\FCall P Er #[.slice a b c,U32 p] e (fun G H=>∃ (q:OA) (r s:Nat) (t:Int),G= .tuple #[.slice q r s,U32 t]/\wpH P (Instr.buildSlice 50 1 #[(0,U32 t)]) (fun J L=>∃ (u:OA) (v w:Nat),J= .slice u v w/\FCall P R4 #[.slice u v w] L (fun M N=>∃ (x:OA) (y z:Nat),M= .slice x y z/\K (.tuple #[.slice q r s,.slice x y z]) N)) H))
 (A1j P a b c f d g K e)))
theorem A6n(a:OA)(b d:Nat)(e:OA)(f g:Nat)(hvc:B0g Tryz.prog a b d e f g h K):FCall Tryz.prog Lh #[.slice a b d,.slice e f g] h K:=
 B8 Tryz.func209 (c:=C1 Tryz.f209) (by kernel_rfl) (rs:=[.tmp 4,.tmp 5]) (by kernel_rfl) (fa:=⟨[(7,⟨[8],[],[.int .u64 0],⟨([8]++Lrg 49 11),[]⟩⟩),(15,⟨[14],[],[.int .i64 0],⟨(Lrg 14 11++Lrg 78 178),[]⟩⟩),(20,⟨[16,17],[],[.int .u64 0,.int .u64 0],⟨([16,17]++Lrg 115 36),[]⟩⟩),(26,⟨[18,19,20],[],[.int .u64 0,.int .u64 0,.int .i64 0],⟨([18,19,20,21,22]++Lrg 151 38),[]⟩⟩),(39,⟨[18,24],[],[.int .u64 0,.int .i64 0],⟨([18,24]++Lrg 212 29),[]⟩⟩),(48,⟨[26],[],[.int .i64 0],⟨([26]++Lrg 260 36),[]⟩⟩)],[(16,⟨[],[],[],⟨(Lrg 15 10++Lrg 82 174),[]⟩⟩),(21,⟨[],[],[],⟨(Lrg 115 24),[]⟩⟩),(24,⟨[16],[],[.int .u64 0],⟨([16,17]++Lrg 115 36),[]⟩⟩),(45,⟨[16],[],[.int .u64 0],⟨([16,18,24]++Lrg 207 44),[]⟩⟩)],[(17,((Lrg 0 18),[[],[],[],[1,2],[0,1,2,3],[0,1,2,3,4],[0,1,2,3,4,5],[0,1,2,3,4,5,6],[],[],[],[9,10],[9,10,11],[8,9,10,11,12],[8,9,10,11,12,13],[8,9,10,11,12,13,14],(Lrg 0 16),(Lrg 0 17)])),(20,((Lrg 0 24),[[],[0],[0,1],[0,1,2],[0,1,2],[0,1,2],[0,1,2,5],[0,1,2,4,5,6],[0,1,2,4,5,6,7],[0,1,2,4,5,6,7,8],(Lrg 0 10),[0,1,2],[0,1,2,11],[0,1,2],[0,1,2],[0,1,2],[0,1,2,14,15],[0,1,2,14,15,16],[0,1,2,13,14,15,16,17],[0,1,2,13,14,15,16,17,18],[0,1,2,13,14,15,16,17,18,19],([0,1,2]++Lrg 11 10),(Lrg 0 22),(Lrg 0 23)])),(41,((Lrg 0 16),[[],[],[],[],[2,3],[1,2,3,4],[1,2,3,4,5],[1,2,3,4,5,6],[],[],[8,9],[8,9,10],[8,9,10,11],(Lrg 1 12),(Lrg 0 14),(Lrg 0 15)])),(52,((Lrg 0 17),[[],[],[0,1],[0,1,2],[],[],[5],[4,5,6],[4,5,6,7],[4,5,6,7,8],[],[10],(Lrg 4 8),(Lrg 4 9),(Lrg 0 14),(Lrg 0 15),(Lrg 0 16)]))],[],[]⟩)
  (cfg:=⟨300,[],none,[146,167,185,232],[],false⟩) (args:=[.slice a b d,.slice e f g]) (by kernel_rfl) (B0 Tryz.call146 (B0 Tryz.call167 (B0 Tryz.call185 (B0 Tryz.call232 Bodies.nil)))) (Eq.mp (by kernel_rfl) hvc)
def B50(P:Program)(d:Bool)(b:OA)(a c:Nat)(h:Heap)(K:Value->Heap->Prop):Prop:=
 Br d (K (.agg #[.bool (decide ((a:Int)>(0:Int))),.slice b a c]) h)
 (K (.agg #[.bool false,.slice b a c]) h)
theorem B0f(a:Bool)(b:OA)(d e:Nat)(hvc:B50 Tryz.prog a b d e h K):FCall Tryz.prog Q5 #[.bool a,.slice b d e] h K:=
 B8 Tryz.func144 (c:=C1 Tryz.f144) (by kernel_rfl) (rs:=[.cell 4 52]) (by kernel_rfl) (fa:=⟨[],[],[],[],[]⟩)
  (cfg:=⟨13,[4],none,[],[],false⟩) (args:=[.bool a,.slice b d e]) (by kernel_rfl) Bodies.nil (Eq.mp (by kernel_rfl) hvc)
def A50(P:Program)(a:Int)(h:Heap)(K:Value->Heap->Prop):Prop:=
 ∃ (b:List Value->Heap->Prop),(Br (decide (a<(0:Int))) (b [U (C0 (0-(C0 a)))] h)
 (b [U (C0 a)] h))/\
 ∀ (c:Int),∀ o,b [U c] o->wpH P (Instr.buildSlice 50 2 #[(0,U32 (F4 c)),(1,U32 (F4 (Int.fdiv c (2^(min ((32:Int)).toNat 64)))))]) (fun p q=>∃ (d:OA) (e f:Nat),p= .slice d e f/\FCall P R4 #[.slice d e f] q (fun r s=>∃ (g:OA) (i j:Nat),r= .slice g i j/\FCall P Q5 #[.bool (decide (a<(0:Int))),.slice g i j] s (fun t u=>∃ (k:Bool) (l:OA) (m n:Nat),t= .agg #[.bool k,.slice l m n]/\K (.agg #[.bool k,.slice l m n]) u))) o
theorem A3k(a:Int)(hvc:A50 Tryz.prog a h K):FCall Tryz.prog Hs #[I a] h K:=
 B8 Tryz.func118 (c:=C1 Tryz.f118) (by kernel_rfl) (rs:=[.cell 2 52]) (by kernel_rfl) (fa:=⟨[],[(4,⟨[3],[],[.int .u64 0],⟨[3,6,7,8,9],[]⟩⟩)],[],[],[]⟩)
  (cfg:=⟨20,[2],none,[144,167],[],false⟩) (args:=[I a]) (by kernel_rfl) (B0 Tryz.call144 (B0 Tryz.call167 Bodies.nil)) (Eq.mp (by kernel_rfl) hvc)
def B8q(P:Program)(a:Bool)(c:OA)(b d:Nat)(h:Heap)(K:Value->Heap->Prop):Prop:=
 Br a (K (I (-1:Int)) h)
 (Br ((b:Int)==(0:Int)) (K (I 0) h)
 (K (I 1) h))
theorem B37(a:Bool)(b:OA)(d e:Nat)(hvc:B8q Tryz.prog a b d e h K):FCall Tryz.prog Xm #[.agg #[.bool a,.slice b d e]] h K:=
 B8 Tryz.func90 (c:=C1 Tryz.f90) (by kernel_rfl) (rs:=[.tmp 2]) (by kernel_rfl) (fa:=⟨[],[],[],[],[]⟩)
  (cfg:=⟨11,[1],none,[],[],false⟩) (args:=[.agg #[.bool a,.slice b d e]]) (by kernel_rfl) Bodies.nil (Eq.mp (by kernel_rfl) hvc)
def C1f(P:Program)(e:Bool)(f:OA)(g i:Nat)(h:Heap)(K:Value->Heap->Prop):Prop:=
 FCall P Q5 #[.bool (!e),.slice f g i] h (fun j k=>∃ (a:Bool) (b:OA) (c d:Nat),j= .agg #[.bool a,.slice b c d]/\K (.agg #[.bool a,.slice b c d]) k)
theorem B6y(a:Bool)(b:OA)(d e:Nat)(hvc:C1f Tryz.prog a b d e h K):FCall Tryz.prog A0p #[.agg #[.bool a,.slice b d e]] h K:=
 B8 Tryz.func179 (c:=C1 Tryz.f179) (by kernel_rfl) (rs:=[.cell 2 52]) (by kernel_rfl) (fa:=⟨[],[],[],[],[]⟩)
  (cfg:=⟨9,[1,2],none,[144],[],false⟩) (args:=[.agg #[.bool a,.slice b d e]]) (by kernel_rfl) (B0 Tryz.call144 Bodies.nil) (Eq.mp (by kernel_rfl) hvc)
def C1i(P:Program)(i:Bool)(a:OA)(b c:Nat)(m:Bool)(d:OA)(e f:Nat)(h:Heap)(K:Value->Heap->Prop):Prop:=
 Br (i==m) (FCall P Lk #[.slice a b c,.slice d e f] h (fun O j=>∃ (n:OA) (o p:Nat),O= .slice n o p/\Heap.le h j/\FCall P Q5 #[.bool i,.slice n o p] j (fun Q L=>∃ (q:Bool) (r:OA) (s t:Nat),Q= .agg #[.bool q,.slice r s t]/\Heap.le j L/\K (.agg #[.bool q,.slice r s t]) L)))
 (FCall P Lj #[.slice a b c,.slice d e f] h (fun R g=>∃ (u:Int),R=I u/\Br (decide (u>=(0:Int))) (FCall P Ld #[.slice a b c,.slice d e f] g (fun S k=>∃ (v:OA) (w x:Nat),S= .slice v w x/\Heap.le g k/\FCall P Q5 #[.bool i,.slice v w x] k (fun T M=>∃ (y:Bool) (z:OA) (A B:Nat),T= .agg #[.bool y,.slice z A B]/\Heap.le k M/\K (.agg #[.bool y,.slice z A B]) M)))
 (FCall P Ld #[.slice d e f,.slice a b c] g (fun V l=>∃ (C:OA) (D E:Nat),V= .slice C D E/\Heap.le g l/\FCall P Q5 #[.bool m,.slice C D E] l (fun W N=>∃ (F:Bool) (G:OA) (H J:Nat),W= .agg #[.bool F,.slice G H J]/\Heap.le l N/\K (.agg #[.bool F,.slice G H J]) N)))))
theorem B71(a:Bool)(b:OA)(d e:Nat)(f:Bool)(g:OA)(i j:Nat)(hvc:C1i Tryz.prog a b d e f g i j h K):FCall Tryz.prog A4h #[.agg #[.bool a,.slice b d e],.agg #[.bool f,.slice g i j]] h K:=
 B8 Tryz.func147 (c:=C1 Tryz.f147) (by kernel_rfl) (rs:=[.cell 4 52]) (by kernel_rfl) (fa:=⟨[],[],[(2,((Lrg 0 9),[[],[0],[],[2],[],[4],[2,3,4,5],[0,1,2,3,4,5,6],(Lrg 0 8)])),(4,((Lrg 0 9),[[],[0],[],[2],[],[4],[2,3,4,5],[0,1,2,3,4,5,6],(Lrg 0 8)])),(5,((Lrg 0 9),[[],[0],[],[2],[],[4],[2,3,4,5],[0,1,2,3,4,5,6],(Lrg 0 8)]))],[],[]⟩)
  (cfg:=⟨40,[2,3,4],none,[144,180,185,186],[],false⟩) (args:=[.agg #[.bool a,.slice b d e],.agg #[.bool f,.slice g i j]]) (by kernel_rfl) (B0 Tryz.call144 (B0 Tryz.call180 (B0 Tryz.call185 (B0 Tryz.call186 Bodies.nil)))) (Eq.mp (by kernel_rfl) hvc)
def C1g(P:Program)(k:Bool)(l:OA)(m n:Nat)(o:Bool)(p:OA)(q r:Nat)(h:Heap)(K:Value->Heap->Prop):Prop:=
 FCall P Lg #[.slice l m n,.slice p q r] h (fun s a=>∃ (b:OA) (c d:Nat),s= .slice b c d/\Heap.le h a/\FCall P Q5 #[.bool (!(k==o)),.slice b c d] a (fun t j=>∃ (e:Bool) (f:OA) (g i:Nat),t= .agg #[.bool e,.slice f g i]/\Heap.le a j/\K (.agg #[.bool e,.slice f g i]) j))
theorem B6z(a:Bool)(b:OA)(d e:Nat)(f:Bool)(g:OA)(i j:Nat)(hvc:C1g Tryz.prog a b d e f g i j h K):FCall Tryz.prog Ii #[.agg #[.bool a,.slice b d e],.agg #[.bool f,.slice g i j]] h K:=
 B8 Tryz.func148 (c:=C1 Tryz.f148) (by kernel_rfl) (rs:=[.cell 4 52]) (by kernel_rfl) (fa:=⟨[],[],[(1,((Lrg 0 12),[[],[0],[],[2],[0,1,2,3],[],[5],[],[7],[5,6,7,8],(Lrg 0 10),(Lrg 0 11)]))],[],[]⟩)
  (cfg:=⟨16,[2,3,4],none,[144,181],[],false⟩) (args:=[.agg #[.bool a,.slice b d e],.agg #[.bool f,.slice g i j]]) (by kernel_rfl) (B0 Tryz.call144 (B0 Tryz.call181 Bodies.nil)) (Eq.mp (by kernel_rfl) hvc)
def B0c(P:Program)(b:Bool)(t:OA)(u v:Nat)(w:Bool)(x:OA)(y z:Nat)(h:Heap)(K:Value->Heap->Prop):Prop:=
 FCall P Lh #[.slice t u v,.slice x y z] h (fun A r=>∃ (c:OA) (d e:Nat) (f:OA) (g i:Nat),A= .tuple #[.slice c d e,.slice f g i]/\FCall P Q5 #[.bool (!(b==w)),.slice c d e] r (fun B a=>∃ (j:Bool) (k:OA) (l m:Nat),B= .agg #[.bool j,.slice k l m]/\Heap.le r a/\FCall P Q5 #[.bool b,.slice f g i] a (fun C s=>∃ (n:Bool) (o:OA) (p q:Nat),C= .agg #[.bool n,.slice o p q]/\Heap.le a s/\K (.tuple #[.agg #[.bool j,.slice k l m],.agg #[.bool n,.slice o p q]]) s)))
theorem A6l(a:Bool)(b:OA)(d e:Nat)(f:Bool)(g:OA)(i j:Nat)(hvc:B0c Tryz.prog a b d e f g i j h K):FCall Tryz.prog Lf #[.agg #[.bool a,.slice b d e],.agg #[.bool f,.slice g i j]] h K:=
 B8 Tryz.func184 (c:=C1 Tryz.f184) (by kernel_rfl) (rs:=[.cell 4 52,.cell 5 52]) (by kernel_rfl) (fa:=⟨[],[],[(2,([0,1,2,3,4,5,7,8,9,6,10,11,12],[[],[0],[],[2],[0,1,2,3],[],[0,1,2,3,4,5],[],[7],[],(Lrg 0 10),(Lrg 0 11),(Lrg 0 12)]))],[],[]⟩)
  (cfg:=⟨27,[2,3,4,5],none,[144,209],[],false⟩) (args:=[.agg #[.bool a,.slice b d e],.agg #[.bool f,.slice g i j]]) (by kernel_rfl) (B0 Tryz.call144 (B0 Tryz.call209 Bodies.nil)) (Eq.mp (by kernel_rfl) hvc)
def C1h(P:Program)(E:Bool)(s:OA)(t u:Nat)(F:Bool)(v:OA)(w x:Nat)(h:Heap)(K:Value->Heap->Prop):Prop:=
 ∃ (i:List Value->Heap->Prop) (m:List Value->Heap->Nat),i [.slice s t u,.slice v w x] h/\
 ∀ (d:OA) (e f:Nat) (b:OA) (a c:Nat),∀ g,i [.slice d e f,.slice b a c] g->Br (decide ((a:Int)>(0:Int))) (FCall P Lh #[.slice d e f,.slice b a c] g (fun B r=>∃ (y:OA) (z A:Nat) (j:OA) (k l:Nat),B= .tuple #[.slice y z A,.slice j k l]/\i [.slice b a c,.slice j k l] r/\m [.slice b a c,.slice j k l] r<m [.slice d e f,.slice b a c] g))
 (FCall P Q5 #[.bool false,.slice d e f] g (fun C D=>∃ (n:Bool) (o:OA) (p q:Nat),C= .agg #[.bool n,.slice o p q]/\K (.agg #[.bool n,.slice o p q]) D))
theorem B70(a:Bool)(b:OA)(d e:Nat)(f:Bool)(g:OA)(i j:Nat)(hvc:C1h Tryz.prog a b d e f g i j h K):FCall Tryz.prog A8u #[.agg #[.bool a,.slice b d e],.agg #[.bool f,.slice g i j]] h K:=
 B8 Tryz.func182 (c:=C1 Tryz.f182) (by kernel_rfl) (rs:=[.cell 4 52]) (by kernel_rfl) (fa:=⟨[(2,⟨[5,6],[],[.slice none 0 0,.slice none 0 0],⟨([5,6,7,8]++Lrg 13 11),[]⟩⟩)],[],[(1,([0,1,2,3,4,5],[[],[0],[],[2],[0,1],[0,1,2,3,4]]))],[],[]⟩)
  (cfg:=⟨26,[2,3,4],none,[144,209],[],false⟩) (args:=[.agg #[.bool a,.slice b d e],.agg #[.bool f,.slice g i j]]) (by kernel_rfl) (B0 Tryz.call144 (B0 Tryz.call209 Bodies.nil)) (Eq.mp (by kernel_rfl) hvc)
def B90(P:Program)(k:Bool)(j:OA)(a l:Nat)(h:Heap)(K:Value->Heap->Prop):Prop:=
 Br ((a:Int)==(0:Int)) (K (I 0) h)
 (∃ i,j=some i/\0<=B4 ((a:Int)-1)/\B4 ((a:Int)-1)<(a:Int)/\∃ (f:Int),h.cell? (i.add ((B4 ((a:Int)-1)).toNat*1))=some (U32 f)/\∃ (e:List Value->Heap->Prop) (g:List Value->Heap->Nat),e [I (B4 ((32:Int)*(B4 ((a:Int)-1)))),U32 f] h/\
 ∀ (b:Int) (c:Int),∀ d,e [I b,U32 c] d->Br (decide (c>(0:Int))) (e [I (B4 (b+1)),U32 (Int.fdiv c (2^(min ((1:Int)).toNat 32)))] d/\g [I (B4 (b+1)),U32 (Int.fdiv c (2^(min ((1:Int)).toNat 32)))] d<g [I b,U32 c] d)
 (K (I b) d))
theorem B3h(a:Bool)(b:OA)(d e:Nat)(hvc:B90 Tryz.prog a b d e h K):FCall Tryz.prog Xq #[.agg #[.bool a,.slice b d e]] h K:=
 B8 Tryz.func183 (c:=C1 Tryz.f183) (by kernel_rfl) (rs:=[.tmp 2]) (by kernel_rfl) (fa:=⟨[(5,⟨[3,4],[],[.int .i64 0,.int .u32 0],⟨[3,4,22,23,24,25,26,27],[]⟩⟩)],[],[],[],[]⟩)
  (cfg:=⟨29,[1],none,[],[],false⟩) (args:=[.agg #[.bool a,.slice b d e]]) (by kernel_rfl) Bodies.nil (Eq.mp (by kernel_rfl) hvc)
def B0h(P:Program)(b9:Bool)(a6:OA)(L a7:Nat)(h:Heap)(K:Value->Heap->Prop):Prop:=
 Br ((L:Int)==(0:Int)) (K (.string ({ data:=#[48] }:ByteArray)) h)
 (∃ (p:List Value->Heap->Prop) (M:List Value->Heap->Nat),p [.slice none 0 0,.slice a6 L a7] h/\
 ∀ (i:OA) (g q:Nat) (r:OA) (j s:Nat),∀ n,p [.slice i g q,.slice r j s] n->Br (decide ((j:Int)>(0:Int))) (FCall P Er #[.slice r j s,U32 (1000000000:Int)] n (fun a8 a9=>∃ (t:OA) (u v:Nat) (N:Int),a8= .tuple #[.slice t u v,U32 N]/\wpH P (Instr.buildSlice 50 1 #[(0,U32 N)]) (fun b0 b1=>∃ (O:OA) (Q R:Nat),b0= .slice O Q R/\wpH P (Builtin.append_ #[50,50] 50 #[.slice i g q,.slice O Q R]) (fun b2 a4=>∃ (w:OA) (x y:Nat),b2= .slice w x y/\p [.slice w x y,.slice t u v] a4/\M [.slice w x y,.slice t u v] a4<M [.slice i g q,.slice r j s] n) b1) a9))
 (∃ (z:List Value->Heap->Prop) (S:List Value->Heap->Nat),z [.slice none 0 0,I (B4 ((g:Int)-1))] n/\
 ∀ (k:OA) (l m:Nat) (a:Int),∀ o,z [.slice k l m,I a] o->Br (decide (a>=(0:Int))) (∃ (A:List Value->Heap->Prop) (T:List Value->Heap->Nat),A [.slice k l m,U32 (100000000:Int)] o/\
 ∀ (e:OA) (c f:Nat) (b:Int),∀ d,A [.slice e c f,U32 b] d->Br (decide (b>(0:Int))) (∃ (B:List Value->Heap->Prop),(∃ a5,i=some a5/\0<=a/\a<(g:Int)/\∃ (C:Int),d.cell? (a5.add (a.toNat*1))=some (U32 C)/\Br (decide (b=0)) False
 (∃ (D:List Value->Heap->Prop),(Br (decide ((c:Int)>(0:Int))) (D [.bool true] d)
 (D [.bool ((wu8 (F4 ((48:Int)+(Int.tmod (F4 (Int.tdiv C b)) (10:Int))))) != (48:Int))] d))/\
 ∀ (V:Bool),∀ H,D [.bool V] H->Br V (wpH P (Instr.buildSlice 181 1 #[(0,Y (wu8 (F4 ((48:Int)+(Int.tmod (F4 (Int.tdiv C b)) (10:Int))))))]) (fun b3 b4=>∃ (W:OA) (X Z:Nat),b3= .slice W X Z/\wpH P (Builtin.append_ #[181,181] 181 #[.slice e c f,.slice W X Z]) (fun b5 b6=>∃ (a0:OA) (a1 a2:Nat),b5= .slice a0 a1 a2/\B [.slice a0 a1 a2] b6) b4) H)
 (B [.slice e c f] H)))/\
 ∀ (E:OA) (F G:Nat),∀ J,B [.slice E F G] J->A [.slice E F G,U32 (F4 (Int.tdiv b (10:Int)))] J/\T [.slice E F G,U32 (F4 (Int.tdiv b (10:Int)))] J<T [.slice e c f,U32 b] d)
 (z [.slice e c f,I (B4 (a-1))] d/\S [.slice e c f,I (B4 (a-1))] d<S [.slice k l m,I a] o))
 (wpH P (convert 181 9 (.slice k l m)) (fun b7 b8=>∃ (a3:ByteArray),b7= .string a3/\K (.string a3) b8) o)))
theorem A6o(a:Bool)(b:OA)(d e:Nat)(hvc:B0h Tryz.prog a b d e h K):FCall Tryz.prog Li #[.agg #[.bool a,.slice b d e]] h K:=
 B8 Tryz.func86 (c:=C1 Tryz.f86) (by kernel_rfl) (rs:=[.tmp 2]) (by kernel_rfl) (fa:=⟨[(5,⟨[3,4],[],[.slice none 0 0,.slice none 0 0],⟨([3,4,5,6]++Lrg 17 13),[]⟩⟩),(11,⟨[7,8],[],[.slice none 0 0,.int .i64 0],⟨([7,8,9,10]++Lrg 33 28),[]⟩⟩),(14,⟨[7,9],[],[.slice none 0 0,.int .u32 0],⟨([7,9,10]++Lrg 37 24),[]⟩⟩)],[(15,⟨[7],[],[.slice none 0 0],⟨([7,10]++Lrg 41 20),[]⟩⟩),(18,⟨[56],[],[.bool false],⟨[50,51,52,53,54,55,56],[]⟩⟩)],[],[],[]⟩)
  (cfg:=⟨63,[1],none,[146],[],false⟩) (args:=[.agg #[.bool a,.slice b d e]]) (by kernel_rfl) (B0 Tryz.call146 Bodies.nil) (Eq.mp (by kernel_rfl) hvc)
def Tj(P:Program)(c:ByteArray)(h:Heap)(K:Value->Heap->Prop):Prop:=
 ∃ (q:List Value->Heap->Prop) (G:List Value->Heap->Nat),q [.slice none 0 0,I 0,.bool false,.slice none 0 0] h/\
 ∀ (l:OA) (m n:Nat) (o:Int) (r:Bool) (s:OA) (t u:Nat),∀ p,q [.slice l m n,I o,.bool r,.slice s t u] p->Br (decide (o<((ByteArray.size c:Nat):Int))) (∃ (v:List Value->Heap->Prop),(∃ (w:List Value->Heap->Prop) (H:List Value->Heap->Nat),w [I o,U32 (0:Int),U32 (1:Int),I 0,.bool r,.slice s t u] p/\
 ∀ (a:Int) (d:Int) (e:Int) (k:Int) (f:Bool) (g:OA) (i j:Nat),∀ b,w [I a,U32 d,U32 e,I k,.bool f,.slice g i j] b->Br (decide (k<(9:Int))) (Br (decide (a<((ByteArray.size c:Nat):Int))) (∃ (J:UInt8),(0<=a/\(c)[a.toNat]? = some J)/\Br (decide (((J.toNat:Nat):Int)<(48:Int))) (K (.tuple #[.agg #[.bool false,.slice none 0 0],.bool false]) b)
 (∃ (L:UInt8),(0<=a/\(c)[a.toNat]? = some L)/\Br (decide (((L.toNat:Nat):Int)>(57:Int))) (K (.tuple #[.agg #[.bool false,.slice none 0 0],.bool false]) b)
 (∃ (x:UInt8),(0<=a/\(c)[a.toNat]? = some x)/\w [I (B4 (a+1)),U32 (F4 ((F4 (d*(10:Int)))+(F4 (wu8 (((x.toNat:Nat):Int)-48))))),U32 (F4 (e*(10:Int))),I (B4 (k+1)),.bool f,.slice g i j] b/\H [I (B4 (a+1)),U32 (F4 ((F4 (d*(10:Int)))+(F4 (wu8 (((x.toNat:Nat):Int)-48))))),U32 (F4 (e*(10:Int))),I (B4 (k+1)),.bool f,.slice g i j] b<H [I a,U32 d,U32 e,I k,.bool f,.slice g i j] b)))
 (v [I a,U32 d,U32 e,.bool f,.slice g i j] b))
 (v [I a,U32 d,U32 e,.bool f,.slice g i j] b))/\
 ∀ (y:Int) (M:Int) (N:Int) (z:Bool) (A:OA) (B C:Nat),∀ a8,v [I y,U32 M,U32 N,.bool z,.slice A B C] a8->wpH P (Instr.buildSlice 50 1 #[(0,U32 N)]) (fun a9 b0=>∃ (O:OA) (Q R:Nat),a9= .slice O Q R/\FCall P Lg #[.slice l m n,.slice O Q R] b0 (fun b1 b2=>∃ (S:OA) (T V:Nat),b1= .slice S T V/\wpH P (Instr.buildSlice 50 1 #[(0,U32 M)]) (fun b3 b4=>∃ (W:OA) (X Z:Nat),b3= .slice W X Z/\FCall P R4 #[.slice W X Z] b4 (fun b5 b6=>∃ (a0:OA) (a1 a2:Nat),b5= .slice a0 a1 a2/\FCall P Lk #[.slice S T V,.slice a0 a1 a2] b6 (fun b7 a7=>∃ (D:OA) (E F:Nat),b7= .slice D E F/\q [.slice D E F,I y,.bool z,.slice A B C] a7/\G [.slice D E F,I y,.bool z,.slice A B C] a7<G [.slice l m n,I o,.bool r,.slice s t u] p))) b2)) a8)
 (FCall P Q5 #[.bool false,.slice l m n] p (fun b8 b9=>∃ (a3:Bool) (a4:OA) (a5 a6:Nat),b8= .agg #[.bool a3,.slice a4 a5 a6]/\K (.tuple #[.agg #[.bool a3,.slice a4 a5 a6],.bool (!(ByteArray.toList c==ByteArray.toList ({ data:=#[] }:ByteArray)))]) b9))
theorem Ui(a:ByteArray)(hvc:Tj Tryz.prog a h K):FCall Tryz.prog Az #[.string a] h K:=
 B8 Tryz.func143 (c:=C1 Tryz.f143) (by kernel_rfl) (rs:=[.cell 2 52,.tmp 3]) (by kernel_rfl) (fa:=⟨[(3,⟨[4,5],[(2,2)],[.slice none 0 0,.int .i64 0,.bool false,.slice none 0 0],⟨(Lrg 3 51),[2]⟩⟩),(6,⟨[5,6,7,8],[(2,2)],[.int .i64 0,.int .u32 0,.int .u32 0,.int .i64 0,.bool false,.slice none 0 0],⟨([3,5,6,7,8]++Lrg 13 33),[2]⟩⟩)],[(12,⟨[5,6,7],[(2,2)],[.int .i64 0,.int .u32 0,.int .u32 0,.bool false,.slice none 0 0],⟨([3,5,6,7,8]++Lrg 13 33),[2]⟩⟩)],[],[],[]⟩)
  (cfg:=⟨58,[2],none,[144,167,180,181],[],false⟩) (args:=[.string a]) (by kernel_rfl) (B0 Tryz.call144 (B0 Tryz.call167 (B0 Tryz.call180 (B0 Tryz.call181 Bodies.nil)))) (Eq.mp (by kernel_rfl) hvc)
def B8z(P:Program)(l:Bool)(m:OA)(n o:Nat)(f:Bool)(g:OA)(a i:Nat)(h:Heap)(K:Value->Heap->Prop):Prop:=
 Br ((a:Int)==(0:Int)) (FCall P Hs #[I 1] h (fun j k=>∃ (b:Bool) (c:OA) (d e:Nat),j= .agg #[.bool b,.slice c d e]/\K (.agg #[.bool b,.slice c d e]) k))
 (K (.agg #[.bool f,.slice g a i]) h)
theorem B3g(a:Bool)(b:OA)(d e:Nat)(f:Bool)(g:OA)(i j:Nat)(hvc:B8z Tryz.prog a b d e f g i j h K):FCall Tryz.prog Cv #[.agg #[.bool a,.slice b d e,.bool f,.slice g i j]] h K:=
 B8 Tryz.func149 (c:=C1 Tryz.f149) (by kernel_rfl) (rs:=[.cell 2 52]) (by kernel_rfl) (fa:=⟨[],[],[],[],[]⟩)
  (cfg:=⟨11,[1,2],none,[118],[],false⟩) (args:=[.agg #[.bool a,.slice b d e,.bool f,.slice g i j]]) (by kernel_rfl) (B0 Tryz.call118 Bodies.nil) (Eq.mp (by kernel_rfl) hvc)
def B8y(P:Program)(w:Bool)(x:OA)(y z:Nat)(n:Bool)(A:OA)(B C:Nat)(h:Heap)(K:Value->Heap->Prop):Prop:=
 ∃ (o:List Value->Heap->Prop),(Br n (FCall P A0p #[.agg #[.bool w,.slice x y z]] h (fun c2 v=>∃ (D:Bool) (E:OA) (F G:Nat),c2= .agg #[.bool D,.slice E F G]/\Heap.le h v/\FCall P A0p #[.agg #[.bool n,.slice A B C]] v (fun c3 a8=>∃ (H:Bool) (J:OA) (L M:Nat),c3= .agg #[.bool H,.slice J L M]/\Heap.le v a8/\o [.bool D,.slice E F G,.bool H,.slice J L M] a8)))
 (o [.bool w,.slice x y z,.bool n,.slice A B C] h))/\
 ∀ (a:Bool) (b:OA) (c d:Nat) (e:Bool) (f:OA) (g i:Nat),∀ b1,o [.bool a,.slice b c d,.bool e,.slice f g i] b1->FCall P A8u #[.agg #[.bool a,.slice b c d],.agg #[.bool e,.slice f g i]] b1 (fun c4 c5=>∃ (j:Bool) (k:OA) (l m:Nat),c4= .agg #[.bool j,.slice k l m]/\∃ (p:List Value->Heap->Prop),(FCall P Xq #[.agg #[.bool j,.slice k l m]] c5 (fun c6 a9=>∃ (N:Int),c6=I N/\Br (decide (N>(1:Int))) (FCall P Lf #[.agg #[.bool a,.slice b c d],.agg #[.bool j,.slice k l m]] a9 (fun c7 c8=>∃ (O:Bool) (Q:OA) (R S:Nat) (b4:Bool) (b5:OA) (b6 b7:Nat),c7= .tuple #[.agg #[.bool O,.slice Q R S],.agg #[.bool b4,.slice b5 b6 b7]]/\FCall P Lf #[.agg #[.bool e,.slice f g i],.agg #[.bool j,.slice k l m]] c8 (fun c9 d0=>∃ (T:Bool) (V:OA) (W X:Nat) (b8:Bool) (b9:OA) (c0 c1:Nat),c9= .tuple #[.agg #[.bool T,.slice V W X],.agg #[.bool b8,.slice b9 c0 c1]]/\p [.bool O,.slice Q R S,.bool T,.slice V W X] d0)))
 (p [.bool a,.slice b c d,.bool e,.slice f g i] a9)))/\
 ∀ (Z:Bool) (a0:OA) (a1 a2:Nat) (q:Bool) (r:OA) (s t:Nat),∀ b2,p [.bool Z,.slice a0 a1 a2,.bool q,.slice r s t] b2->∃ (u:List Value->Heap->Prop),(FCall P Xq #[.agg #[.bool q,.slice r s t]] b2 (fun d1 b0=>∃ (a3:Int),d1=I a3/\Br (a3==(1:Int)) (u [.bool false,.slice none 0 0] b0)
 (u [.bool q,.slice r s t] b0)))/\
 ∀ (a4:Bool) (a5:OA) (a6 a7:Nat),∀ b3,u [.bool a4,.slice a5 a6 a7] b3->K (.agg #[.bool Z,.slice a0 a1 a2,.bool a4,.slice a5 a6 a7]) b3)
theorem B3f(a:Bool)(b:OA)(d e:Nat)(f:Bool)(g:OA)(i j:Nat)(hvc:B8y Tryz.prog a b d e f g i j h K):FCall Tryz.prog Nr #[.agg #[.bool a,.slice b d e],.agg #[.bool f,.slice g i j]] h K:=
 B8 Tryz.func145 (c:=C1 Tryz.f145) (by kernel_rfl) (rs:=[.cell 4 54]) (by kernel_rfl) (fa:=⟨[],[(3,⟨[],[(2,2),(3,2)],[.bool false,.slice none 0 0,.bool false,.slice none 0 0],⟨[6,7,8,9,10,11],[2,3]⟩⟩),(7,⟨[],[(2,2),(3,2)],[.bool false,.slice none 0 0,.bool false,.slice none 0 0],⟨(Lrg 15 15),[2,3]⟩⟩),(9,⟨[],[(3,2)],[.bool false,.slice none 0 0],⟨[30,31,32,33],[3]⟩⟩)],[(2,([0,2,1,3,4,5],[[],[0],[],[0,1,2],[0,1,2,3],[0,1,2,3,4]]))],[],[]⟩)
  (cfg:=⟨37,[2,3,4,5],none,[179,182,183,184],[],false⟩) (args:=[.agg #[.bool a,.slice b d e],.agg #[.bool f,.slice g i j]]) (by kernel_rfl) (B0 Tryz.call179 (B0 Tryz.call182 (B0 Tryz.call183 (B0 Tryz.call184 Bodies.nil)))) (Eq.mp (by kernel_rfl) hvc)
def NR(P:Program)(e:Int)(h:Heap)(K:Value->Heap->Prop):Prop:=
 FCall P Hs #[I e] h (fun f g=>∃ (a:Bool) (b:OA) (c d:Nat),f= .agg #[.bool a,.slice b c d]/\K (.agg #[.bool a,.slice b c d,.bool false,.slice none 0 0]) g)
theorem C0i(a:Int)(hvc:NR Tryz.prog a h K):FCall Tryz.prog B80 #[I a] h K:=
 B8 Tryz.func59 (c:=C1 Tryz.f59) (by kernel_rfl) (rs:=[.cell 2 54]) (by kernel_rfl) (fa:=⟨[],[],[],[],[]⟩)
  (cfg:=⟨6,[2],none,[118],[],false⟩) (args:=[I a]) (by kernel_rfl) (B0 Tryz.call118 Bodies.nil) (Eq.mp (by kernel_rfl) hvc)
def B4z(P:Program)(b:Bool)(c:OA)(d e:Nat)(i:Bool)(j:OA)(k l:Nat)(h:Heap)(K:Value->Heap->Prop):Prop:=
 FCall P Xm #[.agg #[.bool b,.slice c d e]] h (fun f g=>∃ (a:Int),f=I a/\K (I a) g)
theorem B0b(a:Bool)(b:OA)(d e:Nat)(f:Bool)(g:OA)(i j:Nat)(hvc:B4z Tryz.prog a b d e f g i j h K):FCall Tryz.prog Hr #[.agg #[.bool a,.slice b d e,.bool f,.slice g i j]] h K:=
 B8 Tryz.func32 (c:=C1 Tryz.f32) (by kernel_rfl) (rs:=[.tmp 2]) (by kernel_rfl) (fa:=⟨[],[],[],[],[]⟩)
  (cfg:=⟨6,[1],none,[90],[],false⟩) (args:=[.agg #[.bool a,.slice b d e,.bool f,.slice g i j]]) (by kernel_rfl) (B0 Tryz.call90 Bodies.nil) (Eq.mp (by kernel_rfl) hvc)
def B8t(P:Program)(f:Bool)(g:OA)(i j:Nat)(k:Bool)(l:OA)(m n:Nat)(h:Heap)(K:Value->Heap->Prop):Prop:=
 FCall P A0p #[.agg #[.bool f,.slice g i j]] h (fun o e=>∃ (a:Bool) (b:OA) (c d:Nat),o= .agg #[.bool a,.slice b c d]/\Heap.le h e/\K (.agg #[.bool a,.slice b c d,.bool k,.slice l m n]) e)
theorem B3a(a:Bool)(b:OA)(d e:Nat)(f:Bool)(g:OA)(i j:Nat)(hvc:B8t Tryz.prog a b d e f g i j h K):FCall Tryz.prog Xo #[.agg #[.bool a,.slice b d e,.bool f,.slice g i j]] h K:=
 B8 Tryz.func140 (c:=C1 Tryz.f140) (by kernel_rfl) (rs:=[.cell 2 54]) (by kernel_rfl) (fa:=⟨[],[],[(1,([0,1,3,4,2,5,6],[[],[0],[0,1],[],[3],[0,1,2,3,4],[0,1,2,3,4,5]]))],[],[]⟩)
  (cfg:=⟨9,[1,2],none,[179],[],false⟩) (args:=[.agg #[.bool a,.slice b d e,.bool f,.slice g i j]]) (by kernel_rfl) (B0 Tryz.call179 Bodies.nil) (Eq.mp (by kernel_rfl) hvc)
def B8w(P:Program)(a:Bool)(b:OA)(c d:Nat)(v:Bool)(w:OA)(k x:Nat)(e:Bool)(f:OA)(g i:Nat)(y:Bool)(z:OA)(l A:Nat)(h:Heap)(K:Value->Heap->Prop):Prop:=
 ∃ (m:List Value->Heap->Prop),(Br ((k:Int)==(0:Int)) (m [.bool ((l:Int)==(0:Int))] h)
 (m [.bool false] h))/\
 ∀ (B:Bool),∀ j,m [.bool B] j->Br B (FCall P A4h #[.agg #[.bool a,.slice b c d],.agg #[.bool e,.slice f g i]] j (fun c6 c7=>∃ (C:Bool) (D:OA) (E F:Nat),c6= .agg #[.bool C,.slice D E F]/\K (.agg #[.bool C,.slice D E F,.bool false,.slice none 0 0]) c7))
 (FCall P Cv #[.agg #[.bool e,.slice f g i,.bool y,.slice z l A]] j (fun c8 n=>∃ (G:Bool) (H:OA) (J L:Nat),c8= .agg #[.bool G,.slice H J L]/\Heap.le j n/\FCall P Ii #[.agg #[.bool a,.slice b c d],.agg #[.bool G,.slice H J L]] n (fun c9 o=>∃ (M:Bool) (N:OA) (O Q:Nat),c9= .agg #[.bool M,.slice N O Q]/\Heap.le n o/\FCall P Cv #[.agg #[.bool a,.slice b c d,.bool v,.slice w k x]] o (fun d0 p=>∃ (R:Bool) (S:OA) (T V:Nat),d0= .agg #[.bool R,.slice S T V]/\Heap.le o p/\FCall P Ii #[.agg #[.bool e,.slice f g i],.agg #[.bool R,.slice S T V]] p (fun d1 q=>∃ (W:Bool) (X:OA) (Z a0:Nat),d1= .agg #[.bool W,.slice X Z a0]/\Heap.le p q/\FCall P A4h #[.agg #[.bool M,.slice N O Q],.agg #[.bool W,.slice X Z a0]] q (fun d2 r=>∃ (a1:Bool) (a2:OA) (a3 a4:Nat),d2= .agg #[.bool a1,.slice a2 a3 a4]/\Heap.le q r/\FCall P Cv #[.agg #[.bool a,.slice b c d,.bool v,.slice w k x]] r (fun d3 s=>∃ (a5:Bool) (a6:OA) (a7 a8:Nat),d3= .agg #[.bool a5,.slice a6 a7 a8]/\Heap.le r s/\FCall P Cv #[.agg #[.bool e,.slice f g i,.bool y,.slice z l A]] s (fun d4 t=>∃ (a9:Bool) (b0:OA) (b1 b2:Nat),d4= .agg #[.bool a9,.slice b0 b1 b2]/\Heap.le s t/\FCall P Ii #[.agg #[.bool a5,.slice a6 a7 a8],.agg #[.bool a9,.slice b0 b1 b2]] t (fun d5 u=>∃ (b3:Bool) (b4:OA) (b5 b6:Nat),d5= .agg #[.bool b3,.slice b4 b5 b6]/\Heap.le t u/\FCall P Nr #[.agg #[.bool a1,.slice a2 a3 a4],.agg #[.bool b3,.slice b4 b5 b6]] u (fun d6 c5=>∃ (b7:Bool) (b8:OA) (b9 c0:Nat) (c1:Bool) (c2:OA) (c3 c4:Nat),d6= .agg #[.bool b7,.slice b8 b9 c0,.bool c1,.slice c2 c3 c4]/\Heap.le u c5/\K (.agg #[.bool b7,.slice b8 b9 c0,.bool c1,.slice c2 c3 c4]) c5))))))))))
theorem B3d(a:Bool)(b:OA)(d e:Nat)(f:Bool)(g:OA)(i j:Nat)(k:Bool)(l:OA)(m n:Nat)(o:Bool)(p:OA)(q r:Nat)(hvc:B8w Tryz.prog a b d e f g i j k l m n o p q r h K):FCall Tryz.prog A2y #[.agg #[.bool a,.slice b d e,.bool f,.slice g i j],.agg #[.bool k,.slice l m n,.bool o,.slice p q r]] h K:=
 B8 Tryz.func87 (c:=C1 Tryz.f87) (by kernel_rfl) (rs:=[.cell 4 54]) (by kernel_rfl) (fa:=⟨[],[(2,⟨[16],[],[.bool false],⟨(Lrg 5 12),[]⟩⟩)],[(3,([0,1,2,5,6,7,11,13,3,4,8,9,10,12,14,15,16,17],[[],[0],[],[2],[0,1,2,3],[],[5],[],[0,1,2,3,4,7],(Lrg 0 9),(Lrg 0 10),[],(Lrg 0 12),[],(Lrg 0 14),(Lrg 0 15),(Lrg 0 16),(Lrg 0 17)]))],[],[]⟩)
  (cfg:=⟨40,[2,3,4],none,[145,147,148,149],[],false⟩) (args:=[.agg #[.bool a,.slice b d e,.bool f,.slice g i j],.agg #[.bool k,.slice l m n,.bool o,.slice p q r]]) (by kernel_rfl) (B0 Tryz.call145 (B0 Tryz.call147 (B0 Tryz.call148 (B0 Tryz.call149 Bodies.nil)))) (Eq.mp (by kernel_rfl) hvc)
def B8s(P:Program)(t:Bool)(u:OA)(v w:Nat)(x:Bool)(y:OA)(z A:Nat)(B:Bool)(C:OA)(D E:Nat)(F:Bool)(G:OA)(H J:Nat)(h:Heap)(K:Value->Heap->Prop):Prop:=
 FCall P Xo #[.agg #[.bool B,.slice C D E,.bool F,.slice G H J]] h (fun L a=>∃ (b:Bool) (c:OA) (d e:Nat) (f:Bool) (g:OA) (i j:Nat),L= .agg #[.bool b,.slice c d e,.bool f,.slice g i j]/\Heap.le h a/\FCall P A2y #[.agg #[.bool t,.slice u v w,.bool x,.slice y z A],.agg #[.bool b,.slice c d e,.bool f,.slice g i j]] a (fun M s=>∃ (k:Bool) (l:OA) (m n:Nat) (o:Bool) (p:OA) (q r:Nat),M= .agg #[.bool k,.slice l m n,.bool o,.slice p q r]/\Heap.le a s/\K (.agg #[.bool k,.slice l m n,.bool o,.slice p q r]) s))
theorem B39(a:Bool)(b:OA)(d e:Nat)(f:Bool)(g:OA)(i j:Nat)(k:Bool)(l:OA)(m n:Nat)(o:Bool)(p:OA)(q r:Nat)(hvc:B8s Tryz.prog a b d e f g i j k l m n o p q r h K):FCall Tryz.prog Xn #[.agg #[.bool a,.slice b d e,.bool f,.slice g i j],.agg #[.bool k,.slice l m n,.bool o,.slice p q r]] h K:=
 B8 Tryz.func107 (c:=C1 Tryz.f107) (by kernel_rfl) (rs:=[.cell 4 54]) (by kernel_rfl) (fa:=⟨[],[],[(1,([0,1,2,3,4],[[],[],[1],[0,1,2],[0,1,2,3]]))],[],[]⟩)
  (cfg:=⟨9,[2,3,4],none,[87,140],[],false⟩) (args:=[.agg #[.bool a,.slice b d e,.bool f,.slice g i j],.agg #[.bool k,.slice l m n,.bool o,.slice p q r]]) (by kernel_rfl) (B0 Tryz.call87 (B0 Tryz.call140 Bodies.nil)) (Eq.mp (by kernel_rfl) hvc)
def B8u(P:Program)(b:Bool)(c:OA)(d e:Nat)(a0:Bool)(a1:OA)(p a2:Nat)(f:Bool)(g:OA)(i j:Nat)(a3:Bool)(a4:OA)(q a5:Nat)(h:Heap)(K:Value->Heap->Prop):Prop:=
 ∃ (k:List Value->Heap->Prop),(Br ((p:Int)==(0:Int)) (k [.bool ((q:Int)==(0:Int))] h)
 (k [.bool false] h))/\
 ∀ (r:Bool),∀ a,k [.bool r] a->Br r (FCall P Ii #[.agg #[.bool b,.slice c d e],.agg #[.bool f,.slice g i j]] a (fun a6 a7=>∃ (s:Bool) (t:OA) (u v:Nat),a6= .agg #[.bool s,.slice t u v]/\K (.agg #[.bool s,.slice t u v,.bool false,.slice none 0 0]) a7))
 (FCall P Ii #[.agg #[.bool b,.slice c d e],.agg #[.bool f,.slice g i j]] a (fun a8 l=>∃ (w:Bool) (x:OA) (y z:Nat),a8= .agg #[.bool w,.slice x y z]/\Heap.le a l/\FCall P Cv #[.agg #[.bool b,.slice c d e,.bool a0,.slice a1 p a2]] l (fun a9 m=>∃ (A:Bool) (B:OA) (C D:Nat),a9= .agg #[.bool A,.slice B C D]/\Heap.le l m/\FCall P Cv #[.agg #[.bool f,.slice g i j,.bool a3,.slice a4 q a5]] m (fun b0 n=>∃ (E:Bool) (F:OA) (G H:Nat),b0= .agg #[.bool E,.slice F G H]/\Heap.le m n/\FCall P Ii #[.agg #[.bool A,.slice B C D],.agg #[.bool E,.slice F G H]] n (fun b1 o=>∃ (J:Bool) (L:OA) (M N:Nat),b1= .agg #[.bool J,.slice L M N]/\Heap.le n o/\FCall P Nr #[.agg #[.bool w,.slice x y z],.agg #[.bool J,.slice L M N]] o (fun b2 Z=>∃ (O:Bool) (Q:OA) (R S:Nat) (T:Bool) (V:OA) (W X:Nat),b2= .agg #[.bool O,.slice Q R S,.bool T,.slice V W X]/\Heap.le o Z/\K (.agg #[.bool O,.slice Q R S,.bool T,.slice V W X]) Z))))))
theorem B3b(a:Bool)(b:OA)(d e:Nat)(f:Bool)(g:OA)(i j:Nat)(k:Bool)(l:OA)(m n:Nat)(o:Bool)(p:OA)(q r:Nat)(hvc:B8u Tryz.prog a b d e f g i j k l m n o p q r h K):FCall Tryz.prog Rv #[.agg #[.bool a,.slice b d e,.bool f,.slice g i j],.agg #[.bool k,.slice l m n,.bool o,.slice p q r]] h K:=
 B8 Tryz.func88 (c:=C1 Tryz.f88) (by kernel_rfl) (rs:=[.cell 4 54]) (by kernel_rfl) (fa:=⟨[],[(2,⟨[16],[],[.bool false],⟨(Lrg 5 12),[]⟩⟩)],[(3,([0,1,2,3,5,7,4,6,8,9,10,11],[[],[0],[],[2],[0,1,2,3],[],[0,1,2,3,4,5],[],(Lrg 0 8),(Lrg 0 9),(Lrg 0 10),(Lrg 0 11)]))],[],[]⟩)
  (cfg:=⟨34,[2,3,4],none,[145,148,149],[],false⟩) (args:=[.agg #[.bool a,.slice b d e,.bool f,.slice g i j],.agg #[.bool k,.slice l m n,.bool o,.slice p q r]]) (by kernel_rfl) (B0 Tryz.call145 (B0 Tryz.call148 (B0 Tryz.call149 Bodies.nil))) (Eq.mp (by kernel_rfl) hvc)
def B8v(P:Program)(k:Bool)(l:OA)(m n:Nat)(W:Bool)(X:OA)(Z a0:Nat)(a:Bool)(b:OA)(c d:Nat)(o:Bool)(p:OA)(q r:Nat)(h:Heap)(K:Value->Heap->Prop):Prop:=
 FCall P Hr #[.agg #[.bool a,.slice b c d,.bool o,.slice p q r]] h (fun a1 e=>∃ (s:Int),a1=I s/\Br (s==(0:Int)) (K (.agg #[.bool false,.slice none 0 0,.bool false,.slice none 0 0]) e)
 (FCall P Cv #[.agg #[.bool a,.slice b c d,.bool o,.slice p q r]] e (fun a2 f=>∃ (t:Bool) (u:OA) (v w:Nat),a2= .agg #[.bool t,.slice u v w]/\Heap.le e f/\FCall P Ii #[.agg #[.bool k,.slice l m n],.agg #[.bool t,.slice u v w]] f (fun a3 g=>∃ (x:Bool) (y:OA) (z A:Nat),a3= .agg #[.bool x,.slice y z A]/\Heap.le f g/\FCall P Cv #[.agg #[.bool k,.slice l m n,.bool W,.slice X Z a0]] g (fun a4 i=>∃ (B:Bool) (C:OA) (D E:Nat),a4= .agg #[.bool B,.slice C D E]/\Heap.le g i/\FCall P Ii #[.agg #[.bool B,.slice C D E],.agg #[.bool a,.slice b c d]] i (fun a5 j=>∃ (F:Bool) (G:OA) (H J:Nat),a5= .agg #[.bool F,.slice G H J]/\Heap.le i j/\FCall P Nr #[.agg #[.bool x,.slice y z A],.agg #[.bool F,.slice G H J]] j (fun a6 V=>∃ (L:Bool) (M:OA) (N O:Nat) (Q:Bool) (R:OA) (S T:Nat),a6= .agg #[.bool L,.slice M N O,.bool Q,.slice R S T]/\Heap.le j V/\K (.agg #[.bool L,.slice M N O,.bool Q,.slice R S T]) V)))))))
theorem B3c(a:Bool)(b:OA)(d e:Nat)(f:Bool)(g:OA)(i j:Nat)(k:Bool)(l:OA)(m n:Nat)(o:Bool)(p:OA)(q r:Nat)(hvc:B8v Tryz.prog a b d e f g i j k l m n o p q r h K):FCall Tryz.prog Xp #[.agg #[.bool a,.slice b d e,.bool f,.slice g i j],.agg #[.bool k,.slice l m n,.bool o,.slice p q r]] h K:=
 B8 Tryz.func106 (c:=C1 Tryz.f106) (by kernel_rfl) (rs:=[.cell 4 54]) (by kernel_rfl) (fa:=⟨[],[],[(3,([0,1,2,5,7,8,3,4,6,9,10,11],[[],[0],[],[2],[0,1,2,3],[],[0,1,2,3,4,5],[],[7],(Lrg 0 9),(Lrg 0 10),(Lrg 0 11)]))],[],[]⟩)
  (cfg:=⟨20,[2,3,4],none,[32,145,148,149],[],false⟩) (args:=[.agg #[.bool a,.slice b d e,.bool f,.slice g i j],.agg #[.bool k,.slice l m n,.bool o,.slice p q r]]) (by kernel_rfl) (B0 Tryz.call32 (B0 Tryz.call145 (B0 Tryz.call148 (B0 Tryz.call149 Bodies.nil)))) (Eq.mp (by kernel_rfl) hvc)
def B8p(P:Program)(f:Bool)(j:OA)(k l:Nat)(m:Bool)(n:OA)(g o:Nat)(h:Heap)(K:Value->Heap->Prop):Prop:=
 FCall P Li #[.agg #[.bool f,.slice j k l]] h (fun p i=>∃ (a:ByteArray),p= .string a/\∃ (d:List Value->Heap->Prop),(Br f (((ByteArray.size ({ data:=#[45] }:ByteArray)+ByteArray.size a:Nat):Int)<=9223372036854775807/\d [.string (({ data:=#[45] }:ByteArray)++a)] i)
 (d [.string a] i))/\
 ∀ (b:ByteArray),∀ e,d [.string b] e->Br (decide ((g:Int)>(0:Int))) (FCall P Li #[.agg #[.bool m,.slice n g o]] e (fun q r=>∃ (c:ByteArray),q= .string c/\((ByteArray.size ({ data:=#[47] }:ByteArray)+ByteArray.size c:Nat):Int)<=9223372036854775807/\((ByteArray.size b+ByteArray.size (({ data:=#[47] }:ByteArray)++c):Nat):Int)<=9223372036854775807/\K (.string (b++(({ data:=#[47] }:ByteArray)++c))) r))
 (K (.string b) e))
theorem B36(a:Bool)(b:OA)(d e:Nat)(f:Bool)(g:OA)(i j:Nat)(hvc:B8p Tryz.prog a b d e f g i j h K):FCall Tryz.prog Jf #[.agg #[.bool a,.slice b d e,.bool f,.slice g i j]] h K:=
 B8 Tryz.func28 (c:=C1 Tryz.f28) (by kernel_rfl) (rs:=[.tmp 2]) (by kernel_rfl) (fa:=⟨[],[(4,⟨[3],[],[.string ⟨#[]⟩],⟨[3,7,8,9,10,11],[]⟩⟩)],[],[],[]⟩)
  (cfg:=⟨24,[1],none,[86],[],false⟩) (args:=[.agg #[.bool a,.slice b d e,.bool f,.slice g i j]]) (by kernel_rfl) (B0 Tryz.call86 Bodies.nil) (Eq.mp (by kernel_rfl) hvc)
def B8r(P:Program)(b:ByteArray)(h:Heap)(K:Value->Heap->Prop):Prop:=
 ∃ (l:List Value->Heap->Prop),(Br (decide (((ByteArray.size b:Nat):Int)>(0:Int))) (∃ (E:UInt8),(0<=(0:Int)/\(b)[((0:Int)).toNat]? = some E)/\l [.bool (((E.toNat:Nat):Int)==(45:Int))] h)
 (l [.bool false] h))/\
 ∀ (m:Bool),∀ D,l [.bool m] D->∃ (n:List Value->Heap->Prop),(Br m ((0<=(1:Int)/\(1:Int)<=(((b).size:Nat):Int))/\n [.string ((b).extract (((1:Int)).toNat) ((b).size))] D)
 (n [.string b] D))/\
 ∀ (a:ByteArray),∀ a0,n [.string a] a0->∃ (o:List Value->Heap->Prop),(∃ (p:List Value->Heap->Prop) (F:List Value->Heap->Nat),p [I ((ByteArray.size a:Nat):Int),I 0] a0/\
 ∀ (f:Int) (c:Int),∀ e,p [I f,I c] e->Br (decide (c<((ByteArray.size a:Nat):Int))) (∃ (G:UInt8),(0<=c/\(a)[c.toNat]? = some G)/\Br (((G.toNat:Nat):Int)==(47:Int)) (o [I c] e)
 (p [I f,I (B4 (c+1))] e/\F [I f,I (B4 (c+1))] e<F [I f,I c] e))
 (o [I f] e))/\
 ∀ (d:Int),∀ a1,o [I d] a1->(0<=d/\d<=(((a).size:Nat):Int))/\FCall P Az #[.string ((a).extract 0 (d.toNat))] a1 (fun a3 S=>∃ (a2:Bool) (H:OA) (J L:Nat) (M:Bool),a3= .tuple #[.agg #[.bool a2,.slice H J L],.bool M]/\Br (!M) (K (.tuple #[.agg #[.bool false,.slice none 0 0,.bool false,.slice none 0 0],.bool false]) S)
 (FCall P Q5 #[.bool m,.slice H J L] S (fun a4 C=>∃ (g:Bool) (i:OA) (j k:Nat),a4= .agg #[.bool g,.slice i j k]/\Br (decide (d<((ByteArray.size a:Nat):Int))) ((0<=B4 (d+1)/\B4 (d+1)<=(((a).size:Nat):Int))/\FCall P Az #[.string ((a).extract ((B4 (d+1)).toNat) ((a).size))] C (fun a5 T=>∃ (q:Bool) (r:OA) (s t:Nat) (N:Bool),a5= .tuple #[.agg #[.bool q,.slice r s t],.bool N]/\Br (!N) (K (.tuple #[.agg #[.bool false,.slice none 0 0,.bool false,.slice none 0 0],.bool false]) T)
 (FCall P Xm #[.agg #[.bool q,.slice r s t]] T (fun a6 V=>∃ (O:Int),a6=I O/\Br (O==(0:Int)) (K (.tuple #[.agg #[.bool false,.slice none 0 0,.bool false,.slice none 0 0],.bool false]) V)
 (FCall P Nr #[.agg #[.bool g,.slice i j k],.agg #[.bool q,.slice r s t]] V (fun a7 W=>∃ (u:Bool) (v:OA) (w x:Nat) (y:Bool) (z:OA) (A B:Nat),a7= .agg #[.bool u,.slice v w x,.bool y,.slice z A B]/\FCall P Jf #[.agg #[.bool u,.slice v w x,.bool y,.slice z A B]] W (fun a8 X=>∃ (Q:ByteArray),a8= .string Q/\Heap.le W X/\K (.tuple #[.agg #[.bool u,.slice v w x,.bool y,.slice z A B],.bool (ByteArray.toList Q==ByteArray.toList b)]) X)))))))
 (FCall P Jf #[.agg #[.bool g,.slice i j k,.bool false,.slice none 0 0]] C (fun a9 Z=>∃ (R:ByteArray),a9= .string R/\Heap.le C Z/\K (.tuple #[.agg #[.bool g,.slice i j k,.bool false,.slice none 0 0],.bool (ByteArray.toList R==ByteArray.toList b)]) Z)))))
theorem B38(a:ByteArray)(hvc:B8r Tryz.prog a h K):FCall Tryz.prog A2x #[.string a] h K:=
 B8 Tryz.func85 (c:=C1 Tryz.f85) (by kernel_rfl) (rs:=[.cell 2 54,.tmp 3]) (by kernel_rfl) (fa:=⟨[(7,⟨[6,7],[],[.int .i64 0,.int .i64 0],⟨([6,7]++Lrg 27 11),[]⟩⟩)],[(3,⟨[5],[],[.bool false],⟨([5]++Lrg 14 8),[]⟩⟩),(5,⟨[4],[],[.string ⟨#[]⟩],⟨[4,22,23,24],[]⟩⟩),(11,⟨[6],[],[.int .i64 0],⟨([6,7]++Lrg 27 11),[]⟩⟩)],[(20,([0,1,3,2,4,5,6],[[],[],[1],[],[1,2,3],[0,1,2],[0,1,2,3,4,5]]))],[],[]⟩)
  (cfg:=⟨82,[2,8,10,11],none,[28,90,143,144,145],[],false⟩) (args:=[.string a]) (by kernel_rfl) (B0 Tryz.call28 (B0 Tryz.call90 (B0 Tryz.call143 (B0 Tryz.call144 (B0 Tryz.call145 Bodies.nil))))) (Eq.mp (by kernel_rfl) hvc)
def B8x(P:Program)(x:OA)(c B:Nat)(h:Heap)(K:Value->Heap->Prop):Prop:=
 wpH P (Instr.makeSlice 43 (I (c:Int)) (I (c:Int))) (fun y z=>∃ (d:OA) (e g:Nat),y= .slice d e g/\∃ (f:List Value->Heap->Prop) (i:List Value->Heap->Nat),f [I 0] z/\
 ∀ (a:Int),∀ b,f [I a] b->Br (decide (a<(c:Int))) (∃ v,x=some v/\0<=a/\a<(c:Int)/\∃ (j:ByteArray),b.cell? (v.add (a.toNat*1))=some (.string j)/\FCall P A2x #[.string j] b (fun A t=>∃ (k:Bool) (l:OA) (m n:Nat) (o:Bool) (p:OA) (q r:Nat) (s:Bool),A= .tuple #[.agg #[.bool k,.slice l m n,.bool o,.slice p q r],.bool s]/\Br (!s) (K (.tuple #[.slice none 0 0,.bool false]) t)
 (∃ w,d=some w/\0<=a/\a<(e:Int)/\wpH P (Instr.storeAt 54 (.pointer (some (w.add (a.toNat*4)))) (.agg #[.bool k,.slice l m n,.bool o,.slice p q r])) (fun _ u=>f [I (B4 (a+1))] u/\i [I (B4 (a+1))] u<i [I a] b) t)))
 (K (.tuple #[.slice d e g,.bool true]) b)) h
theorem B3e(a:OA)(b d:Nat)(hvc:B8x Tryz.prog a b d h K):FCall Tryz.prog A2z #[.slice a b d] h K:=
 B8 Tryz.func26 (c:=C1 Tryz.f26) (by kernel_rfl) (rs:=[.tmp 2,.tmp 3]) (by kernel_rfl) (fa:=⟨[(3,⟨[5],[],[.int .i64 0],⟨([2,3,5,6,7]++Lrg 11 20),[6]⟩⟩)],[],[],[],[]⟩)
  (cfg:=⟨32,[6],none,[85],[],false⟩) (args:=[.slice a b d]) (by kernel_rfl) (B0 Tryz.call85 Bodies.nil) (Eq.mp (by kernel_rfl) hvc)
def B4y(P:Program)(v:OA)(d A:Nat)(h:Heap)(K:Value->Heap->Prop):Prop:=
 wpH P (Instr.makeSlice 22 (I (d:Int)) (I (d:Int))) (fun w x=>∃ (e:OA) (f i:Nat),w= .slice e f i/\∃ (g:List Value->Heap->Prop) (j:List Value->Heap->Nat),g [I 0] x/\
 ∀ (a:Int),∀ b,g [I a] b->Br (decide (a<(d:Int))) (∃ c,v=some c/\0<=a/\a<(d:Int)/\∃ (k:Bool) (l:OA) (m n:Nat) (o:Bool) (p:OA) (q r:Nat),b.cell? (Addr.add (c.add (a.toNat*4)) 0)=some (.bool k)/\b.cell? (Addr.add (c.add (a.toNat*4)) 1)=some (.slice l m n)/\b.cell? (Addr.add (c.add (a.toNat*4)) 2)=some (.bool o)/\b.cell? (Addr.add (c.add (a.toNat*4)) 3)=some (.slice p q r)/\FCall P Jf #[.agg #[.bool k,.slice l m n,.bool o,.slice p q r]] b (fun y z=>∃ (s:ByteArray),y= .string s/\∃ u,e=some u/\0<=a/\a<(f:Int)/\wpH P (Instr.storeAt 9 (.pointer (some (u.add (a.toNat*1)))) (.string s)) (fun _ t=>g [I (B4 (a+1))] t/\j [I (B4 (a+1))] t<j [I a] b) z))
 (K (.slice e f i) b)) h
theorem B09(a:OA)(b d:Nat)(hvc:B4y Tryz.prog a b d h K):FCall Tryz.prog Xl #[.slice a b d] h K:=
 B8 Tryz.func84 (c:=C1 Tryz.f84) (by kernel_rfl) (rs:=[.tmp 2]) (by kernel_rfl) (fa:=⟨[(3,⟨[4],[],[.int .i64 0],⟨([4]++Lrg 8 14),[]⟩⟩)],[],[],[],[]⟩)
  (cfg:=⟨23,[],none,[28],[],false⟩) (args:=[.slice a b d]) (by kernel_rfl) (B0 Tryz.call28 Bodies.nil) (Eq.mp (by kernel_rfl) hvc)
end Go.Proofs.YthilnfgnpdeofaaGreatDoor
