/-
  Texts of this proof, merged by a program of ours.
-/
import Derived.Test.YtajkakhfcokljaaGreatDoorProg
import Derived.Test.YtajkakhfcokljaaGreatDoorG05
namespace Go.Proofs.YtajkakhfcokljaaGreatDoor
open Go
set_option maxRecDepth 100000
set_option linter.unusedVariables false
variable {h:Heap} {K:Value->Heap->Prop}
abbrev T8:Nat:=211
abbrev Pk:Nat:=240
abbrev Pl:Nat:=209
abbrev B5j:Nat:=241
abbrev Pj:Nat:=210
abbrev Dx:Nat:=224
abbrev Bj:Nat:=258
abbrev Jm:Nat:=242
abbrev Bk:Nat:=171
abbrev B4h:Nat:=173
abbrev A0o:Nat:=101
abbrev A2a:Nat:=208
abbrev B8t:Nat:=207
abbrev B8s:Nat:=174
abbrev Jl:Nat:=214
abbrev A6p:Nat:=212
abbrev Ut:Nat:=213
abbrev Jn:Nat:=188
abbrev Ac:Nat:=170
abbrev B7x:Nat:=175
abbrev A0r:Nat:=172
abbrev B9r:Nat:=109
abbrev B6v:Nat:=39
abbrev B7s:Nat:=164
abbrev B7w:Nat:=163
abbrev B7r:Nat:=94
abbrev B7t:Nat:=110
abbrev B7u:Nat:=169
abbrev B7v:Nat:=108
abbrev Pi:Nat:=131
abbrev A0p:Nat:=100
abbrev B8r:Nat:=91
abbrev A0q:Nat:=38
abbrev B6u:Nat:=123
abbrev A4v:Nat:=9
abbrev A1n:Nat:=62
abbrev C6:Nat:=237
theorem Oj:SliceT Tryz.prog A1n C6 (U32 (0:Int)) 1 4:=⟨by kernel_rfl,by kernel_rfl,rfl,by decide⟩
theorem J9:Tryz.prog.cellsOf C6=1/\(Tryz.prog.info? C6).isSome=true:=⟨by kernel_rfl,by kernel_rfl⟩
abbrev Fb:Nat:=199
abbrev F4:Nat:=5
theorem Eh:SliceT Tryz.prog Fb F4 (Y (0:Int)) 1 1:=⟨by kernel_rfl,by kernel_rfl,rfl,by decide⟩
theorem A33:Tryz.prog.cellsOf F4=1/\(Tryz.prog.info? F4).isSome=true:=⟨by kernel_rfl,by kernel_rfl⟩
abbrev A8y:Nat:=58
abbrev Cd:Nat:=66
theorem B7l:SliceT Tryz.prog A8y Cd (.agg #[.bool false,.slice none 0 0,.bool false,.slice none 0 0]) 4 64:=⟨by kernel_rfl,by kernel_rfl,rfl,by decide⟩
theorem A57:Tryz.prog.cellsOf Cd=4/\(Tryz.prog.info? Cd).isSome=true:=⟨by kernel_rfl,by kernel_rfl⟩
abbrev Zs:Nat:=23
abbrev Dh:Nat:=9
theorem Iq:SliceT Tryz.prog Zs Dh (.string ({ data:=#[] }:ByteArray)) 1 16:=⟨by kernel_rfl,by kernel_rfl,rfl,by decide⟩
theorem Wt:Tryz.prog.cellsOf Dh=1/\(Tryz.prog.info? Dh).isSome=true:=⟨by kernel_rfl,by kernel_rfl⟩
def B69(P:Program)(j:OA)(k l:Nat)(h:Heap)(K:Value->Heap->Prop):Prop:=
 ∃ (e:List Value->Heap->Prop) (f:List Value->Heap->Nat),e [.slice j k l] h/\
 ∀ (c:OA) (a b:Nat),∀ d,e [.slice c a b] d->Br (decide ((a:Int)>(0:Int))) (∃ i,c=some i/\0<=B4 ((a:Int)-1)/\B4 ((a:Int)-1)<(a:Int)/\∃ (g:Int),d.cell? (i.add ((B4 ((a:Int)-1)).toNat*1))=some (U32 g)/\Br (g==(0:Int)) ((0<=B4 ((a:Int)-1)/\B4 ((a:Int)-1)<=(b:Int))/\e [.slice (J6 c b 0 1) (((B4 ((a:Int)-1)).toNat)-0) (b-0)] d/\f [.slice (J6 c b 0 1) (((B4 ((a:Int)-1)).toNat)-0) (b-0)] d<f [.slice c a b] d)
 (K (.slice c a b) d))
 (K (.slice c a b) d)
theorem B0q(a:OA)(b d:Nat)(hvc:B69 Tryz.prog a b d h K):FCall Tryz.prog T8 #[.slice a b d] h K:=
 B7 Tryz.func211 (c:=C2 Tryz.f211) (by kernel_rfl) (rs:=[.tmp 2]) (by kernel_rfl) (fa:=⟨[(1,⟨[0],[],[.slice none 0 0],⟨([0]++Lrg 3 17),[]⟩⟩)],[],[],[],[]⟩)
  (cfg:=⟨21,[],none,[],[],false⟩) (args:=[.slice a b d]) (by kernel_rfl) Bodies.nil (Eq.mp (by kernel_rfl) hvc)
def A8b(P:Program)(f:OA)(c r:Nat)(g:OA)(d s:Nat)(h:Heap)(K:Value->Heap->Prop):Prop:=
 Br ((c:Int) != (d:Int)) (Br (decide ((c:Int)<(d:Int))) (K (I (-1:Int)) h)
 (K (I 1) h))
 (∃ (e:List Value->Heap->Prop) (i:List Value->Heap->Nat),e [I (B4 ((c:Int)-1))] h/\
 ∀ (a:Int),∀ b,e [I a] b->Br (decide (a>=(0:Int))) (∃ n,f=some n/\0<=a/\a<(c:Int)/\∃ (j:Int),b.cell? (n.add (a.toNat*1))=some (U32 j)/\∃ o,g=some o/\0<=a/\a<(d:Int)/\∃ (k:Int),b.cell? (o.add (a.toNat*1))=some (U32 k)/\Br (j != k) (∃ p,f=some p/\0<=a/\a<(c:Int)/\∃ (l:Int),b.cell? (p.add (a.toNat*1))=some (U32 l)/\∃ q,g=some q/\0<=a/\a<(d:Int)/\∃ (m:Int),b.cell? (q.add (a.toNat*1))=some (U32 m)/\Br (decide (l<m)) (K (I (-1:Int)) b)
 (K (I 1) b))
 (e [I (B4 (a-1))] b/\i [I (B4 (a-1))] b<i [I a] b))
 (K (I 0) b))
theorem A4e(a:OA)(b d:Nat)(e:OA)(f g:Nat)(hvc:A8b Tryz.prog a b d e f g h K):FCall Tryz.prog Pk #[.slice a b d,.slice e f g] h K:=
 B7 Tryz.func240 (c:=C2 Tryz.f240) (by kernel_rfl) (rs:=[.tmp 4]) (by kernel_rfl) (fa:=⟨[(6,⟨[5],[],[.int .i64 0],⟨([4,5]++Lrg 19 22),[]⟩⟩)],[],[(8,((Lrg 0 9),[[],[],[0,1],[0,1,2],[],[],[4,5],[4,5,6],(Lrg 0 8)])),(9,((Lrg 0 9),[[],[],[0,1],[0,1,2],[],[],[4,5],[4,5,6],(Lrg 0 8)]))],[],[]⟩)
  (cfg:=⟨41,[],none,[],[],false⟩) (args:=[.slice a b d,.slice e f g]) (by kernel_rfl) Bodies.nil (Eq.mp (by kernel_rfl) hvc)
def A8c(P:Program)(p:OA)(i q:Nat)(r:OA)(j s:Nat)(h:Heap)(K:Value->Heap->Prop):Prop:=
 ∃ (k:List Value->Heap->Prop),(Br (decide ((i:Int)<(j:Int))) (k [.slice r j s,.slice p i q] h)
 (k [.slice p i q,.slice r j s] h))/\
 ∀ (t:OA) (b J:Nat) (u:OA) (l L:Nat),∀ C,k [.slice t b J,.slice u l L] C->wpH P (Instr.makeSlice 62 (I (B4 ((b:Int)+1))) (I (B4 ((b:Int)+1)))) (fun M N=>∃ (e:OA) (f v:Nat),M= .slice e f v/\∃ (m:List Value->Heap->Prop) (w:List Value->Heap->Nat),m [U 0,I 0] N/\
 ∀ (d:Int) (a:Int),∀ c,m [U d,I a] c->Br (decide (a<(b:Int))) (∃ D,t=some D/\0<=a/\a<(b:Int)/\∃ (n:Int),c.cell? (D.add (a.toNat*1))=some (U32 n)/\∃ (o:List Value->Heap->Prop),(Br (decide (a<(l:Int))) (∃ E,u=some E/\0<=a/\a<(l:Int)/\∃ (x:Int),c.cell? (E.add (a.toNat*1))=some (U32 x)/\o [U (B9 ((B9 (d+(B9 n)))+(B9 x)))] c)
 (o [U (B9 (d+(B9 n)))] c))/\
 ∀ (g:Int),∀ F,o [U g] F->∃ G,e=some G/\0<=a/\a<(f:Int)/\wpH P (Instr.storeAt 237 (.pointer (some (G.add (a.toNat*1)))) (U32 (F3 g))) (fun _ B=>m [U (Int.fdiv g (2^(min ((32:Int)).toNat 64))),I (B4 (a+1))] B/\w [U (Int.fdiv g (2^(min ((32:Int)).toNat 64))),I (B4 (a+1))] B<w [U d,I a] c) F)
 (∃ H,e=some H/\0<=(b:Int)/\(b:Int)<(f:Int)/\wpH P (Instr.storeAt 237 (.pointer (some (H.add (((b:Int)).toNat*1)))) (U32 (F3 d))) (fun _ O=>FCall P T8 #[.slice e f v] O (fun Q R=>∃ (y:OA) (z A:Nat),Q= .slice y z A/\K (.slice y z A) R)) c)) C
theorem A4f(a:OA)(b d:Nat)(e:OA)(f g:Nat)(hvc:A8c Tryz.prog a b d e f g h K):FCall Tryz.prog Pl #[.slice a b d,.slice e f g] h K:=
 B7 Tryz.func209 (c:=C2 Tryz.f209) (by kernel_rfl) (rs:=[.tmp 4]) (by kernel_rfl) (fa:=⟨[(6,⟨[6,7],[],[.int .u64 0,.int .i64 0],⟨([6,7]++Lrg 19 31),[]⟩⟩)],[(3,⟨[0,1],[],[.slice none 0 0,.slice none 0 0],⟨[0,1,8,9,10,11,12,13,14],[]⟩⟩),(11,⟨[6],[],[.int .u64 0],⟨([6]++Lrg 32 11),[]⟩⟩)],[],[],[]⟩)
  (cfg:=⟨58,[],none,[211],[],false⟩) (args:=[.slice a b d,.slice e f g]) (by kernel_rfl) (B0 Tryz.call211 Bodies.nil) (Eq.mp (by kernel_rfl) hvc)
def A86(P:Program)(w:OA)(x:Nat)(y:OA)(e:Nat)(j:OA)(k:Nat)(z:List Value->Heap->Prop)(m:List Value->Heap->Nat)(a:Int)(n:Heap):Prop:=
 ∃ (l:List Value->Heap->Prop) (o:List Value->Heap->Nat),l [U 0,I 0] n/\
 ∀ (d:Int) (b:Int),∀ c,l [U d,I b] c->Br (decide (b<(e:Int))) (∃ r,w=some r/\0<=a/\a<(x:Int)/\∃ (f:Int),c.cell? (r.add (a.toNat*1))=some (U32 f)/\∃ s,y=some s/\0<=b/\b<(e:Int)/\∃ (g:Int),c.cell? (s.add (b.toNat*1))=some (U32 g)/\∃ t,j=some t/\0<=B4 (a+b)/\B4 (a+b)<(k:Int)/\∃ (i:Int),c.cell? (t.add ((B4 (a+b)).toNat*1))=some (U32 i)/\∃ u,j=some u/\0<=B4 (a+b)/\B4 (a+b)<(k:Int)/\wpH P (Instr.storeAt 237 (.pointer (some (u.add ((B4 (a+b)).toNat*1)))) (U32 (F3 (B9 (d+(B9 ((B9 ((B9 f)*(B9 g)))+(B9 i)))))))) (fun _ p=>l [U (Int.fdiv (B9 (d+(B9 ((B9 ((B9 f)*(B9 g)))+(B9 i))))) (2^(min ((32:Int)).toNat 64))),I (B4 (b+1))] p/\o [U (Int.fdiv (B9 (d+(B9 ((B9 ((B9 f)*(B9 g)))+(B9 i))))) (2^(min ((32:Int)).toNat 64))),I (B4 (b+1))] p<o [U d,I b] c) c)
 (∃ v,j=some v/\0<=B4 (a+(e:Int))/\B4 (a+(e:Int))<(k:Int)/\wpH P (Instr.storeAt 237 (.pointer (some (v.add ((B4 (a+(e:Int))).toNat*1)))) (U32 (F3 d))) (fun _ q=>z [I (B4 (a+1))] q/\m [I (B4 (a+1))] q<m [I a] n) c)
def A87(P:Program)(m:OA)(a t:Nat)(n:OA)(b u:Nat)(h:Heap)(K:Value->Heap->Prop):Prop:=
 Br ((a:Int)==(0:Int)) (K (.slice none 0 0) h)
 (Br ((b:Int)==(0:Int)) (K (.slice none 0 0) h)
 (wpH P (Instr.makeSlice 62 (I (B4 ((a:Int)+(b:Int)))) (I (B4 ((a:Int)+(b:Int))))) (fun p q=>∃ (c:OA) (d i:Nat),p= .slice c d i/\∃ (e:List Value->Heap->Prop) (o:List Value->Heap->Nat),e [I 0] q/\
 ∀ (f:Int),∀ g,e [I f] g->Br (decide (f<(a:Int))) (A86 P m a n b c d e o f g)
 (FCall P T8 #[.slice c d i] g (fun r s=>∃ (j:OA) (k l:Nat),r= .slice j k l/\K (.slice j k l) s))) h))
theorem A4b(a:OA)(b d:Nat)(e:OA)(f g:Nat)(hvc:A87 Tryz.prog a b d e f g h K):FCall Tryz.prog Pj #[.slice a b d,.slice e f g] h K:=
 B7 Tryz.func210 (c:=C2 Tryz.f210) (by kernel_rfl) (rs:=[.tmp 4]) (by kernel_rfl) (fa:=⟨[(5,⟨[6],[],[.int .i64 0],⟨([6,7,8]++Lrg 23 50),[]⟩⟩),(9,⟨[7,8],[],[.int .u64 0,.int .i64 0],⟨([7,8]++Lrg 29 36),[]⟩⟩)],[],[(11,((Lrg 0 22),[[],[],[],[1,2],[1,2,3],[1,2,3,4],[],[],[6,7],[6,7,8],[6,7,8,9],(Lrg 1 10),[],[],[],[13,14],[12,13,14,15],[12,13,14,15,16],[12,13,14,15,16,17],(Lrg 1 18),(Lrg 0 20),(Lrg 0 21)]))],[],[]⟩)
  (cfg:=⟨75,[],none,[211],[],false⟩) (args:=[.slice a b d,.slice e f g]) (by kernel_rfl) (B0 Tryz.call211 Bodies.nil) (Eq.mp (by kernel_rfl) hvc)
def Yw(P:Program)(s:OA)(e x:Nat)(c:Int)(h:Heap)(K:Value->Heap->Prop):Prop:=
 wpH P (Instr.makeSlice 62 (I (e:Int)) (I (e:Int))) (fun t u=>∃ (g:OA) (i k:Nat),t= .slice g i k/\∃ (j:List Value->Heap->Prop) (l:List Value->Heap->Nat),j [U 0,I (B4 ((e:Int)-1))] u/\
 ∀ (b:Int) (a:Int),∀ d,j [U b,I a] d->Br (decide (a>=(0:Int))) (∃ q,s=some q/\0<=a/\a<(e:Int)/\∃ (f:Int),d.cell? (q.add (a.toNat*1))=some (U32 f)/\Br (decide (B9 c=0)) False
 (∃ r,g=some r/\0<=a/\a<(i:Int)/\wpH P (Instr.storeAt 237 (.pointer (some (r.add (a.toNat*1)))) (U32 (F3 (B9 (Int.tdiv (bor .u64 (B9 (b*2^(min ((32:Int)).toNat 64))) (B9 f)) (B9 c)))))) (fun _ p=>Br (decide (B9 c=0)) False
 (j [U (Int.tmod (bor .u64 (B9 (b*2^(min ((32:Int)).toNat 64))) (B9 f)) (B9 c)),I (B4 (a-1))] p/\l [U (Int.tmod (bor .u64 (B9 (b*2^(min ((32:Int)).toNat 64))) (B9 f)) (B9 c)),I (B4 (a-1))] p<l [U b,I a] d)) d))
 (FCall P T8 #[.slice g i k] d (fun v w=>∃ (m:OA) (n o:Nat),v= .slice m n o/\K (.tuple #[.slice m n o,U32 (F3 b)]) w))) h
theorem Yv(a:OA)(b d:Nat)(e:Int)(hvc:Yw Tryz.prog a b d e h K):FCall Tryz.prog Dx #[.slice a b d,U32 e] h K:=
 B7 Tryz.func224 (c:=C2 Tryz.f224) (by kernel_rfl) (rs:=[.tmp 4,.tmp 5]) (by kernel_rfl) (fa:=⟨[(4,⟨[7,8],[],[.int .u64 0,.int .i64 0],⟨([7,8]++Lrg 15 24),[]⟩⟩)],[],[],[],[]⟩)
  (cfg:=⟨43,[],none,[211],[],false⟩) (args:=[.slice a b d,U32 e]) (by kernel_rfl) (B0 Tryz.call211 Bodies.nil) (Eq.mp (by kernel_rfl) hvc)
def Te(P:Program)(r:OA)(e v:Nat)(f:Int)(h:Heap)(K:Value->Heap->Prop):Prop:=
 wpH P (Instr.makeSlice 62 (I (B4 ((e:Int)+1))) (I (B4 ((e:Int)+1)))) (fun s t=>∃ (c:OA) (d j:Nat),s= .slice c d j/\∃ (g:List Value->Heap->Prop) (k:List Value->Heap->Nat),g [I 0] t/\
 ∀ (a:Int),∀ b,g [I a] b->Br (decide (a<(e:Int))) (∃ n,r=some n/\0<=a/\a<(e:Int)/\∃ (i:Int),b.cell? (n.add (a.toNat*1))=some (U32 i)/\Br (decide (f<0)) False
 (∃ o,c=some o/\0<=a/\a<(d:Int)/\∃ (l:Int),b.cell? (o.add (a.toNat*1))=some (U32 l)/\∃ p,c=some p/\0<=a/\a<(d:Int)/\wpH P (Instr.storeAt 237 (.pointer (some (p.add (a.toNat*1)))) (U32 (bor .u32 l (F3 (B9 ((B9 i)*2^(min f.toNat 64))))))) (fun _ u=>∃ q,c=some q/\0<=B4 (a+1)/\B4 (a+1)<(d:Int)/\wpH P (Instr.storeAt 237 (.pointer (some (q.add ((B4 (a+1)).toNat*1)))) (U32 (F3 (Int.fdiv (B9 ((B9 i)*2^(min f.toNat 64))) (2^(min ((32:Int)).toNat 64)))))) (fun _ m=>g [I (B4 (a+1))] m/\k [I (B4 (a+1))] m<k [I a] b) u) b))
 (K (.slice c d j) b)) h
theorem Vu(a:OA)(b d:Nat)(e:Int)(hvc:Te Tryz.prog a b d e h K):FCall Tryz.prog Bj #[.slice a b d,U e] h K:=
 B7 Tryz.func258 (c:=C2 Tryz.f258) (by kernel_rfl) (rs:=[.tmp 4]) (by kernel_rfl) (fa:=⟨[(3,⟨[6],[],[.int .i64 0],⟨([6,7]++Lrg 12 28),[]⟩⟩)],[],[],[],[]⟩)
  (cfg:=⟨41,[],none,[],[],false⟩) (args:=[.slice a b d,U e]) (by kernel_rfl) Bodies.nil (Eq.mp (by kernel_rfl) hvc)
def Lu(P:Program)(k:OA)(a:Nat)(u:OA)(v:Nat)(g:Int)(l:Int)(m:Int)(w:Int)(x:Int)(n:List Value->Heap->Prop)(y:Heap):Prop:=
 ∃ (i:List Value->Heap->Prop) (o:List Value->Heap->Nat),i [U (B9 (Int.tdiv (bor .u64 (B9 ((B9 l)*2^(min ((32:Int)).toNat 64))) (B9 m)) (B9 w))),U (Int.tmod (bor .u64 (B9 ((B9 l)*2^(min ((32:Int)).toNat 64))) (B9 m)) (B9 x))] y/\
 ∀ (b:Int) (d:Int),∀ c,i [U b,U d] c->∃ (j:List Value->Heap->Prop),(Br (decide (b>=(4294967296:Int))) (j [] c)
 (∃ r,k=some r/\0<=B4 ((a:Int)-2)/\B4 ((a:Int)-2)<(a:Int)/\∃ (p:Int),c.cell? (r.add ((B4 ((a:Int)-2)).toNat*1))=some (U32 p)/\∃ s,u=some s/\0<=B4 ((B4 (g+(a:Int)))-2)/\B4 ((B4 (g+(a:Int)))-2)<(v:Int)/\∃ (q:Int),c.cell? (s.add ((B4 ((B4 (g+(a:Int)))-2)).toNat*1))=some (U32 q)/\Br (decide ((B9 (b*(B9 p)))>(bor .u64 (B9 (d*2^(min ((32:Int)).toNat 64))) (B9 q)))) (j [] c)
 (n [U b] c)))/\
 ∀ e,j [] e->∃ t,k=some t/\0<=B4 ((a:Int)-1)/\B4 ((a:Int)-1)<(a:Int)/\∃ (f:Int),e.cell? (t.add ((B4 ((a:Int)-1)).toNat*1))=some (U32 f)/\Br (decide ((B9 (d+(B9 f)))>=(4294967296:Int))) (n [U (B9 (b-1))] e)
 (i [U (B9 (b-1)),U (B9 (d+(B9 f)))] e/\o [U (B9 (b-1)),U (B9 (d+(B9 f)))] e<o [U b,U d] c)
def Lr(P:Program)(t:OA)(c:Nat)(f:OA)(g:Nat)(b:Int)(u:Int)(v:List Value->Heap->Prop)(w:Heap):Prop:=
 ∃ (k:List Value->Heap->Prop) (l:List Value->Heap->Nat),k [U 0,I 0] w/\
 ∀ (e:Int) (a:Int),∀ d,k [U e,I a] d->Br (decide (a<(c:Int))) (∃ o,f=some o/\0<=B4 (a+b)/\B4 (a+b)<(g:Int)/\∃ (i:Int),d.cell? (o.add ((B4 (a+b)).toNat*1))=some (U32 i)/\∃ p,t=some p/\0<=a/\a<(c:Int)/\∃ (j:Int),d.cell? (p.add (a.toNat*1))=some (U32 j)/\∃ q,f=some q/\0<=B4 (a+b)/\B4 (a+b)<(g:Int)/\wpH P (Instr.storeAt 237 (.pointer (some (q.add ((B4 (a+b)).toNat*1)))) (U32 (F3 (B9 (e+(B9 ((B9 i)+(B9 j)))))))) (fun _ n=>k [U (Int.fdiv (B9 (e+(B9 ((B9 i)+(B9 j))))) (2^(min ((32:Int)).toNat 64))),I (B4 (a+1))] n/\l [U (Int.fdiv (B9 (e+(B9 ((B9 i)+(B9 j))))) (2^(min ((32:Int)).toNat 64))),I (B4 (a+1))] n<l [U e,I a] d) d)
 (∃ r,f=some r/\0<=B4 (b+(c:Int))/\B4 (b+(c:Int))<(g:Int)/\∃ (m:Int),d.cell? (r.add ((B4 (b+(c:Int))).toNat*1))=some (U32 m)/\∃ s,f=some s/\0<=B4 (b+(c:Int))/\B4 (b+(c:Int))<(g:Int)/\wpH P (Instr.storeAt 237 (.pointer (some (s.add ((B4 (b+(c:Int))).toNat*1)))) (U32 (F3 (m+(F3 e))))) (fun _ x=>v [U (B9 (u-1))] x) d)
def Lx(P:Program)(c:OA)(d:Nat)(a:Int)(e:List Value->Heap->Prop)(f:Int)(g:Heap):Prop:=
 ∃ b,c=some b/\0<=a/\a<(d:Int)/\wpH P (Instr.storeAt 237 (.pointer (some (b.add (a.toNat*1)))) (U32 (F3 f))) (fun _ i=>e [] i) g
def Ls(P:Program)(p:OA)(c:Nat)(j:OA)(k:Nat)(A:OA)(B:Nat)(a:Int)(C:List Value->Heap->Prop)(e:Int)(D:Heap):Prop:=
 ∃ (m:List Value->Heap->Prop) (q:List Value->Heap->Nat),m [U 0,U 0,I 0] D/\
 ∀ (d:Int) (f:Int) (b:Int),∀ g,m [U d,U f,I b] g->Br (decide (b<(c:Int))) (∃ u,p=some u/\0<=b/\b<(c:Int)/\∃ (i:Int),g.cell? (u.add (b.toNat*1))=some (U32 i)/\∃ v,j=some v/\0<=B4 (b+a)/\B4 (b+a)<(k:Int)/\∃ (l:Int),g.cell? (v.add ((B4 (b+a)).toNat*1))=some (U32 l)/\∃ w,j=some w/\0<=B4 (b+a)/\B4 (b+a)<(k:Int)/\wpH P (Instr.storeAt 237 (.pointer (some (w.add ((B4 (b+a)).toNat*1)))) (U32 (F3 (B9 ((B9 ((B9 l)-(Ni .u64 (B9 ((B9 (e*(B9 i)))+d)) (4294967295:Int))))-f))))) (fun _ s=>m [U (Int.fdiv (B9 ((B9 (e*(B9 i)))+d)) (2^(min ((32:Int)).toNat 64))),U (Ni .u64 (Int.fdiv (B9 ((B9 ((B9 l)-(Ni .u64 (B9 ((B9 (e*(B9 i)))+d)) (4294967295:Int))))-f)) (2^(min ((32:Int)).toNat 64))) (1:Int)),I (B4 (b+1))] s/\q [U (Int.fdiv (B9 ((B9 (e*(B9 i)))+d)) (2^(min ((32:Int)).toNat 64))),U (Ni .u64 (Int.fdiv (B9 ((B9 ((B9 l)-(Ni .u64 (B9 ((B9 (e*(B9 i)))+d)) (4294967295:Int))))-f)) (2^(min ((32:Int)).toNat 64))) (1:Int)),I (B4 (b+1))] s<q [U d,U f,I b] g) g)
 (∃ x,j=some x/\0<=B4 (a+(c:Int))/\B4 (a+(c:Int))<(k:Int)/\∃ (n:Int),g.cell? (x.add ((B4 (a+(c:Int))).toNat*1))=some (U32 n)/\∃ y,j=some y/\0<=B4 (a+(c:Int))/\B4 (a+(c:Int))<(k:Int)/\wpH P (Instr.storeAt 237 (.pointer (some (y.add ((B4 (a+(c:Int))).toNat*1)))) (U32 (F3 (B9 ((B9 ((B9 n)-d))-f))))) (fun _ t=>∃ (o:List Value->Heap->Prop),(Br ((Int.fdiv (B9 ((B9 ((B9 n)-d))-f)) (2^(min ((63:Int)).toNat 64)))==(1:Int)) (Lr P p c j k a e o t)
 (o [U e] t))/\
 ∀ (r:Int),∀ z,o [U r] z->Lx P A B a C r z) g)
def Tf(P:Program)(a:OA)(b:Nat)(c:OA)(d:Nat)(e:OA)(f:Nat)(g:Int)(i:List Value->Heap->Prop)(j:Int)(k:Heap):Prop:=
 Ls P a b c d e f g i j k
def Tg(P:Program)(d:List Value->Heap->Prop)(b:List Value->Heap->Nat)(a:Int)(e:Heap)(c:Heap):Prop:=
 d [I (B4 (a-1))] c/\b [I (B4 (a-1))] c<b [I a] e
def Gy(P:Program)(K:Value->Heap->Prop)(f:Int)(y:OA)(z A:Nat)(c:OA)(b B:Nat)(C:Heap):Prop:=
 ∃ (g:List Value->Heap->Prop) (i:List Value->Heap->Nat),g [I 0] C/\
 ∀ (a:Int),∀ d,g [I a] d->Br (decide (a<(b:Int))) (∃ t,c=some t/\0<=a/\a<(b:Int)/\∃ (j:Int),d.cell? (t.add (a.toNat*1))=some (U32 j)/\Br (decide (f<0)) False
 (∃ u,c=some u/\0<=a/\a<(b:Int)/\wpH P (Instr.storeAt 237 (.pointer (some (u.add (a.toNat*1)))) (U32 (Int.fdiv j (2^(min f.toNat 32))))) (fun _ e=>Br (decide ((B4 (a+1))<(b:Int))) (∃ v,c=some v/\0<=a/\a<(b:Int)/\∃ (k:Int),e.cell? (v.add (a.toNat*1))=some (U32 k)/\∃ w,c=some w/\0<=B4 (a+1)/\B4 (a+1)<(b:Int)/\∃ (l:Int),e.cell? (w.add ((B4 (a+1)).toNat*1))=some (U32 l)/\Br (decide (B9 ((32:Int)-f)<0)) False
 (∃ x,c=some x/\0<=a/\a<(b:Int)/\wpH P (Instr.storeAt 237 (.pointer (some (x.add (a.toNat*1)))) (U32 (bor .u32 k (F3 (B9 ((B9 l)*2^(min (B9 ((32:Int)-f)).toNat 64))))))) (fun _ s=>g [I (B4 (a+1))] s/\i [I (B4 (a+1))] s<i [I a] d) e))
 (g [I (B4 (a+1))] e/\i [I (B4 (a+1))] e<i [I a] d)) d))
 (FCall P T8 #[.slice y z A] d (fun D E=>∃ (m:OA) (n o:Nat),D= .slice m n o/\FCall P T8 #[.slice c b B] E (fun F G=>∃ (p:OA) (q r:Nat),F= .slice p q r/\K (.tuple #[.slice m n o,.slice p q r]) G)))
def Th(P:Program)(K:Value->Heap->Prop)(A:Int)(e:OA)(a:Nat)(d:OA)(f g:Nat)(k:OA)(l B:Nat)(C:List Value->Heap->Prop)(D:List Value->Heap->Nat)(b:Int)(c:Heap):Prop:=
 Br (decide (b>=(0:Int))) (∃ (m:List Value->Heap->Prop),(∃ u,d=some u/\0<=B4 (b+(a:Int))/\B4 (b+(a:Int))<(f:Int)/\∃ (n:Int),c.cell? (u.add ((B4 (b+(a:Int))).toNat*1))=some (U32 n)/\∃ v,d=some v/\0<=B4 ((B4 (b+(a:Int)))-1)/\B4 ((B4 (b+(a:Int)))-1)<(f:Int)/\∃ (o:Int),c.cell? (v.add ((B4 ((B4 (b+(a:Int)))-1)).toNat*1))=some (U32 o)/\∃ w,e=some w/\0<=B4 ((a:Int)-1)/\B4 ((a:Int)-1)<(a:Int)/\∃ (i:Int),c.cell? (w.add ((B4 ((a:Int)-1)).toNat*1))=some (U32 i)/\Br (decide (B9 i=0)) False
 (∃ x,e=some x/\0<=B4 ((a:Int)-1)/\B4 ((a:Int)-1)<(a:Int)/\∃ (j:Int),c.cell? (x.add ((B4 ((a:Int)-1)).toNat*1))=some (U32 j)/\Br (decide (B9 j=0)) False
 (∃ (p:List Value->Heap->Prop),(Lu P e a d f b n o i j p c)/\
 ∀ (q:Int),∀ y,p [U q] y->Tf P e a d f k l b m q y)))/\
 ∀ z,m [] z->Tg P C D b c z)
 ((0<=(a:Int)/\(a:Int)<=(g:Int))/\FCall P T8 #[.slice (J6 d g 0 1) ((((a:Int)).toNat)-0) (g-0)] c (fun E F=>∃ (r:OA) (s t:Nat),E= .slice r s t/\Gy P K A k l B r s t F))
def Lw(P:Program)(K:Value->Heap->Prop)(f:Int)(g:OA)(b:Nat)(i:OA)(c j:Nat)(k:OA)(l m:Nat)(n:Heap):Prop:=
 ∃ (a:List Value->Heap->Prop) (o:List Value->Heap->Nat),a [I (B4 ((B4 ((c:Int)-(b:Int)))-1))] n/\
 ∀ (d:Int),∀ e,a [I d] e->Th P K f g b i c j k l m a o d e
def Yx(P:Program)(u:OA)(v w:Nat)(g:OA)(c x:Nat)(K:Value->Heap->Prop)(y:Heap):Prop:=
 ∃ (f:List Value->Heap->Prop) (i:List Value->Heap->Nat),f [U 0] y/\
 ∀ (a:Int),∀ b,f [U a] b->∃ t,g=some t/\0<=B4 ((c:Int)-1)/\B4 ((c:Int)-1)<(c:Int)/\∃ (j:Int),b.cell? (t.add ((B4 ((c:Int)-1)).toNat*1))=some (U32 j)/\Br (decide (a<0)) False
 (Br (decide ((F3 (j*2^(min a.toNat 32)))<(2147483648:Int))) (f [U (B9 (a+1))] b/\i [U (B9 (a+1))] b<i [U a] b)
 (FCall P Bj #[.slice g c x,U a] b (fun A B=>∃ (k:OA) (l m:Nat),A= .slice k l m/\FCall P T8 #[.slice k l m] B (fun C D=>∃ (n:OA) (d z:Nat),C= .slice n d z/\FCall P Bj #[.slice u v w,U a] D (fun E F=>∃ (o:OA) (e p:Nat),E= .slice o e p/\wpH P (Instr.makeSlice 62 (I (B4 ((B4 ((B4 ((e:Int)-(d:Int)))-1))+1))) (I (B4 ((B4 ((B4 ((e:Int)-(d:Int)))-1))+1)))) (fun G H=>∃ (q:OA) (r s:Nat),G= .slice q r s/\Lw P K a n d o e p q r s H) F)))))
def A89(P:Program)(a:OA)(b c:Nat)(f:OA)(d g:Nat)(h:Heap)(K:Value->Heap->Prop):Prop:=
 FCall P Pk #[.slice a b c,.slice f d g] h (fun B e=>∃ (i:Int),B=I i/\Br (decide (i<(0:Int))) (wpH P (Instr.buildSlice 62 0 #[]) (fun C D=>∃ (j:OA) (k l:Nat),C= .slice j k l/\wpH P (Builtin.append_ #[62,62] 62 #[.slice j k l,.slice a b c]) (fun E F=>∃ (m:OA) (n o:Nat),E= .slice m n o/\K (.tuple #[.slice none 0 0,.slice m n o]) F) D) e)
 (Br ((d:Int)==(1:Int)) (∃ A,f=some A/\0<=(0:Int)/\(0:Int)<(d:Int)/\∃ (p:Int),e.cell? (A.add (((0:Int)).toNat*1))=some (U32 p)/\FCall P Dx #[.slice a b c,U32 p] e (fun G H=>∃ (q:OA) (r s:Nat) (t:Int),G= .tuple #[.slice q r s,U32 t]/\wpH P (Instr.buildSlice 62 1 #[(0,U32 t)]) (fun J L=>∃ (u:OA) (v w:Nat),J= .slice u v w/\FCall P T8 #[.slice u v w] L (fun M N=>∃ (x:OA) (y z:Nat),M= .slice x y z/\K (.tuple #[.slice q r s,.slice x y z]) N)) H))
 (Yx P a b c f d g K e)))
theorem A4c(a:OA)(b d:Nat)(e:OA)(f g:Nat)(hvc:A89 Tryz.prog a b d e f g h K):FCall Tryz.prog Jm #[.slice a b d,.slice e f g] h K:=
 B7 Tryz.func242 (c:=C2 Tryz.f242) (by kernel_rfl) (rs:=[.tmp 4,.tmp 5]) (by kernel_rfl) (fa:=⟨[(7,⟨[8],[],[.int .u64 0],⟨([8]++Lrg 49 11),[]⟩⟩),(15,⟨[14],[],[.int .i64 0],⟨(Lrg 14 11++Lrg 78 178),[]⟩⟩),(20,⟨[16,17],[],[.int .u64 0,.int .u64 0],⟨([16,17]++Lrg 115 36),[]⟩⟩),(26,⟨[18,19,20],[],[.int .u64 0,.int .u64 0,.int .i64 0],⟨([18,19,20,21,22]++Lrg 151 38),[]⟩⟩),(39,⟨[18,24],[],[.int .u64 0,.int .i64 0],⟨([18,24]++Lrg 212 29),[]⟩⟩),(48,⟨[26],[],[.int .i64 0],⟨([26]++Lrg 260 36),[]⟩⟩)],[(16,⟨[],[],[],⟨(Lrg 15 10++Lrg 82 174),[]⟩⟩),(21,⟨[],[],[],⟨(Lrg 115 24),[]⟩⟩),(24,⟨[16],[],[.int .u64 0],⟨([16,17]++Lrg 115 36),[]⟩⟩),(45,⟨[16],[],[.int .u64 0],⟨([16,18,24]++Lrg 207 44),[]⟩⟩)],[(17,((Lrg 0 18),[[],[],[],[1,2],[0,1,2,3],[0,1,2,3,4],[0,1,2,3,4,5],[0,1,2,3,4,5,6],[],[],[],[9,10],[9,10,11],[8,9,10,11,12],[8,9,10,11,12,13],[8,9,10,11,12,13,14],(Lrg 0 16),(Lrg 0 17)])),(20,((Lrg 0 24),[[],[0],[0,1],[0,1,2],[0,1,2],[0,1,2],[0,1,2,5],[0,1,2,4,5,6],[0,1,2,4,5,6,7],[0,1,2,4,5,6,7,8],(Lrg 0 10),[0,1,2],[0,1,2,11],[0,1,2],[0,1,2],[0,1,2],[0,1,2,14,15],[0,1,2,14,15,16],[0,1,2,13,14,15,16,17],[0,1,2,13,14,15,16,17,18],[0,1,2,13,14,15,16,17,18,19],([0,1,2]++Lrg 11 10),(Lrg 0 22),(Lrg 0 23)])),(41,((Lrg 0 16),[[],[],[],[],[2,3],[1,2,3,4],[1,2,3,4,5],[1,2,3,4,5,6],[],[],[8,9],[8,9,10],[8,9,10,11],(Lrg 1 12),(Lrg 0 14),(Lrg 0 15)])),(52,((Lrg 0 17),[[],[],[0,1],[0,1,2],[],[],[5],[4,5,6],[4,5,6,7],[4,5,6,7,8],[],[10],(Lrg 4 8),(Lrg 4 9),(Lrg 0 14),(Lrg 0 15),(Lrg 0 16)]))],[],[]⟩)
  (cfg:=⟨300,[],none,[211,224,240,258],[],false⟩) (args:=[.slice a b d,.slice e f g]) (by kernel_rfl) (B0 Tryz.call211 (B0 Tryz.call224 (B0 Tryz.call240 (B0 Tryz.call258 Bodies.nil)))) (Eq.mp (by kernel_rfl) hvc)
def B2b(P:Program)(d:Bool)(b:OA)(a c:Nat)(h:Heap)(K:Value->Heap->Prop):Prop:=
 Br d (K (.agg #[.bool (decide ((a:Int)>(0:Int))),.slice b a c]) h)
 (K (.agg #[.bool false,.slice b a c]) h)
theorem A88(a:Bool)(b:OA)(d e:Nat)(hvc:B2b Tryz.prog a b d e h K):FCall Tryz.prog Bk #[.bool a,.slice b d e] h K:=
 B7 Tryz.func171 (c:=C2 Tryz.f171) (by kernel_rfl) (rs:=[.cell 4 64]) (by kernel_rfl) (fa:=⟨[],[],[],[],[]⟩)
  (cfg:=⟨13,[4],none,[],[],false⟩) (args:=[.bool a,.slice b d e]) (by kernel_rfl) Bodies.nil (Eq.mp (by kernel_rfl) hvc)
def B6b(P:Program)(a:Bool)(c:OA)(b d:Nat)(h:Heap)(K:Value->Heap->Prop):Prop:=
 Br a (K (I (-1:Int)) h)
 (Br ((b:Int)==(0:Int)) (K (I 0) h)
 (K (I 1) h))
theorem B0s(a:Bool)(b:OA)(d e:Nat)(hvc:B6b Tryz.prog a b d e h K):FCall Tryz.prog A0o #[.agg #[.bool a,.slice b d e]] h K:=
 B7 Tryz.func101 (c:=C2 Tryz.f101) (by kernel_rfl) (rs:=[.tmp 2]) (by kernel_rfl) (fa:=⟨[],[],[],[],[]⟩)
  (cfg:=⟨11,[1],none,[],[],false⟩) (args:=[.agg #[.bool a,.slice b d e]]) (by kernel_rfl) Bodies.nil (Eq.mp (by kernel_rfl) hvc)
def B9f(P:Program)(e:Bool)(f:OA)(g i:Nat)(h:Heap)(K:Value->Heap->Prop):Prop:=
 FCall P Bk #[.bool (!e),.slice f g i] h (fun j k=>∃ (a:Bool) (b:OA) (c d:Nat),j= .agg #[.bool a,.slice b c d]/\K (.agg #[.bool a,.slice b c d]) k)
theorem B4a(a:Bool)(b:OA)(d e:Nat)(hvc:B9f Tryz.prog a b d e h K):FCall Tryz.prog A2a #[.agg #[.bool a,.slice b d e]] h K:=
 B7 Tryz.func208 (c:=C2 Tryz.f208) (by kernel_rfl) (rs:=[.cell 2 64]) (by kernel_rfl) (fa:=⟨[],[],[],[],[]⟩)
  (cfg:=⟨9,[1,2],none,[171],[],false⟩) (args:=[.agg #[.bool a,.slice b d e]]) (by kernel_rfl) (B0 Tryz.call171 Bodies.nil) (Eq.mp (by kernel_rfl) hvc)
def A85(P:Program)(b:Bool)(t:OA)(u v:Nat)(w:Bool)(x:OA)(y z:Nat)(h:Heap)(K:Value->Heap->Prop):Prop:=
 FCall P Jm #[.slice t u v,.slice x y z] h (fun A r=>∃ (c:OA) (d e:Nat) (f:OA) (g i:Nat),A= .tuple #[.slice c d e,.slice f g i]/\FCall P Bk #[.bool (!(b==w)),.slice c d e] r (fun B a=>∃ (j:Bool) (k:OA) (l m:Nat),B= .agg #[.bool j,.slice k l m]/\Heap.le r a/\FCall P Bk #[.bool b,.slice f g i] a (fun C s=>∃ (n:Bool) (o:OA) (p q:Nat),C= .agg #[.bool n,.slice o p q]/\Heap.le a s/\K (.tuple #[.agg #[.bool j,.slice k l m],.agg #[.bool n,.slice o p q]]) s)))
theorem A4a(a:Bool)(b:OA)(d e:Nat)(f:Bool)(g:OA)(i j:Nat)(hvc:A85 Tryz.prog a b d e f g i j h K):FCall Tryz.prog Jl #[.agg #[.bool a,.slice b d e],.agg #[.bool f,.slice g i j]] h K:=
 B7 Tryz.func214 (c:=C2 Tryz.f214) (by kernel_rfl) (rs:=[.cell 4 64,.cell 5 64]) (by kernel_rfl) (fa:=⟨[],[],[(2,([0,1,2,3,4,5,7,8,9,6,10,11,12],[[],[0],[],[2],[0,1,2,3],[],[0,1,2,3,4,5],[],[7],[],(Lrg 0 10),(Lrg 0 11),(Lrg 0 12)]))],[],[]⟩)
  (cfg:=⟨27,[2,3,4,5],none,[171,242],[],false⟩) (args:=[.agg #[.bool a,.slice b d e],.agg #[.bool f,.slice g i j]]) (by kernel_rfl) (B0 Tryz.call171 (B0 Tryz.call242 Bodies.nil)) (Eq.mp (by kernel_rfl) hvc)
def B9g(P:Program)(E:Bool)(s:OA)(t u:Nat)(F:Bool)(v:OA)(w x:Nat)(h:Heap)(K:Value->Heap->Prop):Prop:=
 ∃ (i:List Value->Heap->Prop) (m:List Value->Heap->Nat),i [.slice s t u,.slice v w x] h/\
 ∀ (d:OA) (e f:Nat) (b:OA) (a c:Nat),∀ g,i [.slice d e f,.slice b a c] g->Br (decide ((a:Int)>(0:Int))) (FCall P Jm #[.slice d e f,.slice b a c] g (fun B r=>∃ (y:OA) (z A:Nat) (j:OA) (k l:Nat),B= .tuple #[.slice y z A,.slice j k l]/\i [.slice b a c,.slice j k l] r/\m [.slice b a c,.slice j k l] r<m [.slice d e f,.slice b a c] g))
 (FCall P Bk #[.bool false,.slice d e f] g (fun C D=>∃ (n:Bool) (o:OA) (p q:Nat),C= .agg #[.bool n,.slice o p q]/\K (.agg #[.bool n,.slice o p q]) D))
theorem B4b(a:Bool)(b:OA)(d e:Nat)(f:Bool)(g:OA)(i j:Nat)(hvc:B9g Tryz.prog a b d e f g i j h K):FCall Tryz.prog A6p #[.agg #[.bool a,.slice b d e],.agg #[.bool f,.slice g i j]] h K:=
 B7 Tryz.func212 (c:=C2 Tryz.f212) (by kernel_rfl) (rs:=[.cell 4 64]) (by kernel_rfl) (fa:=⟨[(2,⟨[5,6],[],[.slice none 0 0,.slice none 0 0],⟨([5,6,7,8]++Lrg 13 11),[]⟩⟩)],[],[(1,([0,1,2,3,4,5],[[],[0],[],[2],[0,1],[0,1,2,3,4]]))],[],[]⟩)
  (cfg:=⟨26,[2,3,4],none,[171,242],[],false⟩) (args:=[.agg #[.bool a,.slice b d e],.agg #[.bool f,.slice g i j]]) (by kernel_rfl) (B0 Tryz.call171 (B0 Tryz.call242 Bodies.nil)) (Eq.mp (by kernel_rfl) hvc)
def B6f(P:Program)(k:Bool)(j:OA)(a l:Nat)(h:Heap)(K:Value->Heap->Prop):Prop:=
 Br ((a:Int)==(0:Int)) (K (I 0) h)
 (∃ i,j=some i/\0<=B4 ((a:Int)-1)/\B4 ((a:Int)-1)<(a:Int)/\∃ (f:Int),h.cell? (i.add ((B4 ((a:Int)-1)).toNat*1))=some (U32 f)/\∃ (e:List Value->Heap->Prop) (g:List Value->Heap->Nat),e [I (B4 ((32:Int)*(B4 ((a:Int)-1)))),U32 f] h/\
 ∀ (b:Int) (c:Int),∀ d,e [I b,U32 c] d->Br (decide (c>(0:Int))) (e [I (B4 (b+1)),U32 (Int.fdiv c (2^(min ((1:Int)).toNat 32)))] d/\g [I (B4 (b+1)),U32 (Int.fdiv c (2^(min ((1:Int)).toNat 32)))] d<g [I b,U32 c] d)
 (K (I b) d))
theorem B0w(a:Bool)(b:OA)(d e:Nat)(hvc:B6f Tryz.prog a b d e h K):FCall Tryz.prog Ut #[.agg #[.bool a,.slice b d e]] h K:=
 B7 Tryz.func213 (c:=C2 Tryz.f213) (by kernel_rfl) (rs:=[.tmp 2]) (by kernel_rfl) (fa:=⟨[(5,⟨[3,4],[],[.int .i64 0,.int .u32 0],⟨[3,4,22,23,24,25,26,27],[]⟩⟩)],[],[],[],[]⟩)
  (cfg:=⟨29,[1],none,[],[],false⟩) (args:=[.agg #[.bool a,.slice b d e]]) (by kernel_rfl) Bodies.nil (Eq.mp (by kernel_rfl) hvc)
def A8a(P:Program)(b9:Bool)(a6:OA)(L a7:Nat)(h:Heap)(K:Value->Heap->Prop):Prop:=
 Br ((L:Int)==(0:Int)) (K (.string ({ data:=#[48] }:ByteArray)) h)
 (∃ (p:List Value->Heap->Prop) (M:List Value->Heap->Nat),p [.slice none 0 0,.slice a6 L a7] h/\
 ∀ (i:OA) (g q:Nat) (r:OA) (j s:Nat),∀ n,p [.slice i g q,.slice r j s] n->Br (decide ((j:Int)>(0:Int))) (FCall P Dx #[.slice r j s,U32 (1000000000:Int)] n (fun a8 a9=>∃ (t:OA) (u v:Nat) (N:Int),a8= .tuple #[.slice t u v,U32 N]/\wpH P (Instr.buildSlice 62 1 #[(0,U32 N)]) (fun b0 b1=>∃ (O:OA) (Q R:Nat),b0= .slice O Q R/\wpH P (Builtin.append_ #[62,62] 62 #[.slice i g q,.slice O Q R]) (fun b2 a4=>∃ (w:OA) (x y:Nat),b2= .slice w x y/\p [.slice w x y,.slice t u v] a4/\M [.slice w x y,.slice t u v] a4<M [.slice i g q,.slice r j s] n) b1) a9))
 (∃ (z:List Value->Heap->Prop) (S:List Value->Heap->Nat),z [.slice none 0 0,I (B4 ((g:Int)-1))] n/\
 ∀ (k:OA) (l m:Nat) (a:Int),∀ o,z [.slice k l m,I a] o->Br (decide (a>=(0:Int))) (∃ (A:List Value->Heap->Prop) (T:List Value->Heap->Nat),A [.slice k l m,U32 (100000000:Int)] o/\
 ∀ (e:OA) (c f:Nat) (b:Int),∀ d,A [.slice e c f,U32 b] d->Br (decide (b>(0:Int))) (∃ (B:List Value->Heap->Prop),(∃ a5,i=some a5/\0<=a/\a<(g:Int)/\∃ (C:Int),d.cell? (a5.add (a.toNat*1))=some (U32 C)/\Br (decide (b=0)) False
 (∃ (D:List Value->Heap->Prop),(Br (decide ((c:Int)>(0:Int))) (D [.bool true] d)
 (D [.bool ((wu8 (F3 ((48:Int)+(Int.tmod (F3 (Int.tdiv C b)) (10:Int))))) != (48:Int))] d))/\
 ∀ (V:Bool),∀ H,D [.bool V] H->Br V (wpH P (Instr.buildSlice 199 1 #[(0,Y (wu8 (F3 ((48:Int)+(Int.tmod (F3 (Int.tdiv C b)) (10:Int))))))]) (fun b3 b4=>∃ (W:OA) (X Z:Nat),b3= .slice W X Z/\wpH P (Builtin.append_ #[199,199] 199 #[.slice e c f,.slice W X Z]) (fun b5 b6=>∃ (a0:OA) (a1 a2:Nat),b5= .slice a0 a1 a2/\B [.slice a0 a1 a2] b6) b4) H)
 (B [.slice e c f] H)))/\
 ∀ (E:OA) (F G:Nat),∀ J,B [.slice E F G] J->A [.slice E F G,U32 (F3 (Int.tdiv b (10:Int)))] J/\T [.slice E F G,U32 (F3 (Int.tdiv b (10:Int)))] J<T [.slice e c f,U32 b] d)
 (z [.slice e c f,I (B4 (a-1))] d/\S [.slice e c f,I (B4 (a-1))] d<S [.slice k l m,I a] o))
 (wpH P (convert 199 9 (.slice k l m)) (fun b7 b8=>∃ (a3:ByteArray),b7= .string a3/\K (.string a3) b8) o)))
theorem A4d(a:Bool)(b:OA)(d e:Nat)(hvc:A8a Tryz.prog a b d e h K):FCall Tryz.prog Jn #[.agg #[.bool a,.slice b d e]] h K:=
 B7 Tryz.func188 (c:=C2 Tryz.f188) (by kernel_rfl) (rs:=[.tmp 2]) (by kernel_rfl) (fa:=⟨[(5,⟨[3,4],[],[.slice none 0 0,.slice none 0 0],⟨([3,4,5,6]++Lrg 17 13),[]⟩⟩),(11,⟨[7,8],[],[.slice none 0 0,.int .i64 0],⟨([7,8,9,10]++Lrg 33 28),[]⟩⟩),(14,⟨[7,9],[],[.slice none 0 0,.int .u32 0],⟨([7,9,10]++Lrg 37 24),[]⟩⟩)],[(15,⟨[7],[],[.slice none 0 0],⟨([7,10]++Lrg 41 20),[]⟩⟩),(18,⟨[56],[],[.bool false],⟨[50,51,52,53,54,55,56],[]⟩⟩)],[],[],[]⟩)
  (cfg:=⟨63,[1],none,[224],[],false⟩) (args:=[.agg #[.bool a,.slice b d e]]) (by kernel_rfl) (B0 Tryz.call224 Bodies.nil) (Eq.mp (by kernel_rfl) hvc)
def Qv(P:Program)(c:ByteArray)(h:Heap)(K:Value->Heap->Prop):Prop:=
 ∃ (q:List Value->Heap->Prop) (G:List Value->Heap->Nat),q [.slice none 0 0,I 0,.bool false,.slice none 0 0] h/\
 ∀ (l:OA) (m n:Nat) (o:Int) (r:Bool) (s:OA) (t u:Nat),∀ p,q [.slice l m n,I o,.bool r,.slice s t u] p->Br (decide (o<((ByteArray.size c:Nat):Int))) (∃ (v:List Value->Heap->Prop),(∃ (w:List Value->Heap->Prop) (H:List Value->Heap->Nat),w [I o,U32 (0:Int),U32 (1:Int),I 0,.bool r,.slice s t u] p/\
 ∀ (a:Int) (d:Int) (e:Int) (k:Int) (f:Bool) (g:OA) (i j:Nat),∀ b,w [I a,U32 d,U32 e,I k,.bool f,.slice g i j] b->Br (decide (k<(9:Int))) (Br (decide (a<((ByteArray.size c:Nat):Int))) (∃ (J:UInt8),(0<=a/\(c)[a.toNat]? = some J)/\Br (decide (((J.toNat:Nat):Int)<(48:Int))) (K (.tuple #[.agg #[.bool false,.slice none 0 0],.bool false]) b)
 (∃ (L:UInt8),(0<=a/\(c)[a.toNat]? = some L)/\Br (decide (((L.toNat:Nat):Int)>(57:Int))) (K (.tuple #[.agg #[.bool false,.slice none 0 0],.bool false]) b)
 (∃ (x:UInt8),(0<=a/\(c)[a.toNat]? = some x)/\w [I (B4 (a+1)),U32 (F3 ((F3 (d*(10:Int)))+(F3 (wu8 (((x.toNat:Nat):Int)-48))))),U32 (F3 (e*(10:Int))),I (B4 (k+1)),.bool f,.slice g i j] b/\H [I (B4 (a+1)),U32 (F3 ((F3 (d*(10:Int)))+(F3 (wu8 (((x.toNat:Nat):Int)-48))))),U32 (F3 (e*(10:Int))),I (B4 (k+1)),.bool f,.slice g i j] b<H [I a,U32 d,U32 e,I k,.bool f,.slice g i j] b)))
 (v [I a,U32 d,U32 e,.bool f,.slice g i j] b))
 (v [I a,U32 d,U32 e,.bool f,.slice g i j] b))/\
 ∀ (y:Int) (M:Int) (N:Int) (z:Bool) (A:OA) (B C:Nat),∀ a8,v [I y,U32 M,U32 N,.bool z,.slice A B C] a8->wpH P (Instr.buildSlice 62 1 #[(0,U32 N)]) (fun a9 b0=>∃ (O:OA) (Q R:Nat),a9= .slice O Q R/\FCall P Pj #[.slice l m n,.slice O Q R] b0 (fun b1 b2=>∃ (S:OA) (T V:Nat),b1= .slice S T V/\wpH P (Instr.buildSlice 62 1 #[(0,U32 M)]) (fun b3 b4=>∃ (W:OA) (X Z:Nat),b3= .slice W X Z/\FCall P T8 #[.slice W X Z] b4 (fun b5 b6=>∃ (a0:OA) (a1 a2:Nat),b5= .slice a0 a1 a2/\FCall P Pl #[.slice S T V,.slice a0 a1 a2] b6 (fun b7 a7=>∃ (D:OA) (E F:Nat),b7= .slice D E F/\q [.slice D E F,I y,.bool z,.slice A B C] a7/\G [.slice D E F,I y,.bool z,.slice A B C] a7<G [.slice l m n,I o,.bool r,.slice s t u] p))) b2)) a8)
 (FCall P Bk #[.bool false,.slice l m n] p (fun b8 b9=>∃ (a3:Bool) (a4:OA) (a5 a6:Nat),b8= .agg #[.bool a3,.slice a4 a5 a6]/\K (.tuple #[.agg #[.bool a3,.slice a4 a5 a6],.bool (!(ByteArray.toList c==ByteArray.toList ({ data:=#[] }:ByteArray)))]) b9))
theorem Rt(a:ByteArray)(hvc:Qv Tryz.prog a h K):FCall Tryz.prog Ac #[.string a] h K:=
 B7 Tryz.func170 (c:=C2 Tryz.f170) (by kernel_rfl) (rs:=[.cell 2 64,.tmp 3]) (by kernel_rfl) (fa:=⟨[(3,⟨[4,5],[(2,2)],[.slice none 0 0,.int .i64 0,.bool false,.slice none 0 0],⟨(Lrg 3 51),[2]⟩⟩),(6,⟨[5,6,7,8],[(2,2)],[.int .i64 0,.int .u32 0,.int .u32 0,.int .i64 0,.bool false,.slice none 0 0],⟨([3,5,6,7,8]++Lrg 13 33),[2]⟩⟩)],[(12,⟨[5,6,7],[(2,2)],[.int .i64 0,.int .u32 0,.int .u32 0,.bool false,.slice none 0 0],⟨([3,5,6,7,8]++Lrg 13 33),[2]⟩⟩)],[],[],[]⟩)
  (cfg:=⟨58,[2],none,[171,209,210,211],[],false⟩) (args:=[.string a]) (by kernel_rfl) (B0 Tryz.call171 (B0 Tryz.call209 (B0 Tryz.call210 (B0 Tryz.call211 Bodies.nil)))) (Eq.mp (by kernel_rfl) hvc)
def B6e(P:Program)(w:Bool)(x:OA)(y z:Nat)(n:Bool)(A:OA)(B C:Nat)(h:Heap)(K:Value->Heap->Prop):Prop:=
 ∃ (o:List Value->Heap->Prop),(Br n (FCall P A2a #[.agg #[.bool w,.slice x y z]] h (fun c2 v=>∃ (D:Bool) (E:OA) (F G:Nat),c2= .agg #[.bool D,.slice E F G]/\Heap.le h v/\FCall P A2a #[.agg #[.bool n,.slice A B C]] v (fun c3 a8=>∃ (H:Bool) (J:OA) (L M:Nat),c3= .agg #[.bool H,.slice J L M]/\Heap.le v a8/\o [.bool D,.slice E F G,.bool H,.slice J L M] a8)))
 (o [.bool w,.slice x y z,.bool n,.slice A B C] h))/\
 ∀ (a:Bool) (b:OA) (c d:Nat) (e:Bool) (f:OA) (g i:Nat),∀ b1,o [.bool a,.slice b c d,.bool e,.slice f g i] b1->FCall P A6p #[.agg #[.bool a,.slice b c d],.agg #[.bool e,.slice f g i]] b1 (fun c4 c5=>∃ (j:Bool) (k:OA) (l m:Nat),c4= .agg #[.bool j,.slice k l m]/\∃ (p:List Value->Heap->Prop),(FCall P Ut #[.agg #[.bool j,.slice k l m]] c5 (fun c6 a9=>∃ (N:Int),c6=I N/\Br (decide (N>(1:Int))) (FCall P Jl #[.agg #[.bool a,.slice b c d],.agg #[.bool j,.slice k l m]] a9 (fun c7 c8=>∃ (O:Bool) (Q:OA) (R S:Nat) (b4:Bool) (b5:OA) (b6 b7:Nat),c7= .tuple #[.agg #[.bool O,.slice Q R S],.agg #[.bool b4,.slice b5 b6 b7]]/\FCall P Jl #[.agg #[.bool e,.slice f g i],.agg #[.bool j,.slice k l m]] c8 (fun c9 d0=>∃ (T:Bool) (V:OA) (W X:Nat) (b8:Bool) (b9:OA) (c0 c1:Nat),c9= .tuple #[.agg #[.bool T,.slice V W X],.agg #[.bool b8,.slice b9 c0 c1]]/\p [.bool O,.slice Q R S,.bool T,.slice V W X] d0)))
 (p [.bool a,.slice b c d,.bool e,.slice f g i] a9)))/\
 ∀ (Z:Bool) (a0:OA) (a1 a2:Nat) (q:Bool) (r:OA) (s t:Nat),∀ b2,p [.bool Z,.slice a0 a1 a2,.bool q,.slice r s t] b2->∃ (u:List Value->Heap->Prop),(FCall P Ut #[.agg #[.bool q,.slice r s t]] b2 (fun d1 b0=>∃ (a3:Int),d1=I a3/\Br (a3==(1:Int)) (u [.bool false,.slice none 0 0] b0)
 (u [.bool q,.slice r s t] b0)))/\
 ∀ (a4:Bool) (a5:OA) (a6 a7:Nat),∀ b3,u [.bool a4,.slice a5 a6 a7] b3->K (.agg #[.bool Z,.slice a0 a1 a2,.bool a4,.slice a5 a6 a7]) b3)
theorem B0v(a:Bool)(b:OA)(d e:Nat)(f:Bool)(g:OA)(i j:Nat)(hvc:B6e Tryz.prog a b d e f g i j h K):FCall Tryz.prog A0r #[.agg #[.bool a,.slice b d e],.agg #[.bool f,.slice g i j]] h K:=
 B7 Tryz.func172 (c:=C2 Tryz.f172) (by kernel_rfl) (rs:=[.cell 4 66]) (by kernel_rfl) (fa:=⟨[],[(3,⟨[],[(2,2),(3,2)],[.bool false,.slice none 0 0,.bool false,.slice none 0 0],⟨[6,7,8,9,10,11],[2,3]⟩⟩),(7,⟨[],[(2,2),(3,2)],[.bool false,.slice none 0 0,.bool false,.slice none 0 0],⟨(Lrg 15 15),[2,3]⟩⟩),(9,⟨[],[(3,2)],[.bool false,.slice none 0 0],⟨[30,31,32,33],[3]⟩⟩)],[(2,([0,2,1,3,4,5],[[],[0],[],[0,1,2],[0,1,2,3],[0,1,2,3,4]]))],[],[]⟩)
  (cfg:=⟨37,[2,3,4,5],none,[208,212,213,214],[],false⟩) (args:=[.agg #[.bool a,.slice b d e],.agg #[.bool f,.slice g i j]]) (by kernel_rfl) (B0 Tryz.call208 (B0 Tryz.call212 (B0 Tryz.call213 (B0 Tryz.call214 Bodies.nil)))) (Eq.mp (by kernel_rfl) hvc)
def B6a(P:Program)(f:Bool)(j:OA)(k l:Nat)(m:Bool)(n:OA)(g o:Nat)(h:Heap)(K:Value->Heap->Prop):Prop:=
 FCall P Jn #[.agg #[.bool f,.slice j k l]] h (fun p i=>∃ (a:ByteArray),p= .string a/\∃ (d:List Value->Heap->Prop),(Br f (((ByteArray.size ({ data:=#[45] }:ByteArray)+ByteArray.size a:Nat):Int)<=9223372036854775807/\d [.string (({ data:=#[45] }:ByteArray)++a)] i)
 (d [.string a] i))/\
 ∀ (b:ByteArray),∀ e,d [.string b] e->Br (decide ((g:Int)>(0:Int))) (FCall P Jn #[.agg #[.bool m,.slice n g o]] e (fun q r=>∃ (c:ByteArray),q= .string c/\((ByteArray.size ({ data:=#[47] }:ByteArray)+ByteArray.size c:Nat):Int)<=9223372036854775807/\((ByteArray.size b+ByteArray.size (({ data:=#[47] }:ByteArray)++c):Nat):Int)<=9223372036854775807/\K (.string (b++(({ data:=#[47] }:ByteArray)++c))) r))
 (K (.string b) e))
theorem B0r(a:Bool)(b:OA)(d e:Nat)(f:Bool)(g:OA)(i j:Nat)(hvc:B6a Tryz.prog a b d e f g i j h K):FCall Tryz.prog Pi #[.agg #[.bool a,.slice b d e,.bool f,.slice g i j]] h K:=
 B7 Tryz.func131 (c:=C2 Tryz.f131) (by kernel_rfl) (rs:=[.tmp 2]) (by kernel_rfl) (fa:=⟨[],[(4,⟨[3],[],[.string ⟨#[]⟩],⟨[3,7,8,9,10,11],[]⟩⟩)],[],[],[]⟩)
  (cfg:=⟨24,[1],none,[188],[],false⟩) (args:=[.agg #[.bool a,.slice b d e,.bool f,.slice g i j]]) (by kernel_rfl) (B0 Tryz.call188 Bodies.nil) (Eq.mp (by kernel_rfl) hvc)
def B6c(P:Program)(b:ByteArray)(h:Heap)(K:Value->Heap->Prop):Prop:=
 ∃ (l:List Value->Heap->Prop),(Br (decide (((ByteArray.size b:Nat):Int)>(0:Int))) (∃ (E:UInt8),(0<=(0:Int)/\(b)[((0:Int)).toNat]? = some E)/\l [.bool (((E.toNat:Nat):Int)==(45:Int))] h)
 (l [.bool false] h))/\
 ∀ (m:Bool),∀ D,l [.bool m] D->∃ (n:List Value->Heap->Prop),(Br m ((0<=(1:Int)/\(1:Int)<=(((b).size:Nat):Int))/\n [.string ((b).extract (((1:Int)).toNat) ((b).size))] D)
 (n [.string b] D))/\
 ∀ (a:ByteArray),∀ a0,n [.string a] a0->∃ (o:List Value->Heap->Prop),(∃ (p:List Value->Heap->Prop) (F:List Value->Heap->Nat),p [I ((ByteArray.size a:Nat):Int),I 0] a0/\
 ∀ (f:Int) (c:Int),∀ e,p [I f,I c] e->Br (decide (c<((ByteArray.size a:Nat):Int))) (∃ (G:UInt8),(0<=c/\(a)[c.toNat]? = some G)/\Br (((G.toNat:Nat):Int)==(47:Int)) (o [I c] e)
 (p [I f,I (B4 (c+1))] e/\F [I f,I (B4 (c+1))] e<F [I f,I c] e))
 (o [I f] e))/\
 ∀ (d:Int),∀ a1,o [I d] a1->(0<=d/\d<=(((a).size:Nat):Int))/\FCall P Ac #[.string ((a).extract 0 (d.toNat))] a1 (fun a3 S=>∃ (a2:Bool) (H:OA) (J L:Nat) (M:Bool),a3= .tuple #[.agg #[.bool a2,.slice H J L],.bool M]/\Br (!M) (K (.tuple #[.agg #[.bool false,.slice none 0 0,.bool false,.slice none 0 0],.bool false]) S)
 (FCall P Bk #[.bool m,.slice H J L] S (fun a4 C=>∃ (g:Bool) (i:OA) (j k:Nat),a4= .agg #[.bool g,.slice i j k]/\Br (decide (d<((ByteArray.size a:Nat):Int))) ((0<=B4 (d+1)/\B4 (d+1)<=(((a).size:Nat):Int))/\FCall P Ac #[.string ((a).extract ((B4 (d+1)).toNat) ((a).size))] C (fun a5 T=>∃ (q:Bool) (r:OA) (s t:Nat) (N:Bool),a5= .tuple #[.agg #[.bool q,.slice r s t],.bool N]/\Br (!N) (K (.tuple #[.agg #[.bool false,.slice none 0 0,.bool false,.slice none 0 0],.bool false]) T)
 (FCall P A0o #[.agg #[.bool q,.slice r s t]] T (fun a6 V=>∃ (O:Int),a6=I O/\Br (O==(0:Int)) (K (.tuple #[.agg #[.bool false,.slice none 0 0,.bool false,.slice none 0 0],.bool false]) V)
 (FCall P A0r #[.agg #[.bool g,.slice i j k],.agg #[.bool q,.slice r s t]] V (fun a7 W=>∃ (u:Bool) (v:OA) (w x:Nat) (y:Bool) (z:OA) (A B:Nat),a7= .agg #[.bool u,.slice v w x,.bool y,.slice z A B]/\FCall P Pi #[.agg #[.bool u,.slice v w x,.bool y,.slice z A B]] W (fun a8 X=>∃ (Q:ByteArray),a8= .string Q/\Heap.le W X/\K (.tuple #[.agg #[.bool u,.slice v w x,.bool y,.slice z A B],.bool (ByteArray.toList Q==ByteArray.toList b)]) X)))))))
 (FCall P Pi #[.agg #[.bool g,.slice i j k,.bool false,.slice none 0 0]] C (fun a9 Z=>∃ (R:ByteArray),a9= .string R/\Heap.le C Z/\K (.tuple #[.agg #[.bool g,.slice i j k,.bool false,.slice none 0 0],.bool (ByteArray.toList R==ByteArray.toList b)]) Z)))))
theorem B0t(a:ByteArray)(hvc:B6c Tryz.prog a h K):FCall Tryz.prog A0p #[.string a] h K:=
 B7 Tryz.func100 (c:=C2 Tryz.f100) (by kernel_rfl) (rs:=[.cell 2 66,.tmp 3]) (by kernel_rfl) (fa:=⟨[(7,⟨[6,7],[],[.int .i64 0,.int .i64 0],⟨([6,7]++Lrg 27 11),[]⟩⟩)],[(3,⟨[5],[],[.bool false],⟨([5]++Lrg 14 8),[]⟩⟩),(5,⟨[4],[],[.string ⟨#[]⟩],⟨[4,22,23,24],[]⟩⟩),(11,⟨[6],[],[.int .i64 0],⟨([6,7]++Lrg 27 11),[]⟩⟩)],[(20,([0,1,3,2,4,5,6],[[],[],[1],[],[1,2,3],[0,1,2],[0,1,2,3,4,5]]))],[],[]⟩)
  (cfg:=⟨82,[2,8,10,11],none,[101,131,170,171,172],[],false⟩) (args:=[.string a]) (by kernel_rfl) (B0 Tryz.call101 (B0 Tryz.call131 (B0 Tryz.call170 (B0 Tryz.call171 (B0 Tryz.call172 Bodies.nil))))) (Eq.mp (by kernel_rfl) hvc)
def B6d(P:Program)(x:OA)(c B:Nat)(h:Heap)(K:Value->Heap->Prop):Prop:=
 wpH P (Instr.makeSlice 58 (I (c:Int)) (I (c:Int))) (fun y z=>∃ (d:OA) (e g:Nat),y= .slice d e g/\∃ (f:List Value->Heap->Prop) (i:List Value->Heap->Nat),f [I 0] z/\
 ∀ (a:Int),∀ b,f [I a] b->Br (decide (a<(c:Int))) (∃ v,x=some v/\0<=a/\a<(c:Int)/\∃ (j:ByteArray),b.cell? (v.add (a.toNat*1))=some (.string j)/\FCall P A0p #[.string j] b (fun A t=>∃ (k:Bool) (l:OA) (m n:Nat) (o:Bool) (p:OA) (q r:Nat) (s:Bool),A= .tuple #[.agg #[.bool k,.slice l m n,.bool o,.slice p q r],.bool s]/\Br (!s) (K (.tuple #[.slice none 0 0,.bool false]) t)
 (∃ w,d=some w/\0<=a/\a<(e:Int)/\wpH P (Instr.storeAt 66 (.pointer (some (w.add (a.toNat*4)))) (.agg #[.bool k,.slice l m n,.bool o,.slice p q r])) (fun _ u=>f [I (B4 (a+1))] u/\i [I (B4 (a+1))] u<i [I a] b) t)))
 (K (.tuple #[.slice d e g,.bool true]) b)) h
theorem B0u(a:OA)(b d:Nat)(hvc:B6d Tryz.prog a b d h K):FCall Tryz.prog A0q #[.slice a b d] h K:=
 B7 Tryz.func38 (c:=C2 Tryz.f38) (by kernel_rfl) (rs:=[.tmp 2,.tmp 3]) (by kernel_rfl) (fa:=⟨[(3,⟨[5],[],[.int .i64 0],⟨([2,3,5,6,7]++Lrg 11 20),[6]⟩⟩)],[],[],[],[]⟩)
  (cfg:=⟨32,[6],none,[100],[],false⟩) (args:=[.slice a b d]) (by kernel_rfl) (B0 Tryz.call100 Bodies.nil) (Eq.mp (by kernel_rfl) hvc)
end Go.Proofs.YtajkakhfcokljaaGreatDoor
