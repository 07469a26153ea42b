/-
  Texts of this proof, merged by a program of ours.
-/
import Derived.Test.YtajkakhfcokljaaGreatDoorProg
import Derived.Test.YtajkakhfcokljaaGreatDoorG05
import Derived.Test.YtajkakhfcokljaaGreatDoorG06
open Go.Proofs.Tryz
set_option linter.all false
open _root_.Go.Builtin renaming append_->B90
open _root_.ByteArray renaming size->B8u,toList->B8y
open _root_.Go.Instr renaming storeAt->B8t,buildSlice->B8v,makeSlice->B8x
open Int renaming fdiv->B8w,tdiv->B8z
namespace Go.Proofs.YtajkakhfcokljaaGreatDoor
open Go
set_option maxRecDepth 100000
variable {h:Heap} {K:VP}
abbrev R6:Nat:=211
abbrev Oy:Nat:=240
abbrev Oz:Nat:=209
abbrev B5g:Nat:=241
abbrev Ox:Nat:=210
abbrev Dg:Nat:=224
abbrev Be:Nat:=258
abbrev Jd:Nat:=242
abbrev Y8:Nat:=171
abbrev Kt:Nat:=173
abbrev A09:Nat:=101
abbrev A24:Nat:=208
abbrev B82:Nat:=207
abbrev B81:Nat:=174
abbrev Jc:Nat:=214
abbrev A6n:Nat:=212
abbrev Ug:Nat:=213
abbrev Je:Nat:=188
abbrev Y9:Nat:=170
abbrev B7g:Nat:=175
abbrev A0c:Nat:=172
abbrev B7f:Nat:=109
abbrev B6q:Nat:=39
abbrev B7a:Nat:=164
abbrev B7e:Nat:=163
abbrev B79:Nat:=94
abbrev B7b:Nat:=110
abbrev B7c:Nat:=169
abbrev B7d:Nat:=108
abbrev Ks:Nat:=131
abbrev A0a:Nat:=100
abbrev B80:Nat:=91
abbrev A0b:Nat:=38
abbrev Uf:Nat:=123
abbrev A4q:Nat:=9
abbrev A1d:Nat:=62
abbrev C2:Nat:=237
theorem Mj:SliceT prog A1d C2 (U32 (0:Int)) 1 4:=⟨by kernel_rfl,by kernel_rfl,rfl,by decide⟩
theorem J7:prog.cellsOf C2=1/\(prog.info? C2).isSome=true:=⟨by kernel_rfl,by kernel_rfl⟩
abbrev Ej:Nat:=199
abbrev F5:Nat:=5
theorem Dt:SliceT prog Ej F5 (Y (0:Int)) 1 1:=⟨by kernel_rfl,by kernel_rfl,rfl,by decide⟩
theorem A2w:prog.cellsOf F5=1/\(prog.info? F5).isSome=true:=⟨by kernel_rfl,by kernel_rfl⟩
abbrev A98:Nat:=58
abbrev Z7:Nat:=66
theorem B4x:SliceT prog A98 Z7 (.agg #[.bool false,.slice none 0 0,.bool false,.slice none 0 0]) 4 64:=⟨by kernel_rfl,by kernel_rfl,rfl,by decide⟩
theorem Wc:prog.cellsOf Z7=4/\(prog.info? Z7).isSome=true:=⟨by kernel_rfl,by kernel_rfl⟩
abbrev Cq:Nat:=23
abbrev E5:Nat:=9
theorem O3:SliceT prog Cq E5 (.string ({ data:=#[] }:ByteArray)) 1 16:=⟨by kernel_rfl,by kernel_rfl,rfl,by decide⟩
theorem En:prog.cellsOf E5=1/\(prog.info? E5).isSome=true:=⟨by kernel_rfl,by kernel_rfl⟩
def B61(P:Program)(j:OA)(k l:Nat)(h:Heap)(K:VP):Prop:=
 ∃ (e:LP) (f:LN),e [.slice j k l] h/\
 ∀ c a b d,e [.slice c a b] d->Br (decide ((a:Int)>(0:Int))) (∃ g,c=some g/\0<=B3 ((a:Int)-1)/\B3 ((a:Int)-1)<(a:Int)/\∃ i,d.cell? (g.add ((B3 ((a:Int)-1)).toNat*1))=some (U32 i)/\Br (i==(0:Int)) ((0<=B3 ((a:Int)-1)/\B3 ((a:Int)-1)<=(b:Int))/\e [.slice (I8 c b 0 1) (((B3 ((a:Int)-1)).toNat)-0) (b-0)] d/\f [.slice (I8 c b 0 1) (((B3 ((a:Int)-1)).toNat)-0) (b-0)] d<f [.slice c a b] d)
 (K (.slice c a b) d))
 (K (.slice c a b) d)
theorem B0u a b c(hvc:B61 prog a b c h K):FCall prog R6 #[.slice a b c] h K:=
 C6 bod func211 [.tmp 2] { loops:=[(1,⟨[0],[],[.slice none 0 0],⟨([0]++Lrg 3 17),[]⟩⟩)] } 21 [] [] [] (by kernel_rfl) hvc
def A8c(P:Program)(f:OA)(c r:Nat)(g:OA)(d s:Nat)(h:Heap)(K:VP):Prop:=
 Br ((c:Int) != (d:Int)) (Br (decide ((c:Int)<(d:Int))) (K (I (-1:Int)) h)
 (K (I 1) h))
 (∃ (e:LP) (i:LN),e [I (B3 ((c:Int)-1))] h/\
 ∀ a b,e [I a] b->Br (decide (a>=(0:Int))) (∃ j,f=some j/\0<=a/\a<(c:Int)/\∃ k,b.cell? (j.add (a.toNat*1))=some (U32 k)/\∃ l,g=some l/\0<=a/\a<(d:Int)/\∃ m,b.cell? (l.add (a.toNat*1))=some (U32 m)/\Br (k != m) (∃ n,f=some n/\0<=a/\a<(c:Int)/\∃ o,b.cell? (n.add (a.toNat*1))=some (U32 o)/\∃ p,g=some p/\0<=a/\a<(d:Int)/\∃ q,b.cell? (p.add (a.toNat*1))=some (U32 q)/\Br (decide (o<q)) (K (I (-1:Int)) b)
 (K (I 1) b))
 (e [I (B3 (a-1))] b/\i [I (B3 (a-1))] b<i [I a] b))
 (K (I 0) b))
theorem A46 a b c d e f(hvc:A8c prog a b c d e f h K):FCall prog Oy #[.slice a b c,.slice d e f] h K:=
 C6 bod func240 [.tmp 4] { loops:=[(6,⟨[5],[],[.int .i64 0],⟨([4,5]++Lrg 19 22),[]⟩⟩)] } 41 [] [] [] (by kernel_rfl) hvc
def A8d(P:Program)(p:OA)(i q:Nat)(r:OA)(j s:Nat)(h:Heap)(K:VP):Prop:=
 ∃ (k:LP),(Br (decide ((i:Int)<(j:Int))) (k [.slice r j s,.slice p i q] h)
 (k [.slice p i q,.slice r j s] h))/\
 ∀ z b Q A n R B,k [.slice z b Q,.slice A n R] B->wpH P (B8x 62 (I (B3 ((b:Int)+1))) (I (B3 ((b:Int)+1)))) (fun J L=>∃ (e:OA) (f t:Nat),J= .slice e f t/\∃ (l:LP) (u:LN),l [U 0,I 0] L/\
 ∀ d a c,l [U d,I a] c->Br (decide (a<(b:Int))) (∃ C,z=some C/\0<=a/\a<(b:Int)/\∃ o,c.cell? (C.add (a.toNat*1))=some (U32 o)/\∃ (m:LP),(Br (decide (a<(n:Int))) (∃ D,A=some D/\0<=a/\a<(n:Int)/\∃ E,c.cell? (D.add (a.toNat*1))=some (U32 E)/\m [U (B7 ((B7 (d+(B7 o)))+(B7 E)))] c)
 (m [U (B7 (d+(B7 o)))] c))/\
 ∀ g F,m [U g] F->∃ G,e=some G/\0<=a/\a<(f:Int)/\wpH P (B8t 237 (.pointer (some (G.add (a.toNat*1)))) (U32 (F3 g))) (fun _ y=>l [U (B8w g (2^(min ((32:Int)).toNat 64))),I (B3 (a+1))] y/\u [U (B8w g (2^(min ((32:Int)).toNat 64))),I (B3 (a+1))] y<u [U d,I a] c) F)
 (∃ H,e=some H/\0<=(b:Int)/\(b:Int)<(f:Int)/\wpH P (B8t 237 (.pointer (some (H.add (((b:Int)).toNat*1)))) (U32 (F3 d))) (fun _ M=>FCall P R6 #[.slice e f t] M (fun N O=>∃ (v:OA) (w x:Nat),N= .slice v w x/\K (.slice v w x) O)) c)) B
theorem A47 a b c d e f(hvc:A8d prog a b c d e f h K):FCall prog Oz #[.slice a b c,.slice d e f] h K:=
 C6 bod func209 [.tmp 4] ⟨[(6,⟨[6,7],[],[.int .u64 0,.int .i64 0],⟨([6,7]++Lrg 19 31),[]⟩⟩)],[(3,⟨[0,1],[],[.slice none 0 0,.slice none 0 0],⟨[0,1,8,9,10,11,12,13,14],[]⟩⟩),(11,⟨[6],[],[.int .u64 0],⟨([6]++Lrg 32 11),[]⟩⟩)],[],[],[]⟩ 58 [] [211] [] (by kernel_rfl) hvc
def A87(P:Program)(w:OA)(x:Nat)(y:OA)(e:Nat)(j:OA)(k:Nat)(z:LP)(m:LN)(a:Int)(n:Heap):Prop:=
 ∃ (l:LP) (o:LN),l [U 0,I 0] n/\
 ∀ d b c,l [U d,I b] c->Br (decide (b<(e:Int))) (∃ r,w=some r/\0<=a/\a<(x:Int)/\∃ f,c.cell? (r.add (a.toNat*1))=some (U32 f)/\∃ s,y=some s/\0<=b/\b<(e:Int)/\∃ g,c.cell? (s.add (b.toNat*1))=some (U32 g)/\∃ t,j=some t/\0<=B3 (a+b)/\B3 (a+b)<(k:Int)/\∃ i,c.cell? (t.add ((B3 (a+b)).toNat*1))=some (U32 i)/\∃ u,j=some u/\0<=B3 (a+b)/\B3 (a+b)<(k:Int)/\wpH P (B8t 237 (.pointer (some (u.add ((B3 (a+b)).toNat*1)))) (U32 (F3 (B7 (d+(B7 ((B7 ((B7 f)*(B7 g)))+(B7 i)))))))) (fun _ p=>l [U (B8w (B7 (d+(B7 ((B7 ((B7 f)*(B7 g)))+(B7 i))))) (2^(min ((32:Int)).toNat 64))),I (B3 (b+1))] p/\o [U (B8w (B7 (d+(B7 ((B7 ((B7 f)*(B7 g)))+(B7 i))))) (2^(min ((32:Int)).toNat 64))),I (B3 (b+1))] p<o [U d,I b] c) c)
 (∃ v,j=some v/\0<=B3 (a+(e:Int))/\B3 (a+(e:Int))<(k:Int)/\wpH P (B8t 237 (.pointer (some (v.add ((B3 (a+(e:Int))).toNat*1)))) (U32 (F3 d))) (fun _ q=>z [I (B3 (a+1))] q/\m [I (B3 (a+1))] q<m [I a] n) c)
def A88(P:Program)(m:OA)(a t:Nat)(n:OA)(b u:Nat)(h:Heap)(K:VP):Prop:=
 Br ((a:Int)==(0:Int)) (K (.slice none 0 0) h)
 (Br ((b:Int)==(0:Int)) (K (.slice none 0 0) h)
 (wpH P (B8x 62 (I (B3 ((a:Int)+(b:Int)))) (I (B3 ((a:Int)+(b:Int))))) (fun p q=>∃ (c:OA) (d i:Nat),p= .slice c d i/\∃ (e:LP) (o:LN),e [I 0] q/\
 ∀ f g,e [I f] g->Br (decide (f<(a:Int))) (A87 P m a n b c d e o f g)
 (FCall P R6 #[.slice c d i] g (fun r s=>∃ (j:OA) (k l:Nat),r= .slice j k l/\K (.slice j k l) s))) h))
theorem A43 a b c d e f(hvc:A88 prog a b c d e f h K):FCall prog Ox #[.slice a b c,.slice d e f] h K:=
 C6 bod func210 [.tmp 4] { loops:=[(5,⟨[6],[],[.int .i64 0],⟨([6,7,8]++Lrg 23 50),[]⟩⟩),(9,⟨[7,8],[],[.int .u64 0,.int .i64 0],⟨([7,8]++Lrg 29 36),[]⟩⟩)] } 75 [] [211] [] (by kernel_rfl) hvc
def Yd(P:Program)(s:OA)(e x:Nat)(c:Int)(h:Heap)(K:VP):Prop:=
 wpH P (B8x 62 (I (e:Int)) (I (e:Int))) (fun t u=>∃ (g:OA) (i k:Nat),t= .slice g i k/\∃ (j:LP) (l:LN),j [U 0,I (B3 ((e:Int)-1))] u/\
 ∀ b a d,j [U b,I a] d->Br (decide (a>=(0:Int))) (∃ q,s=some q/\0<=a/\a<(e:Int)/\∃ f,d.cell? (q.add (a.toNat*1))=some (U32 f)/\Br (decide (B7 c=0)) False
 (∃ r,g=some r/\0<=a/\a<(i:Int)/\wpH P (B8t 237 (.pointer (some (r.add (a.toNat*1)))) (U32 (F3 (B7 (B8z (bor .u64 (B7 (b*2^(min ((32:Int)).toNat 64))) (B7 f)) (B7 c)))))) (fun _ p=>Br (decide (B7 c=0)) False
 (j [U (Int.tmod (bor .u64 (B7 (b*2^(min ((32:Int)).toNat 64))) (B7 f)) (B7 c)),I (B3 (a-1))] p/\l [U (Int.tmod (bor .u64 (B7 (b*2^(min ((32:Int)).toNat 64))) (B7 f)) (B7 c)),I (B3 (a-1))] p<l [U b,I a] d)) d))
 (FCall P R6 #[.slice g i k] d (fun v w=>∃ (m:OA) (n o:Nat),v= .slice m n o/\K (.tuple #[.slice m n o,U32 (F3 b)]) w))) h
theorem Yc a b c d(hvc:Yd prog a b c d h K):FCall prog Dg #[.slice a b c,U32 d] h K:=
 C6 bod func224 [.tmp 4,.tmp 5] { loops:=[(4,⟨[7,8],[],[.int .u64 0,.int .i64 0],⟨([7,8]++Lrg 15 24),[]⟩⟩)] } 43 [] [211] [] (by kernel_rfl) hvc
def So(P:Program)(r:OA)(e v:Nat)(f:Int)(h:Heap)(K:VP):Prop:=
 wpH P (B8x 62 (I (B3 ((e:Int)+1))) (I (B3 ((e:Int)+1)))) (fun s t=>∃ (c:OA) (d j:Nat),s= .slice c d j/\∃ (g:LP) (k:LN),g [I 0] t/\
 ∀ a b,g [I a] b->Br (decide (a<(e:Int))) (∃ m,r=some m/\0<=a/\a<(e:Int)/\∃ i,b.cell? (m.add (a.toNat*1))=some (U32 i)/\Br (decide (f<0)) False
 (∃ n,c=some n/\0<=a/\a<(d:Int)/\∃ o,b.cell? (n.add (a.toNat*1))=some (U32 o)/\∃ p,c=some p/\0<=a/\a<(d:Int)/\wpH P (B8t 237 (.pointer (some (p.add (a.toNat*1)))) (U32 (bor .u32 o (F3 (B7 ((B7 i)*2^(min f.toNat 64))))))) (fun _ u=>∃ q,c=some q/\0<=B3 (a+1)/\B3 (a+1)<(d:Int)/\wpH P (B8t 237 (.pointer (some (q.add ((B3 (a+1)).toNat*1)))) (U32 (F3 (B8w (B7 ((B7 i)*2^(min f.toNat 64))) (2^(min ((32:Int)).toNat 64)))))) (fun _ l=>g [I (B3 (a+1))] l/\k [I (B3 (a+1))] l<k [I a] b) u) b))
 (K (.slice c d j) b)) h
theorem Vi a b c d(hvc:So prog a b c d h K):FCall prog Be #[.slice a b c,U d] h K:=
 C6 bod func258 [.tmp 4] { loops:=[(3,⟨[6],[],[.int .i64 0],⟨([6,7]++Lrg 12 28),[]⟩⟩)] } 41 [] [] [] (by kernel_rfl) hvc
def Lf(P:Program)(k:OA)(a:Nat)(u:OA)(v:Nat)(g:Int)(l:Int)(m:Int)(w:Int)(x:Int)(n:LP)(y:Heap):Prop:=
 ∃ (i:LP) (o:LN),i [U (B7 (B8z (bor .u64 (B7 ((B7 l)*2^(min ((32:Int)).toNat 64))) (B7 m)) (B7 w))),U (Int.tmod (bor .u64 (B7 ((B7 l)*2^(min ((32:Int)).toNat 64))) (B7 m)) (B7 x))] y/\
 ∀ b d c,i [U b,U d] c->∃ (j:LP),(Br (decide (b>=(4294967296:Int))) (j [] c)
 (∃ p,k=some p/\0<=B3 ((a:Int)-2)/\B3 ((a:Int)-2)<(a:Int)/\∃ q,c.cell? (p.add ((B3 ((a:Int)-2)).toNat*1))=some (U32 q)/\∃ r,u=some r/\0<=B3 ((B3 (g+(a:Int)))-2)/\B3 ((B3 (g+(a:Int)))-2)<(v:Int)/\∃ s,c.cell? (r.add ((B3 ((B3 (g+(a:Int)))-2)).toNat*1))=some (U32 s)/\Br (decide ((B7 (b*(B7 q)))>(bor .u64 (B7 (d*2^(min ((32:Int)).toNat 64))) (B7 s)))) (j [] c)
 (n [U b] c)))/\
 ∀ e,j [] e->∃ t,k=some t/\0<=B3 ((a:Int)-1)/\B3 ((a:Int)-1)<(a:Int)/\∃ f,e.cell? (t.add ((B3 ((a:Int)-1)).toNat*1))=some (U32 f)/\Br (decide ((B7 (d+(B7 f)))>=(4294967296:Int))) (n [U (B7 (b-1))] e)
 (i [U (B7 (b-1)),U (B7 (d+(B7 f)))] e/\o [U (B7 (b-1)),U (B7 (d+(B7 f)))] e<o [U b,U d] c)
def Lc(P:Program)(t:OA)(c:Nat)(f:OA)(g:Nat)(b:Int)(u:Int)(v:LP)(w:Heap):Prop:=
 ∃ (k:LP) (l:LN),k [U 0,I 0] w/\
 ∀ e a d,k [U e,I a] d->Br (decide (a<(c:Int))) (∃ n,f=some n/\0<=B3 (a+b)/\B3 (a+b)<(g:Int)/\∃ i,d.cell? (n.add ((B3 (a+b)).toNat*1))=some (U32 i)/\∃ o,t=some o/\0<=a/\a<(c:Int)/\∃ j,d.cell? (o.add (a.toNat*1))=some (U32 j)/\∃ p,f=some p/\0<=B3 (a+b)/\B3 (a+b)<(g:Int)/\wpH P (B8t 237 (.pointer (some (p.add ((B3 (a+b)).toNat*1)))) (U32 (F3 (B7 (e+(B7 ((B7 i)+(B7 j)))))))) (fun _ m=>k [U (B8w (B7 (e+(B7 ((B7 i)+(B7 j))))) (2^(min ((32:Int)).toNat 64))),I (B3 (a+1))] m/\l [U (B8w (B7 (e+(B7 ((B7 i)+(B7 j))))) (2^(min ((32:Int)).toNat 64))),I (B3 (a+1))] m<l [U e,I a] d) d)
 (∃ q,f=some q/\0<=B3 (b+(c:Int))/\B3 (b+(c:Int))<(g:Int)/\∃ r,d.cell? (q.add ((B3 (b+(c:Int))).toNat*1))=some (U32 r)/\∃ s,f=some s/\0<=B3 (b+(c:Int))/\B3 (b+(c:Int))<(g:Int)/\wpH P (B8t 237 (.pointer (some (s.add ((B3 (b+(c:Int))).toNat*1)))) (U32 (F3 (r+(F3 e))))) (fun _ x=>v [U (B7 (u-1))] x) d)
def Lh(P:Program)(c:OA)(d:Nat)(a:Int)(e:LP)(f:Int)(g:Heap):Prop:=
 ∃ b,c=some b/\0<=a/\a<(d:Int)/\wpH P (B8t 237 (.pointer (some (b.add (a.toNat*1)))) (U32 (F3 f))) (fun _ i=>e [] i) g
def Ld(P:Program)(p:OA)(c:Nat)(j:OA)(k:Nat)(A:OA)(B:Nat)(a:Int)(C:LP)(e:Int)(D:Heap):Prop:=
 ∃ (m:LP) (q:LN),m [U 0,U 0,I 0] D/\
 ∀ d f b g,m [U d,U f,I b] g->Br (decide (b<(c:Int))) (∃ t,p=some t/\0<=b/\b<(c:Int)/\∃ i,g.cell? (t.add (b.toNat*1))=some (U32 i)/\∃ u,j=some u/\0<=B3 (b+a)/\B3 (b+a)<(k:Int)/\∃ l,g.cell? (u.add ((B3 (b+a)).toNat*1))=some (U32 l)/\∃ v,j=some v/\0<=B3 (b+a)/\B3 (b+a)<(k:Int)/\wpH P (B8t 237 (.pointer (some (v.add ((B3 (b+a)).toNat*1)))) (U32 (F3 (B7 ((B7 ((B7 l)-(Ms .u64 (B7 ((B7 (e*(B7 i)))+d)) (4294967295:Int))))-f))))) (fun _ r=>m [U (B8w (B7 ((B7 (e*(B7 i)))+d)) (2^(min ((32:Int)).toNat 64))),U (Ms .u64 (B8w (B7 ((B7 ((B7 l)-(Ms .u64 (B7 ((B7 (e*(B7 i)))+d)) (4294967295:Int))))-f)) (2^(min ((32:Int)).toNat 64))) (1:Int)),I (B3 (b+1))] r/\q [U (B8w (B7 ((B7 (e*(B7 i)))+d)) (2^(min ((32:Int)).toNat 64))),U (Ms .u64 (B8w (B7 ((B7 ((B7 l)-(Ms .u64 (B7 ((B7 (e*(B7 i)))+d)) (4294967295:Int))))-f)) (2^(min ((32:Int)).toNat 64))) (1:Int)),I (B3 (b+1))] r<q [U d,U f,I b] g) g)
 (∃ w,j=some w/\0<=B3 (a+(c:Int))/\B3 (a+(c:Int))<(k:Int)/\∃ o,g.cell? (w.add ((B3 (a+(c:Int))).toNat*1))=some (U32 o)/\∃ x,j=some x/\0<=B3 (a+(c:Int))/\B3 (a+(c:Int))<(k:Int)/\wpH P (B8t 237 (.pointer (some (x.add ((B3 (a+(c:Int))).toNat*1)))) (U32 (F3 (B7 ((B7 ((B7 o)-d))-f))))) (fun _ s=>∃ (n:LP),(Br ((B8w (B7 ((B7 ((B7 o)-d))-f)) (2^(min ((63:Int)).toNat 64)))==(1:Int)) (Lc P p c j k a e n s)
 (n [U e] s))/\
 ∀ y z,n [U y] z->Lh P A B a C y z) g)
def Sp(P:Program)(a:OA)(b:Nat)(c:OA)(d:Nat)(e:OA)(f:Nat)(g:Int)(i:LP)(j:Int)(k:Heap):Prop:=
 Ld P a b c d e f g i j k
def Sq(P:Program)(d:LP)(b:LN)(a:Int)(e:Heap)(c:Heap):Prop:=
 d [I (B3 (a-1))] c/\b [I (B3 (a-1))] c<b [I a] e
def Gk(P:Program)(K:VP)(f:Int)(y:OA)(z A:Nat)(c:OA)(b B:Nat)(C:Heap):Prop:=
 ∃ (g:LP) (i:LN),g [I 0] C/\
 ∀ a d,g [I a] d->Br (decide (a<(b:Int))) (∃ q,c=some q/\0<=a/\a<(b:Int)/\∃ r,d.cell? (q.add (a.toNat*1))=some (U32 r)/\Br (decide (f<0)) False
 (∃ s,c=some s/\0<=a/\a<(b:Int)/\wpH P (B8t 237 (.pointer (some (s.add (a.toNat*1)))) (U32 (B8w r (2^(min f.toNat 32))))) (fun _ e=>Br (decide ((B3 (a+1))<(b:Int))) (∃ t,c=some t/\0<=a/\a<(b:Int)/\∃ u,e.cell? (t.add (a.toNat*1))=some (U32 u)/\∃ v,c=some v/\0<=B3 (a+1)/\B3 (a+1)<(b:Int)/\∃ w,e.cell? (v.add ((B3 (a+1)).toNat*1))=some (U32 w)/\Br (decide (B7 ((32:Int)-f)<0)) False
 (∃ x,c=some x/\0<=a/\a<(b:Int)/\wpH P (B8t 237 (.pointer (some (x.add (a.toNat*1)))) (U32 (bor .u32 u (F3 (B7 ((B7 w)*2^(min (B7 ((32:Int)-f)).toNat 64))))))) (fun _ p=>g [I (B3 (a+1))] p/\i [I (B3 (a+1))] p<i [I a] d) e))
 (g [I (B3 (a+1))] e/\i [I (B3 (a+1))] e<i [I a] d)) d))
 (FCall P R6 #[.slice y z A] d (fun D E=>∃ (j:OA) (k l:Nat),D= .slice j k l/\FCall P R6 #[.slice c b B] E (fun F G=>∃ (m:OA) (n o:Nat),F= .slice m n o/\K (.tuple #[.slice j k l,.slice m n o]) G)))
def Sr(P:Program)(K:VP)(A:Int)(e:OA)(a:Nat)(d:OA)(f g:Nat)(k:OA)(l B:Nat)(C:LP)(D:LN)(b:Int)(c:Heap):Prop:=
 Br (decide (b>=(0:Int))) (∃ (m:LP),(∃ r,d=some r/\0<=B3 (b+(a:Int))/\B3 (b+(a:Int))<(f:Int)/\∃ s,c.cell? (r.add ((B3 (b+(a:Int))).toNat*1))=some (U32 s)/\∃ t,d=some t/\0<=B3 ((B3 (b+(a:Int)))-1)/\B3 ((B3 (b+(a:Int)))-1)<(f:Int)/\∃ u,c.cell? (t.add ((B3 ((B3 (b+(a:Int)))-1)).toNat*1))=some (U32 u)/\∃ v,e=some v/\0<=B3 ((a:Int)-1)/\B3 ((a:Int)-1)<(a:Int)/\∃ i,c.cell? (v.add ((B3 ((a:Int)-1)).toNat*1))=some (U32 i)/\Br (decide (B7 i=0)) False
 (∃ w,e=some w/\0<=B3 ((a:Int)-1)/\B3 ((a:Int)-1)<(a:Int)/\∃ j,c.cell? (w.add ((B3 ((a:Int)-1)).toNat*1))=some (U32 j)/\Br (decide (B7 j=0)) False
 (∃ (n:LP),(Lf P e a d f b s u i j n c)/\
 ∀ x y,n [U x] y->Sp P e a d f k l b m x y)))/\
 ∀ z,m [] z->Sq P C D b c z)
 ((0<=(a:Int)/\(a:Int)<=(g:Int))/\FCall P R6 #[.slice (I8 d g 0 1) ((((a:Int)).toNat)-0) (g-0)] c (fun E F=>∃ (o:OA) (p q:Nat),E= .slice o p q/\Gk P K A k l B o p q F))
def Lg(P:Program)(K:VP)(f:Int)(g:OA)(b:Nat)(i:OA)(c j:Nat)(k:OA)(l m:Nat)(n:Heap):Prop:=
 ∃ (a:LP) (o:LN),a [I (B3 ((B3 ((c:Int)-(b:Int)))-1))] n/\
 ∀ d e,a [I d] e->Sr P K f g b i c j k l m a o d e
def Ye(P:Program)(u:OA)(v w:Nat)(g:OA)(c x:Nat)(K:VP)(y:Heap):Prop:=
 ∃ (f:LP) (i:LN),f [U 0] y/\
 ∀ a b,f [U a] b->∃ s,g=some s/\0<=B3 ((c:Int)-1)/\B3 ((c:Int)-1)<(c:Int)/\∃ t,b.cell? (s.add ((B3 ((c:Int)-1)).toNat*1))=some (U32 t)/\Br (decide (a<0)) False
 (Br (decide ((F3 (t*2^(min a.toNat 32)))<(2147483648:Int))) (f [U (B7 (a+1))] b/\i [U (B7 (a+1))] b<i [U a] b)
 (FCall P Be #[.slice g c x,U a] b (fun A B=>∃ (j:OA) (k l:Nat),A= .slice j k l/\FCall P R6 #[.slice j k l] B (fun C D=>∃ (m:OA) (d z:Nat),C= .slice m d z/\FCall P Be #[.slice u v w,U a] D (fun E F=>∃ (n:OA) (e o:Nat),E= .slice n e o/\wpH P (B8x 62 (I (B3 ((B3 ((B3 ((e:Int)-(d:Int)))-1))+1))) (I (B3 ((B3 ((B3 ((e:Int)-(d:Int)))-1))+1)))) (fun G H=>∃ (p:OA) (q r:Nat),G= .slice p q r/\Lg P K a m d n e o p q r H) F)))))
def A8a(P:Program)(a:OA)(b c:Nat)(f:OA)(d g:Nat)(h:Heap)(K:VP):Prop:=
 FCall P Oy #[.slice a b c,.slice f d g] h (fun B e=>∃ y,B=I y/\Br (decide (y<(0:Int))) (wpH P (B8v 62 0 #[]) (fun C D=>∃ (i:OA) (j k:Nat),C= .slice i j k/\wpH P (B90 #[62,62] 62 #[.slice i j k,.slice a b c]) (fun E F=>∃ (l:OA) (m n:Nat),E= .slice l m n/\K (.tuple #[.slice none 0 0,.slice l m n]) F) D) e)
 (Br ((d:Int)==(1:Int)) (∃ z,f=some z/\0<=(0:Int)/\(0:Int)<(d:Int)/\∃ A,e.cell? (z.add (((0:Int)).toNat*1))=some (U32 A)/\FCall P Dg #[.slice a b c,U32 A] e (fun G H=>∃ (o:OA) (p q:Nat) (r:Int),G= .tuple #[.slice o p q,U32 r]/\wpH P (B8v 62 1 #[(0,U32 r)]) (fun J L=>∃ (s:OA) (t u:Nat),J= .slice s t u/\FCall P R6 #[.slice s t u] L (fun M N=>∃ (v:OA) (w x:Nat),M= .slice v w x/\K (.tuple #[.slice o p q,.slice v w x]) N)) H))
 (Ye P a b c f d g K e)))
theorem A44 a b c d e f(hvc:A8a prog a b c d e f h K):FCall prog Jd #[.slice a b c,.slice d e f] h K:=
 C6 bod func242 [.tmp 4,.tmp 5] ⟨[(7,⟨[8],[],[.int .u64 0],⟨([8]++Lrg 49 11),[]⟩⟩),(15,⟨[14],[],[.int .i64 0],⟨(Lrg 14 11++Lrg 78 178),[]⟩⟩),(20,⟨[16,17],[],[.int .u64 0,.int .u64 0],⟨([16,17]++Lrg 115 36),[]⟩⟩),(26,⟨[18,19,20],[],[.int .u64 0,.int .u64 0,.int .i64 0],⟨([18,19,20,21,22]++Lrg 151 38),[]⟩⟩),(39,⟨[18,24],[],[.int .u64 0,.int .i64 0],⟨([18,24]++Lrg 212 29),[]⟩⟩),(48,⟨[26],[],[.int .i64 0],⟨([26]++Lrg 260 36),[]⟩⟩)],[(16,⟨[],[],[],⟨(Lrg 15 10++Lrg 82 174),[]⟩⟩),(21,⟨[],[],[],⟨(Lrg 115 24),[]⟩⟩),(24,⟨[16],[],[.int .u64 0],⟨([16,17]++Lrg 115 36),[]⟩⟩),(45,⟨[16],[],[.int .u64 0],⟨([16,18,24]++Lrg 207 44),[]⟩⟩)],[],[],[]⟩ 300 [] [211,224,240,258] [] (by kernel_rfl) hvc
def B2g(P:Program)(d:Bool)(b:OA)(a c:Nat)(h:Heap)(K:VP):Prop:=
 Br d (K (.agg #[.bool (decide ((a:Int)>(0:Int))),.slice b a c]) h)
 (K (.agg #[.bool false,.slice b a c]) h)
theorem A89 a b c d(hvc:B2g prog a b c d h K):FCall prog Y8 #[.bool a,.slice b c d] h K:=
 C6 bod func171 [.cell 4 64] an0 13 [4] [] [] (by kernel_rfl) hvc
def A2m(P:Program)(a:Int)(h:Heap)(K:VP):Prop:=
 ∃ (b:LP),(Br (decide (a<(0:Int))) (b [U (B7 (0-(B7 a)))] h)
 (b [U (B7 a)] h))/\
 ∀ c o,b [U c] o->wpH P (B8v 62 2 #[(0,U32 (F3 c)),(1,U32 (F3 (B8w c (2^(min ((32:Int)).toNat 64)))))]) (fun p q=>∃ (d:OA) (e f:Nat),p= .slice d e f/\FCall P R6 #[.slice d e f] q (fun r s=>∃ (g:OA) (i j:Nat),r= .slice g i j/\FCall P Y8 #[.bool (decide (a<(0:Int))),.slice g i j] s (fun t u=>∃ (k:Bool) (l:OA) (m n:Nat),t= .agg #[.bool k,.slice l m n]/\K (.agg #[.bool k,.slice l m n]) u))) o
theorem A15 a(hvc:A2m prog a h K):FCall prog Kt #[I a] h K:=
 C6 bod func173 [.cell 2 64] { cuts:=[(4,⟨[3],[],[.int .u64 0],⟨[3,6,7,8,9],[]⟩⟩)] } 20 [2] [171,211] [] (by kernel_rfl) hvc
def B63(P:Program)(a:Bool)(c:OA)(b d:Nat)(h:Heap)(K:VP):Prop:=
 Br a (K (I (-1:Int)) h)
 (Br ((b:Int)==(0:Int)) (K (I 0) h)
 (K (I 1) h))
theorem B0w a b c d(hvc:B63 prog a b c d h K):FCall prog A09 #[.agg #[.bool a,.slice b c d]] h K:=
 C6 bod func101 [.tmp 2] an0 11 [1] [] [] (by kernel_rfl) hvc
def B8j(P:Program)(e:Bool)(f:OA)(g i:Nat)(h:Heap)(K:VP):Prop:=
 FCall P Y8 #[.bool (!e),.slice f g i] h (fun j k=>∃ (a:Bool) (b:OA) (c d:Nat),j= .agg #[.bool a,.slice b c d]/\K (.agg #[.bool a,.slice b c d]) k)
theorem B48 a b c d(hvc:B8j prog a b c d h K):FCall prog A24 #[.agg #[.bool a,.slice b c d]] h K:=
 C6 bod func208 [.cell 2 64] an0 9 [1,2] [171] [] (by kernel_rfl) hvc
def A86(P:Program)(b:Bool)(t:OA)(u v:Nat)(w:Bool)(x:OA)(y z:Nat)(h:Heap)(K:VP):Prop:=
 FCall P Jd #[.slice t u v,.slice x y z] h (fun A r=>∃ (c:OA) (d e:Nat) (f:OA) (g i:Nat),A= .tuple #[.slice c d e,.slice f g i]/\FCall P Y8 #[.bool (!(b==w)),.slice c d e] r (fun B a=>∃ (j:Bool) (k:OA) (l m:Nat),B= .agg #[.bool j,.slice k l m]/\Heap.le r a/\FCall P Y8 #[.bool b,.slice f g i] a (fun C s=>∃ (n:Bool) (o:OA) (p q:Nat),C= .agg #[.bool n,.slice o p q]/\Heap.le a s/\K (.tuple #[.agg #[.bool j,.slice k l m],.agg #[.bool n,.slice o p q]]) s)))
theorem A42 a b c d e f g i(hvc:A86 prog a b c d e f g i h K):FCall prog Jc #[.agg #[.bool a,.slice b c d],.agg #[.bool e,.slice f g i]] h K:=
 C6 bod func214 [.cell 4 64,.cell 5 64] { orders:=[(2,([0,1,2,3,4,5,7,8,9,6,10,11,12],[]))] } 27 [2,3,4,5] [171,242] [] (by kernel_rfl) hvc
def B8k(P:Program)(E:Bool)(s:OA)(t u:Nat)(F:Bool)(v:OA)(w x:Nat)(h:Heap)(K:VP):Prop:=
 ∃ (i:LP) (m:LN),i [.slice s t u,.slice v w x] h/\
 ∀ d e f b a c g,i [.slice d e f,.slice b a c] g->Br (decide ((a:Int)>(0:Int))) (FCall P Jd #[.slice d e f,.slice b a c] g (fun B r=>∃ (y:OA) (z A:Nat) (j:OA) (k l:Nat),B= .tuple #[.slice y z A,.slice j k l]/\i [.slice b a c,.slice j k l] r/\m [.slice b a c,.slice j k l] r<m [.slice d e f,.slice b a c] g))
 (FCall P Y8 #[.bool false,.slice d e f] g (fun C D=>∃ (n:Bool) (o:OA) (p q:Nat),C= .agg #[.bool n,.slice o p q]/\K (.agg #[.bool n,.slice o p q]) D))
theorem B49 a b c d e f g i(hvc:B8k prog a b c d e f g i h K):FCall prog A6n #[.agg #[.bool a,.slice b c d],.agg #[.bool e,.slice f g i]] h K:=
 C6 bod func212 [.cell 4 64] { loops:=[(2,⟨[5,6],[],[.slice none 0 0,.slice none 0 0],⟨([5,6,7,8]++Lrg 13 11),[]⟩⟩)] } 26 [2,3,4] [171,242] [] (by kernel_rfl) hvc
def B67(P:Program)(k:Bool)(j:OA)(a l:Nat)(h:Heap)(K:VP):Prop:=
 Br ((a:Int)==(0:Int)) (K (I 0) h)
 (∃ g,j=some g/\0<=B3 ((a:Int)-1)/\B3 ((a:Int)-1)<(a:Int)/\∃ i,h.cell? (g.add ((B3 ((a:Int)-1)).toNat*1))=some (U32 i)/\∃ (e:LP) (f:LN),e [I (B3 ((32:Int)*(B3 ((a:Int)-1)))),U32 i] h/\
 ∀ b c d,e [I b,U32 c] d->Br (decide (c>(0:Int))) (e [I (B3 (b+1)),U32 (B8w c (2^(min ((1:Int)).toNat 32)))] d/\f [I (B3 (b+1)),U32 (B8w c (2^(min ((1:Int)).toNat 32)))] d<f [I b,U32 c] d)
 (K (I b) d))
theorem B10 a b c d(hvc:B67 prog a b c d h K):FCall prog Ug #[.agg #[.bool a,.slice b c d]] h K:=
 C6 bod func213 [.tmp 2] { loops:=[(5,⟨[3,4],[],[.int .i64 0,.int .u32 0],⟨[3,4,22,23,24,25,26,27],[]⟩⟩)] } 29 [1] [] [] (by kernel_rfl) hvc
def A8b(P:Program)(b9:Bool)(a6:OA)(L a7:Nat)(h:Heap)(K:VP):Prop:=
 Br ((L:Int)==(0:Int)) (K (.string ({ data:=#[48] }:ByteArray)) h)
 (∃ (p:LP) (M:LN),p [.slice none 0 0,.slice a6 L a7] h/\
 ∀ j g A B i C k,p [.slice j g A,.slice B i C] k->Br (decide ((i:Int)>(0:Int))) (FCall P Dg #[.slice B i C,U32 (1000000000:Int)] k (fun a8 a9=>∃ (q:OA) (r s:Nat) (N:Int),a8= .tuple #[.slice q r s,U32 N]/\wpH P (B8v 62 1 #[(0,U32 N)]) (fun b0 b1=>∃ (O:OA) (Q R:Nat),b0= .slice O Q R/\wpH P (B90 #[62,62] 62 #[.slice j g A,.slice O Q R]) (fun b2 a3=>∃ (t:OA) (u v:Nat),b2= .slice t u v/\p [.slice t u v,.slice q r s] a3/\M [.slice t u v,.slice q r s] a3<M [.slice j g A,.slice B i C] k) b1) a9))
 (∃ (w:LP) (S:LN),w [.slice none 0 0,I (B3 ((g:Int)-1))] k/\
 ∀ l m n a o,w [.slice l m n,I a] o->Br (decide (a>=(0:Int))) (∃ (x:LP) (T:LN),x [.slice l m n,U32 (100000000:Int)] o/\
 ∀ e c f b d,x [.slice e c f,U32 b] d->Br (decide (b>(0:Int))) (∃ (y:LP),(∃ a4,j=some a4/\0<=a/\a<(g:Int)/\∃ D,d.cell? (a4.add (a.toNat*1))=some (U32 D)/\Br (decide (b=0)) False
 (∃ (z:LP),(Br (decide ((c:Int)>(0:Int))) (z [.bool true] d)
 (z [.bool ((wu8 (F3 ((48:Int)+(Int.tmod (F3 (B8z D b)) (10:Int))))) != (48:Int))] d))/\
 ∀ a5 E,z [.bool a5] E->Br a5 (wpH P (B8v 199 1 #[(0,Y (wu8 (F3 ((48:Int)+(Int.tmod (F3 (B8z D b)) (10:Int))))))]) (fun b3 b4=>∃ (V:OA) (W X:Nat),b3= .slice V W X/\wpH P (B90 #[199,199] 199 #[.slice e c f,.slice V W X]) (fun b5 b6=>∃ (Z:OA) (a0 a1:Nat),b5= .slice Z a0 a1/\y [.slice Z a0 a1] b6) b4) E)
 (y [.slice e c f] E)))/\
 ∀ F G H J,y [.slice F G H] J->x [.slice F G H,U32 (F3 (B8z b (10:Int)))] J/\T [.slice F G H,U32 (F3 (B8z b (10:Int)))] J<T [.slice e c f,U32 b] d)
 (w [.slice e c f,I (B3 (a-1))] d/\S [.slice e c f,I (B3 (a-1))] d<S [.slice l m n,I a] o))
 (wpH P (convert 199 9 (.slice l m n)) (fun b7 b8=>∃ (a2:ByteArray),b7= .string a2/\K (.string a2) b8) o)))
theorem A45 a b c d(hvc:A8b prog a b c d h K):FCall prog Je #[.agg #[.bool a,.slice b c d]] h K:=
 C6 bod func188 [.tmp 2] ⟨[(5,⟨[3,4],[],[.slice none 0 0,.slice none 0 0],⟨([3,4,5,6]++Lrg 17 13),[]⟩⟩),(11,⟨[7,8],[],[.slice none 0 0,.int .i64 0],⟨([7,8,9,10]++Lrg 33 28),[]⟩⟩),(14,⟨[7,9],[],[.slice none 0 0,.int .u32 0],⟨([7,9,10]++Lrg 37 24),[]⟩⟩)],[(15,⟨[7],[],[.slice none 0 0],⟨([7,10]++Lrg 41 20),[]⟩⟩),(18,⟨[56],[],[.bool false],⟨[50,51,52,53,54,55,56],[]⟩⟩)],[],[],[]⟩ 63 [1] [224] [] (by kernel_rfl) hvc
def Qk(P:Program)(c:ByteArray)(h:Heap)(K:VP):Prop:=
 ∃ (q:LP) (G:LN),q [.slice none 0 0,I 0,.bool false,.slice none 0 0] h/\
 ∀ l m n o x y z A p,q [.slice l m n,I o,.bool x,.slice y z A] p->Br (decide (o<((B8u c:Nat):Int))) (∃ (r:LP),(∃ (s:LP) (H:LN),s [I o,U32 (0:Int),U32 (1:Int),I 0,.bool x,.slice y z A] p/\
 ∀ a d e k f g i j b,s [I a,U32 d,U32 e,I k,.bool f,.slice g i j] b->Br (decide (k<(9:Int))) (Br (decide (a<((B8u c:Nat):Int))) (∃ (J:UInt8),(0<=a/\(c)[a.toNat]? = some J)/\Br (decide (((J.toNat:Nat):Int)<(48:Int))) (K (.tuple #[.agg #[.bool false,.slice none 0 0],.bool false]) b)
 (∃ (L:UInt8),(0<=a/\(c)[a.toNat]? = some L)/\Br (decide (((L.toNat:Nat):Int)>(57:Int))) (K (.tuple #[.agg #[.bool false,.slice none 0 0],.bool false]) b)
 (∃ (t:UInt8),(0<=a/\(c)[a.toNat]? = some t)/\s [I (B3 (a+1)),U32 (F3 ((F3 (d*(10:Int)))+(F3 (wu8 (((t.toNat:Nat):Int)-48))))),U32 (F3 (e*(10:Int))),I (B3 (k+1)),.bool f,.slice g i j] b/\H [I (B3 (a+1)),U32 (F3 ((F3 (d*(10:Int)))+(F3 (wu8 (((t.toNat:Nat):Int)-48))))),U32 (F3 (e*(10:Int))),I (B3 (k+1)),.bool f,.slice g i j] b<H [I a,U32 d,U32 e,I k,.bool f,.slice g i j] b)))
 (r [I a,U32 d,U32 e,.bool f,.slice g i j] b))
 (r [I a,U32 d,U32 e,.bool f,.slice g i j] b))/\
 ∀ B a6 a7 C D E F a8,r [I B,U32 a6,U32 a7,.bool C,.slice D E F] a8->wpH P (B8v 62 1 #[(0,U32 a7)]) (fun a9 b0=>∃ (M:OA) (N O:Nat),a9= .slice M N O/\FCall P Ox #[.slice l m n,.slice M N O] b0 (fun b1 b2=>∃ (Q:OA) (R S:Nat),b1= .slice Q R S/\wpH P (B8v 62 1 #[(0,U32 a6)]) (fun b3 b4=>∃ (T:OA) (V W:Nat),b3= .slice T V W/\FCall P R6 #[.slice T V W] b4 (fun b5 b6=>∃ (X:OA) (Z a0:Nat),b5= .slice X Z a0/\FCall P Oz #[.slice Q R S,.slice X Z a0] b6 (fun b7 a5=>∃ (u:OA) (v w:Nat),b7= .slice u v w/\q [.slice u v w,I B,.bool C,.slice D E F] a5/\G [.slice u v w,I B,.bool C,.slice D E F] a5<G [.slice l m n,I o,.bool x,.slice y z A] p))) b2)) a8)
 (FCall P Y8 #[.bool false,.slice l m n] p (fun b8 b9=>∃ (a1:Bool) (a2:OA) (a3 a4:Nat),b8= .agg #[.bool a1,.slice a2 a3 a4]/\K (.tuple #[.agg #[.bool a1,.slice a2 a3 a4],.bool (!(B8y c==B8y ({ data:=#[] }:ByteArray)))]) b9))
theorem Rg a(hvc:Qk prog a h K):FCall prog Y9 #[.string a] h K:=
 C6 bod func170 [.cell 2 64,.tmp 3] ⟨[(3,⟨[4,5],[(2,2)],[.slice none 0 0,.int .i64 0,.bool false,.slice none 0 0],⟨(Lrg 3 51),[2]⟩⟩),(6,⟨[5,6,7,8],[(2,2)],[.int .i64 0,.int .u32 0,.int .u32 0,.int .i64 0,.bool false,.slice none 0 0],⟨([3,5,6,7,8]++Lrg 13 33),[2]⟩⟩)],[(12,⟨[5,6,7],[(2,2)],[.int .i64 0,.int .u32 0,.int .u32 0,.bool false,.slice none 0 0],⟨([3,5,6,7,8]++Lrg 13 33),[2]⟩⟩)],[],[],[]⟩ 58 [2] [171,209,210,211] [] (by kernel_rfl) hvc
def B66(P:Program)(w:Bool)(x:OA)(y z:Nat)(n:Bool)(A:OA)(B C:Nat)(h:Heap)(K:VP):Prop:=
 ∃ (o:LP),(Br n (FCall P A24 #[.agg #[.bool w,.slice x y z]] h (fun c2 r=>∃ (D:Bool) (E:OA) (F G:Nat),c2= .agg #[.bool D,.slice E F G]/\Heap.le h r/\FCall P A24 #[.agg #[.bool n,.slice A B C]] r (fun c3 X=>∃ (H:Bool) (J:OA) (L M:Nat),c3= .agg #[.bool H,.slice J L M]/\Heap.le r X/\o [.bool D,.slice E F G,.bool H,.slice J L M] X)))
 (o [.bool w,.slice x y z,.bool n,.slice A B C] h))/\
 ∀ e f g i j k l m a1,o [.bool e,.slice f g i,.bool j,.slice k l m] a1->FCall P A6n #[.agg #[.bool e,.slice f g i],.agg #[.bool j,.slice k l m]] a1 (fun c4 c5=>∃ (a:Bool) (b:OA) (c d:Nat),c4= .agg #[.bool a,.slice b c d]/\∃ (p:LP),(FCall P Ug #[.agg #[.bool a,.slice b c d]] c5 (fun c6 Z=>∃ a2,c6=I a2/\Br (decide (a2>(1:Int))) (FCall P Jc #[.agg #[.bool e,.slice f g i],.agg #[.bool a,.slice b c d]] Z (fun c7 c8=>∃ (N:Bool) (O:OA) (Q R:Nat) (b4:Bool) (b5:OA) (b6 b7:Nat),c7= .tuple #[.agg #[.bool N,.slice O Q R],.agg #[.bool b4,.slice b5 b6 b7]]/\FCall P Jc #[.agg #[.bool j,.slice k l m],.agg #[.bool a,.slice b c d]] c8 (fun c9 d0=>∃ (S:Bool) (T:OA) (V W:Nat) (b8:Bool) (b9:OA) (c0 c1:Nat),c9= .tuple #[.agg #[.bool S,.slice T V W],.agg #[.bool b8,.slice b9 c0 c1]]/\p [.bool N,.slice O Q R,.bool S,.slice T V W] d0)))
 (p [.bool e,.slice f g i,.bool j,.slice k l m] Z)))/\
 ∀ a3 a4 a5 a6 s t u v a7,p [.bool a3,.slice a4 a5 a6,.bool s,.slice t u v] a7->∃ (q:LP),(FCall P Ug #[.agg #[.bool s,.slice t u v]] a7 (fun d1 a0=>∃ a8,d1=I a8/\Br (a8==(1:Int)) (q [.bool false,.slice none 0 0] a0)
 (q [.bool s,.slice t u v] a0)))/\
 ∀ a9 b0 b1 b2 b3,q [.bool a9,.slice b0 b1 b2] b3->K (.agg #[.bool a3,.slice a4 a5 a6,.bool a9,.slice b0 b1 b2]) b3)
theorem B0z a b c d e f g i(hvc:B66 prog a b c d e f g i h K):FCall prog A0c #[.agg #[.bool a,.slice b c d],.agg #[.bool e,.slice f g i]] h K:=
 C6 bod func172 [.cell 4 66] ⟨[],[(3,⟨[],[(2,2),(3,2)],[.bool false,.slice none 0 0,.bool false,.slice none 0 0],⟨[6,7,8,9,10,11],[2,3]⟩⟩),(7,⟨[],[(2,2),(3,2)],[.bool false,.slice none 0 0,.bool false,.slice none 0 0],⟨(Lrg 15 15),[2,3]⟩⟩),(9,⟨[],[(3,2)],[.bool false,.slice none 0 0],⟨[30,31,32,33],[3]⟩⟩)],[(2,([0,2,1,3,4,5],[]))],[],[]⟩ 37 [2,3,4,5] [208,212,213,214] [] (by kernel_rfl) hvc
def NR(P:Program)(e:Int)(h:Heap)(K:VP):Prop:=
 FCall P Kt #[I e] h (fun f g=>∃ (a:Bool) (b:OA) (c d:Nat),f= .agg #[.bool a,.slice b c d]/\K (.agg #[.bool a,.slice b c d,.bool false,.slice none 0 0]) g)
theorem B7l a(hvc:NR prog a h K):FCall prog B7f #[I a] h K:=
 C6 bod func109 [.cell 2 66] an0 6 [2] [173] [] (by kernel_rfl) hvc
def B62(P:Program)(f:Bool)(j:OA)(k l:Nat)(m:Bool)(n:OA)(g o:Nat)(h:Heap)(K:VP):Prop:=
 FCall P Je #[.agg #[.bool f,.slice j k l]] h (fun p i=>∃ (a:ByteArray),p= .string a/\∃ (d:LP),(Br f (((B8u ({ data:=#[45] }:ByteArray)+B8u a:Nat):Int)<=9223372036854775807/\d [.string (({ data:=#[45] }:ByteArray)++a)] i)
 (d [.string a] i))/\
 ∀ c e,d [.string c] e->Br (decide ((g:Int)>(0:Int))) (FCall P Je #[.agg #[.bool m,.slice n g o]] e (fun q r=>∃ (b:ByteArray),q= .string b/\((B8u ({ data:=#[47] }:ByteArray)+B8u b:Nat):Int)<=9223372036854775807/\((B8u c+B8u (({ data:=#[47] }:ByteArray)++b):Nat):Int)<=9223372036854775807/\K (.string (c++(({ data:=#[47] }:ByteArray)++b))) r))
 (K (.string c) e))
theorem B0v a b c d e f g i(hvc:B62 prog a b c d e f g i h K):FCall prog Ks #[.agg #[.bool a,.slice b c d,.bool e,.slice f g i]] h K:=
 C6 bod func131 [.tmp 2] { cuts:=[(4,⟨[3],[],[.string ⟨#[]⟩],⟨[3,7,8,9,10,11],[]⟩⟩)] } 24 [1] [188] [] (by kernel_rfl) hvc
def B64(P:Program)(b:ByteArray)(h:Heap)(K:VP):Prop:=
 ∃ (l:LP),(Br (decide (((B8u b:Nat):Int)>(0:Int))) (∃ (E:UInt8),(0<=(0:Int)/\(b)[((0:Int)).toNat]? = some E)/\l [.bool (((E.toNat:Nat):Int)==(45:Int))] h)
 (l [.bool false] h))/\
 ∀ C D,l [.bool C] D->∃ (m:LP),(Br C ((0<=(1:Int)/\(1:Int)<=(((b).size:Nat):Int))/\m [.string ((b).extract (((1:Int)).toNat) ((b).size))] D)
 (m [.string b] D))/\
 ∀ a Z,m [.string a] Z->∃ (n:LP),(∃ (o:LP) (F:LN),o [I ((B8u a:Nat):Int),I 0] Z/\
 ∀ f c e,o [I f,I c] e->Br (decide (c<((B8u a:Nat):Int))) (∃ (G:UInt8),(0<=c/\(a)[c.toNat]? = some G)/\Br (((G.toNat:Nat):Int)==(47:Int)) (n [I c] e)
 (o [I f,I (B3 (c+1))] e/\F [I f,I (B3 (c+1))] e<F [I f,I c] e))
 (n [I f] e))/\
 ∀ d a0,n [I d] a0->(0<=d/\d<=(((a).size:Nat):Int))/\FCall P Y9 #[.string ((a).extract 0 (d.toNat))] a0 (fun a3 R=>∃ (a2:Bool) (H:OA) (J L:Nat) (M:Bool),a3= .tuple #[.agg #[.bool a2,.slice H J L],.bool M]/\Br (!M) (K (.tuple #[.agg #[.bool false,.slice none 0 0,.bool false,.slice none 0 0],.bool false]) R)
 (FCall P Y8 #[.bool C,.slice H J L] R (fun a4 B=>∃ (g:Bool) (i:OA) (j k:Nat),a4= .agg #[.bool g,.slice i j k]/\Br (decide (d<((B8u a:Nat):Int))) ((0<=B3 (d+1)/\B3 (d+1)<=(((a).size:Nat):Int))/\FCall P Y9 #[.string ((a).extract ((B3 (d+1)).toNat) ((a).size))] B (fun a5 S=>∃ (p:Bool) (q:OA) (r s:Nat) (N:Bool),a5= .tuple #[.agg #[.bool p,.slice q r s],.bool N]/\Br (!N) (K (.tuple #[.agg #[.bool false,.slice none 0 0,.bool false,.slice none 0 0],.bool false]) S)
 (FCall P A09 #[.agg #[.bool p,.slice q r s]] S (fun a6 T=>∃ a1,a6=I a1/\Br (a1==(0:Int)) (K (.tuple #[.agg #[.bool false,.slice none 0 0,.bool false,.slice none 0 0],.bool false]) T)
 (FCall P A0c #[.agg #[.bool g,.slice i j k],.agg #[.bool p,.slice q r s]] T (fun a7 V=>∃ (t:Bool) (u:OA) (v w:Nat) (x:Bool) (y:OA) (z A:Nat),a7= .agg #[.bool t,.slice u v w,.bool x,.slice y z A]/\FCall P Ks #[.agg #[.bool t,.slice u v w,.bool x,.slice y z A]] V (fun a8 W=>∃ (O:ByteArray),a8= .string O/\Heap.le V W/\K (.tuple #[.agg #[.bool t,.slice u v w,.bool x,.slice y z A],.bool (B8y O==B8y b)]) W)))))))
 (FCall P Ks #[.agg #[.bool g,.slice i j k,.bool false,.slice none 0 0]] B (fun a9 X=>∃ (Q:ByteArray),a9= .string Q/\Heap.le B X/\K (.tuple #[.agg #[.bool g,.slice i j k,.bool false,.slice none 0 0],.bool (B8y Q==B8y b)]) X)))))
theorem B0x a(hvc:B64 prog a h K):FCall prog A0a #[.string a] h K:=
 C6 bod func100 [.cell 2 66,.tmp 3] ⟨[(7,⟨[6,7],[],[.int .i64 0,.int .i64 0],⟨([6,7]++Lrg 27 11),[]⟩⟩)],[(3,⟨[5],[],[.bool false],⟨([5]++Lrg 14 8),[]⟩⟩),(5,⟨[4],[],[.string ⟨#[]⟩],⟨[4,22,23,24],[]⟩⟩),(11,⟨[6],[],[.int .i64 0],⟨([6,7]++Lrg 27 11),[]⟩⟩)],[(20,([0,1,3,2,4,5,6],[]))],[],[]⟩ 82 [2,8,10,11] [101,131,170,171,172] [] (by kernel_rfl) hvc
def B65(P:Program)(x:OA)(c B:Nat)(h:Heap)(K:VP):Prop:=
 wpH P (B8x 58 (I (c:Int)) (I (c:Int))) (fun y z=>∃ (d:OA) (e g:Nat),y= .slice d e g/\∃ (f:LP) (i:LN),f [I 0] z/\
 ∀ a b,f [I a] b->Br (decide (a<(c:Int))) (∃ v,x=some v/\0<=a/\a<(c:Int)/\∃ (j:ByteArray),b.cell? (v.add (a.toNat*1))=some (.string j)/\FCall P A0a #[.string j] b (fun A t=>∃ (k:Bool) (l:OA) (m n:Nat) (o:Bool) (p:OA) (q r:Nat) (s:Bool),A= .tuple #[.agg #[.bool k,.slice l m n,.bool o,.slice p q r],.bool s]/\Br (!s) (K (.tuple #[.slice none 0 0,.bool false]) t)
 (∃ w,d=some w/\0<=a/\a<(e:Int)/\wpH P (B8t 66 (.pointer (some (w.add (a.toNat*4)))) (.agg #[.bool k,.slice l m n,.bool o,.slice p q r])) (fun _ u=>f [I (B3 (a+1))] u/\i [I (B3 (a+1))] u<i [I a] b) t)))
 (K (.tuple #[.slice d e g,.bool true]) b)) h
theorem B0y a b c(hvc:B65 prog a b c h K):FCall prog A0b #[.slice a b c] h K:=
 C6 bod func38 [.tmp 2,.tmp 3] { loops:=[(3,⟨[5],[],[.int .i64 0],⟨([2,3,5,6,7]++Lrg 11 20),[6]⟩⟩)] } 32 [6] [100] [] (by kernel_rfl) hvc
def B2f(P:Program)(v:OA)(d A:Nat)(h:Heap)(K:VP):Prop:=
 wpH P (B8x 23 (I (d:Int)) (I (d:Int))) (fun w x=>∃ (e:OA) (f i:Nat),w= .slice e f i/\∃ (g:LP) (j:LN),g [I 0] x/\
 ∀ a b,g [I a] b->Br (decide (a<(d:Int))) (∃ c,v=some c/\0<=a/\a<(d:Int)/\∃ (k:Bool) (l:OA) (m n:Nat) (o:Bool) (p:OA) (q r:Nat),b.cell? (Addr.add (c.add (a.toNat*4)) 0)=some (.bool k)/\b.cell? (Addr.add (c.add (a.toNat*4)) 1)=some (.slice l m n)/\b.cell? (Addr.add (c.add (a.toNat*4)) 2)=some (.bool o)/\b.cell? (Addr.add (c.add (a.toNat*4)) 3)=some (.slice p q r)/\FCall P Ks #[.agg #[.bool k,.slice l m n,.bool o,.slice p q r]] b (fun y z=>∃ (s:ByteArray),y= .string s/\∃ u,e=some u/\0<=a/\a<(f:Int)/\wpH P (B8t 9 (.pointer (some (u.add (a.toNat*1)))) (.string s)) (fun _ t=>g [I (B3 (a+1))] t/\j [I (B3 (a+1))] t<j [I a] b) z))
 (K (.slice e f i) b)) h
theorem A85 a b c(hvc:B2f prog a b c h K):FCall prog Uf #[.slice a b c] h K:=
 C6 bod func123 [.tmp 2] { loops:=[(3,⟨[4],[],[.int .i64 0],⟨([4]++Lrg 8 14),[]⟩⟩)] } 23 [] [131] [] (by kernel_rfl) hvc
end Go.Proofs.YtajkakhfcokljaaGreatDoor
