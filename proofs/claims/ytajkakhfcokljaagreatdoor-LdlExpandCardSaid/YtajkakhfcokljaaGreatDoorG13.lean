/-
  Texts of this proof, merged by a program of ours.
-/
import Derived.Test.YtajkakhfcokljaaGreatDoorProg
import Derived.Test.YtajkakhfcokljaaGreatDoorG05
import Derived.Test.YtajkakhfcokljaaGreatDoorG06
open Go.Proofs.Tryz
set_option linter.all false
open _root_.Go.Builtin renaming append_->C3b
open _root_.ByteArray renaming size->C35,toList->C39
open _root_.Go.Instr renaming storeAt->C34,makeSlice->C37,buildSlice->C38
open Int renaming fdiv->C36,tdiv->C3a
namespace Go.Proofs.YtajkakhfcokljaaGreatDoor
open Go
set_option maxRecDepth 100000
variable {h:Heap} {K:VP}
abbrev R4:Nat:=211
abbrev Kz:Nat:=240
abbrev La:Nat:=209
abbrev Ku:Nat:=241
abbrev Kw:Nat:=210
abbrev Ed:Nat:=224
abbrev Bu:Nat:=258
abbrev Kx:Nat:=242
abbrev Q6:Nat:=171
abbrev Ht:Nat:=173
abbrev Xo:Nat:=101
abbrev A0o:Nat:=208
abbrev A4q:Nat:=207
abbrev Ot:Nat:=174
abbrev Kv:Nat:=214
abbrev A92:Nat:=212
abbrev Xt:Nat:=213
abbrev Ky:Nat:=188
abbrev An:Nat:=170
abbrev Gc:Nat:=175
abbrev Rw:Nat:=172
abbrev C16:Nat:=109
abbrev Ee:Nat:=39
abbrev A31:Nat:=164
abbrev Xr:Nat:=163
abbrev A30:Nat:=94
abbrev Xq:Nat:=110
abbrev C15:Nat:=169
abbrev A32:Nat:=108
abbrev Nk:Nat:=131
abbrev Xp:Nat:=100
abbrev A91:Nat:=91
abbrev Xs:Nat:=38
abbrev Xn:Nat:=123
abbrev A7c:Nat:=9
abbrev A3w:Nat:=62
abbrev C4:Nat:=237
theorem Mo:SliceT prog A3w C4 (U32 (0:Int)) 1 4:=⟨by kernel_rfl,by kernel_rfl,rfl,by decide⟩
theorem J6:prog.cellsOf C4=1/\(prog.info? C4).isSome=true:=⟨by kernel_rfl,by kernel_rfl⟩
abbrev Fk:Nat:=199
abbrev F5:Nat:=5
theorem Et:SliceT prog Fk F5 (Y (0:Int)) 1 1:=⟨by kernel_rfl,by kernel_rfl,rfl,by decide⟩
theorem A5l:prog.cellsOf F5=1/\(prog.info? F5).isSome=true:=⟨by kernel_rfl,by kernel_rfl⟩
abbrev B1v:Nat:=58
abbrev T6:Nat:=66
theorem B89:SliceT prog B1v T6 (.agg #[.bool false,.slice none 0 0,.bool false,.slice none 0 0]) 4 64:=⟨by kernel_rfl,by kernel_rfl,rfl,by decide⟩
theorem Zx:prog.cellsOf T6=4/\(prog.info? T6).isSome=true:=⟨by kernel_rfl,by kernel_rfl⟩
abbrev In:Nat:=23
abbrev K7:Nat:=9
theorem Ag:SliceT prog In K7 (.string ({ data:=#[] }:ByteArray)) 1 16:=⟨by kernel_rfl,by kernel_rfl,rfl,by decide⟩
theorem Oh:prog.cellsOf K7=1/\(prog.info? K7).isSome=true:=⟨by kernel_rfl,by kernel_rfl⟩
def B9l(P:Program)(j:OA)(k l:Nat)(h:Heap)(K:VP):Prop:=
 ∃ (e:LP) (f:LN),e [.slice j k l] h/\
 ∀ c a b d,e [.slice c a b] d->Br (decide ((a:Int)>(0:Int))) (∃ g,c=some g/\0<=B5 ((a:Int)-1)/\B5 ((a:Int)-1)<(a:Int)/\∃ i,d.cell? (g.add ((B5 ((a:Int)-1)).toNat*1))=some (U32 i)/\Br (i==(0:Int)) ((0<=B5 ((a:Int)-1)/\B5 ((a:Int)-1)<=(b:Int))/\e [.slice (K0 c b 0 1) (((B5 ((a:Int)-1)).toNat)-0) (b-0)] d/\f [.slice (K0 c b 0 1) (((B5 ((a:Int)-1)).toNat)-0) (b-0)] d<f [.slice c a b] d)
 (K (.slice c a b) d))
 (K (.slice c a b) d)
theorem B3k a b c(hvc:B9l prog a b c h K):FCall prog R4 #[.slice a b c] h K:=
 C8 bod func211 [.tmp 2] { loops:=[(1,⟨[0],[],[.slice none 0 0],⟨([0]++Lrg 3 17),[]⟩⟩)] } 21 [] [] [] (by kernel_rfl) hvc
def B10(P:Program)(f:OA)(c r:Nat)(g:OA)(d s:Nat)(h:Heap)(K:VP):Prop:=
 Br ((c:Int) != (d:Int)) (Br (decide ((c:Int)<(d:Int))) (K (I (-1:Int)) h)
 (K (I 1) h))
 (∃ (e:LP) (i:LN),e [I (B5 ((c:Int)-1))] h/\
 ∀ a b,e [I a] b->Br (decide (a>=(0:Int))) (∃ j,f=some j/\0<=a/\a<(c:Int)/\∃ k,b.cell? (j.add (a.toNat*1))=some (U32 k)/\∃ l,g=some l/\0<=a/\a<(d:Int)/\∃ m,b.cell? (l.add (a.toNat*1))=some (U32 m)/\Br (k != m) (∃ n,f=some n/\0<=a/\a<(c:Int)/\∃ o,b.cell? (n.add (a.toNat*1))=some (U32 o)/\∃ p,g=some p/\0<=a/\a<(d:Int)/\∃ q,b.cell? (p.add (a.toNat*1))=some (U32 q)/\Br (decide (o<q)) (K (I (-1:Int)) b)
 (K (I 1) b))
 (e [I (B5 (a-1))] b/\i [I (B5 (a-1))] b<i [I a] b))
 (K (I 0) b))
theorem A6t a b c d e f(hvc:B10 prog a b c d e f h K):FCall prog Kz #[.slice a b c,.slice d e f] h K:=
 C8 bod func240 [.tmp 4] { loops:=[(6,⟨[5],[],[.int .i64 0],⟨([4,5]++Lrg 19 22),[]⟩⟩)] } 41 [] [] [] (by kernel_rfl) hvc
def B11(P:Program)(p:OA)(i q:Nat)(r:OA)(j s:Nat)(h:Heap)(K:VP):Prop:=
 ∃ (k:LP),(Br (decide ((i:Int)<(j:Int))) (k [.slice r j s,.slice p i q] h)
 (k [.slice p i q,.slice r j s] h))/\
 ∀ z b Q A n R B,k [.slice z b Q,.slice A n R] B->wpH P (C37 62 (I (B5 ((b:Int)+1))) (I (B5 ((b:Int)+1)))) (fun J L=>∃ (e:OA) (f t:Nat),J= .slice e f t/\∃ (l:LP) (u:LN),l [U 0,I 0] L/\
 ∀ d a c,l [U d,I a] c->Br (decide (a<(b:Int))) (∃ C,z=some C/\0<=a/\a<(b:Int)/\∃ o,c.cell? (C.add (a.toNat*1))=some (U32 o)/\∃ (m:LP),(Br (decide (a<(n:Int))) (∃ D,A=some D/\0<=a/\a<(n:Int)/\∃ E,c.cell? (D.add (a.toNat*1))=some (U32 E)/\m [U (C0 ((C0 (d+(C0 o)))+(C0 E)))] c)
 (m [U (C0 (d+(C0 o)))] c))/\
 ∀ g F,m [U g] F->∃ G,e=some G/\0<=a/\a<(f:Int)/\wpH P (C34 237 (.pointer (some (G.add (a.toNat*1)))) (U32 (F4 g))) (fun _ y=>l [U (C36 g (2^(min ((32:Int)).toNat 64))),I (B5 (a+1))] y/\u [U (C36 g (2^(min ((32:Int)).toNat 64))),I (B5 (a+1))] y<u [U d,I a] c) F)
 (∃ H,e=some H/\0<=(b:Int)/\(b:Int)<(f:Int)/\wpH P (C34 237 (.pointer (some (H.add (((b:Int)).toNat*1)))) (U32 (F4 d))) (fun _ M=>FCall P R4 #[.slice e f t] M (fun N O=>∃ (v:OA) (w x:Nat),N= .slice v w x/\K (.slice v w x) O)) c)) B
theorem A6u a b c d e f(hvc:B11 prog a b c d e f h K):FCall prog La #[.slice a b c,.slice d e f] h K:=
 C8 bod func209 [.tmp 4] ⟨[(6,⟨[6,7],[],[.int .u64 0,.int .i64 0],⟨([6,7]++Lrg 19 31),[]⟩⟩)],[(3,⟨[0,1],[],[.slice none 0 0,.slice none 0 0],⟨[0,1,8,9,10,11,12,13,14],[]⟩⟩),(11,⟨[6],[],[.int .u64 0],⟨([6]++Lrg 32 11),[]⟩⟩)],[],[],[]⟩ 58 [] [211] [] (by kernel_rfl) hvc
def B0s(P:Program)(x:OA)(c D:Nat)(y:OA)(l E:Nat)(h:Heap)(K:VP):Prop:=
 wpH P (C37 62 (I (c:Int)) (I (c:Int))) (fun z A=>∃ (f:OA) (g m:Nat),z= .slice f g m/\∃ (i:LP) (n:LN),i [U 0,I 0] A/\
 ∀ d a b,i [U d,I a] b->Br (decide (a<(c:Int))) (∃ s,x=some s/\0<=a/\a<(c:Int)/\∃ k,b.cell? (s.add (a.toNat*1))=some (U32 k)/\∃ (j:LP),(Br (decide (a<(l:Int))) (∃ t,y=some t/\0<=a/\a<(l:Int)/\∃ u,b.cell? (t.add (a.toNat*1))=some (U32 u)/\j [U (C0 ((C0 ((C0 k)-d))-(C0 u)))] b)
 (j [U (C0 ((C0 k)-d))] b))/\
 ∀ e v,j [U e] v->∃ w,f=some w/\0<=a/\a<(g:Int)/\wpH P (C34 237 (.pointer (some (w.add (a.toNat*1)))) (U32 (F4 e))) (fun _ r=>i [U (Nr .u64 (C36 e (2^(min ((32:Int)).toNat 64))) (1:Int)),I (B5 (a+1))] r/\n [U (Nr .u64 (C36 e (2^(min ((32:Int)).toNat 64))) (1:Int)),I (B5 (a+1))] r<n [U d,I a] b) v)
 (FCall P R4 #[.slice f g m] b (fun B C=>∃ (o:OA) (p q:Nat),B= .slice o p q/\K (.slice o p q) C))) h
theorem A6o a b c d e f(hvc:B0s prog a b c d e f h K):FCall prog Ku #[.slice a b c,.slice d e f] h K:=
 C8 bod func241 [.tmp 4] ⟨[(4,⟨[6,7],[],[.int .u64 0,.int .i64 0],⟨([6,7,8]++Lrg 12 32),[]⟩⟩)],[(9,⟨[8],[],[.int .u64 0],⟨([8]++Lrg 25 11),[]⟩⟩)],[],[],[]⟩ 46 [] [211] [] (by kernel_rfl) hvc
def B0v(P:Program)(w:OA)(x:Nat)(y:OA)(e:Nat)(j:OA)(k:Nat)(z:LP)(m:LN)(a:Int)(n:Heap):Prop:=
 ∃ (l:LP) (o:LN),l [U 0,I 0] n/\
 ∀ d b c,l [U d,I b] c->Br (decide (b<(e:Int))) (∃ r,w=some r/\0<=a/\a<(x:Int)/\∃ f,c.cell? (r.add (a.toNat*1))=some (U32 f)/\∃ s,y=some s/\0<=b/\b<(e:Int)/\∃ g,c.cell? (s.add (b.toNat*1))=some (U32 g)/\∃ t,j=some t/\0<=B5 (a+b)/\B5 (a+b)<(k:Int)/\∃ i,c.cell? (t.add ((B5 (a+b)).toNat*1))=some (U32 i)/\∃ u,j=some u/\0<=B5 (a+b)/\B5 (a+b)<(k:Int)/\wpH P (C34 237 (.pointer (some (u.add ((B5 (a+b)).toNat*1)))) (U32 (F4 (C0 (d+(C0 ((C0 ((C0 f)*(C0 g)))+(C0 i)))))))) (fun _ p=>l [U (C36 (C0 (d+(C0 ((C0 ((C0 f)*(C0 g)))+(C0 i))))) (2^(min ((32:Int)).toNat 64))),I (B5 (b+1))] p/\o [U (C36 (C0 (d+(C0 ((C0 ((C0 f)*(C0 g)))+(C0 i))))) (2^(min ((32:Int)).toNat 64))),I (B5 (b+1))] p<o [U d,I b] c) c)
 (∃ v,j=some v/\0<=B5 (a+(e:Int))/\B5 (a+(e:Int))<(k:Int)/\wpH P (C34 237 (.pointer (some (v.add ((B5 (a+(e:Int))).toNat*1)))) (U32 (F4 d))) (fun _ q=>z [I (B5 (a+1))] q/\m [I (B5 (a+1))] q<m [I a] n) c)
def B0w(P:Program)(m:OA)(a t:Nat)(n:OA)(b u:Nat)(h:Heap)(K:VP):Prop:=
 Br ((a:Int)==(0:Int)) (K (.slice none 0 0) h)
 (Br ((b:Int)==(0:Int)) (K (.slice none 0 0) h)
 (wpH P (C37 62 (I (B5 ((a:Int)+(b:Int)))) (I (B5 ((a:Int)+(b:Int))))) (fun p q=>∃ (c:OA) (d i:Nat),p= .slice c d i/\∃ (e:LP) (o:LN),e [I 0] q/\
 ∀ f g,e [I f] g->Br (decide (f<(a:Int))) (B0v P m a n b c d e o f g)
 (FCall P R4 #[.slice c d i] g (fun r s=>∃ (j:OA) (k l:Nat),r= .slice j k l/\K (.slice j k l) s))) h))
theorem A6q a b c d e f(hvc:B0w prog a b c d e f h K):FCall prog Kw #[.slice a b c,.slice d e f] h K:=
 C8 bod func210 [.tmp 4] { loops:=[(5,⟨[6],[],[.int .i64 0],⟨([6,7,8]++Lrg 23 50),[]⟩⟩),(9,⟨[7,8],[],[.int .u64 0,.int .i64 0],⟨([7,8]++Lrg 29 36),[]⟩⟩)] } 75 [] [211] [] (by kernel_rfl) hvc
def A1h(P:Program)(s:OA)(e x:Nat)(c:Int)(h:Heap)(K:VP):Prop:=
 wpH P (C37 62 (I (e:Int)) (I (e:Int))) (fun t u=>∃ (g:OA) (i k:Nat),t= .slice g i k/\∃ (j:LP) (l:LN),j [U 0,I (B5 ((e:Int)-1))] u/\
 ∀ b a d,j [U b,I a] d->Br (decide (a>=(0:Int))) (∃ q,s=some q/\0<=a/\a<(e:Int)/\∃ f,d.cell? (q.add (a.toNat*1))=some (U32 f)/\Br (decide (C0 c=0)) False
 (∃ r,g=some r/\0<=a/\a<(i:Int)/\wpH P (C34 237 (.pointer (some (r.add (a.toNat*1)))) (U32 (F4 (C0 (C3a (bor .u64 (C0 (b*2^(min ((32:Int)).toNat 64))) (C0 f)) (C0 c)))))) (fun _ p=>Br (decide (C0 c=0)) False
 (j [U (Int.tmod (bor .u64 (C0 (b*2^(min ((32:Int)).toNat 64))) (C0 f)) (C0 c)),I (B5 (a-1))] p/\l [U (Int.tmod (bor .u64 (C0 (b*2^(min ((32:Int)).toNat 64))) (C0 f)) (C0 c)),I (B5 (a-1))] p<l [U b,I a] d)) d))
 (FCall P R4 #[.slice g i k] d (fun v w=>∃ (m:OA) (n o:Nat),v= .slice m n o/\K (.tuple #[.slice m n o,U32 (F4 b)]) w))) h
theorem A1g a b c d(hvc:A1h prog a b c d h K):FCall prog Ed #[.slice a b c,U32 d] h K:=
 C8 bod func224 [.tmp 4,.tmp 5] { loops:=[(4,⟨[7,8],[],[.int .u64 0,.int .i64 0],⟨([7,8]++Lrg 15 24),[]⟩⟩)] } 43 [] [211] [] (by kernel_rfl) hvc
def Vv(P:Program)(r:OA)(e v:Nat)(f:Int)(h:Heap)(K:VP):Prop:=
 wpH P (C37 62 (I (B5 ((e:Int)+1))) (I (B5 ((e:Int)+1)))) (fun s t=>∃ (c:OA) (d j:Nat),s= .slice c d j/\∃ (g:LP) (k:LN),g [I 0] t/\
 ∀ a b,g [I a] b->Br (decide (a<(e:Int))) (∃ m,r=some m/\0<=a/\a<(e:Int)/\∃ i,b.cell? (m.add (a.toNat*1))=some (U32 i)/\Br (decide (f<0)) False
 (∃ n,c=some n/\0<=a/\a<(d:Int)/\∃ o,b.cell? (n.add (a.toNat*1))=some (U32 o)/\∃ p,c=some p/\0<=a/\a<(d:Int)/\wpH P (C34 237 (.pointer (some (p.add (a.toNat*1)))) (U32 (bor .u32 o (F4 (C0 ((C0 i)*2^(min f.toNat 64))))))) (fun _ u=>∃ q,c=some q/\0<=B5 (a+1)/\B5 (a+1)<(d:Int)/\wpH P (C34 237 (.pointer (some (q.add ((B5 (a+1)).toNat*1)))) (U32 (F4 (C36 (C0 ((C0 i)*2^(min f.toNat 64))) (2^(min ((32:Int)).toNat 64)))))) (fun _ l=>g [I (B5 (a+1))] l/\k [I (B5 (a+1))] l<k [I a] b) u) b))
 (K (.slice c d j) b)) h
theorem Yw a b c d(hvc:Vv prog a b c d h K):FCall prog Bu #[.slice a b c,U d] h K:=
 C8 bod func258 [.tmp 4] { loops:=[(3,⟨[6],[],[.int .i64 0],⟨([6,7]++Lrg 12 28),[]⟩⟩)] } 41 [] [] [] (by kernel_rfl) hvc
def Nz(P:Program)(k:OA)(a:Nat)(u:OA)(v:Nat)(g:Int)(l:Int)(m:Int)(w:Int)(x:Int)(n:LP)(y:Heap):Prop:=
 ∃ (i:LP) (o:LN),i [U (C0 (C3a (bor .u64 (C0 ((C0 l)*2^(min ((32:Int)).toNat 64))) (C0 m)) (C0 w))),U (Int.tmod (bor .u64 (C0 ((C0 l)*2^(min ((32:Int)).toNat 64))) (C0 m)) (C0 x))] y/\
 ∀ b d c,i [U b,U d] c->∃ (j:LP),(Br (decide (b>=(4294967296:Int))) (j [] c)
 (∃ p,k=some p/\0<=B5 ((a:Int)-2)/\B5 ((a:Int)-2)<(a:Int)/\∃ q,c.cell? (p.add ((B5 ((a:Int)-2)).toNat*1))=some (U32 q)/\∃ r,u=some r/\0<=B5 ((B5 (g+(a:Int)))-2)/\B5 ((B5 (g+(a:Int)))-2)<(v:Int)/\∃ s,c.cell? (r.add ((B5 ((B5 (g+(a:Int)))-2)).toNat*1))=some (U32 s)/\Br (decide ((C0 (b*(C0 q)))>(bor .u64 (C0 (d*2^(min ((32:Int)).toNat 64))) (C0 s)))) (j [] c)
 (n [U b] c)))/\
 ∀ e,j [] e->∃ t,k=some t/\0<=B5 ((a:Int)-1)/\B5 ((a:Int)-1)<(a:Int)/\∃ f,e.cell? (t.add ((B5 ((a:Int)-1)).toNat*1))=some (U32 f)/\Br (decide ((C0 (d+(C0 f)))>=(4294967296:Int))) (n [U (C0 (b-1))] e)
 (i [U (C0 (b-1)),U (C0 (d+(C0 f)))] e/\o [U (C0 (b-1)),U (C0 (d+(C0 f)))] e<o [U b,U d] c)
def Nx(P:Program)(t:OA)(c:Nat)(f:OA)(g:Nat)(b:Int)(u:Int)(v:LP)(w:Heap):Prop:=
 ∃ (k:LP) (l:LN),k [U 0,I 0] w/\
 ∀ e a d,k [U e,I a] d->Br (decide (a<(c:Int))) (∃ n,f=some n/\0<=B5 (a+b)/\B5 (a+b)<(g:Int)/\∃ i,d.cell? (n.add ((B5 (a+b)).toNat*1))=some (U32 i)/\∃ o,t=some o/\0<=a/\a<(c:Int)/\∃ j,d.cell? (o.add (a.toNat*1))=some (U32 j)/\∃ p,f=some p/\0<=B5 (a+b)/\B5 (a+b)<(g:Int)/\wpH P (C34 237 (.pointer (some (p.add ((B5 (a+b)).toNat*1)))) (U32 (F4 (C0 (e+(C0 ((C0 i)+(C0 j)))))))) (fun _ m=>k [U (C36 (C0 (e+(C0 ((C0 i)+(C0 j))))) (2^(min ((32:Int)).toNat 64))),I (B5 (a+1))] m/\l [U (C36 (C0 (e+(C0 ((C0 i)+(C0 j))))) (2^(min ((32:Int)).toNat 64))),I (B5 (a+1))] m<l [U e,I a] d) d)
 (∃ q,f=some q/\0<=B5 (b+(c:Int))/\B5 (b+(c:Int))<(g:Int)/\∃ r,d.cell? (q.add ((B5 (b+(c:Int))).toNat*1))=some (U32 r)/\∃ s,f=some s/\0<=B5 (b+(c:Int))/\B5 (b+(c:Int))<(g:Int)/\wpH P (C34 237 (.pointer (some (s.add ((B5 (b+(c:Int))).toNat*1)))) (U32 (F4 (r+(F4 e))))) (fun _ x=>v [U (C0 (u-1))] x) d)
def Ob(P:Program)(c:OA)(d:Nat)(a:Int)(e:LP)(f:Int)(g:Heap):Prop:=
 ∃ b,c=some b/\0<=a/\a<(d:Int)/\wpH P (C34 237 (.pointer (some (b.add (a.toNat*1)))) (U32 (F4 f))) (fun _ i=>e [] i) g
def Ny(P:Program)(p:OA)(c:Nat)(j:OA)(k:Nat)(A:OA)(B:Nat)(a:Int)(C:LP)(e:Int)(D:Heap):Prop:=
 ∃ (m:LP) (q:LN),m [U 0,U 0,I 0] D/\
 ∀ d f b g,m [U d,U f,I b] g->Br (decide (b<(c:Int))) (∃ t,p=some t/\0<=b/\b<(c:Int)/\∃ i,g.cell? (t.add (b.toNat*1))=some (U32 i)/\∃ u,j=some u/\0<=B5 (b+a)/\B5 (b+a)<(k:Int)/\∃ l,g.cell? (u.add ((B5 (b+a)).toNat*1))=some (U32 l)/\∃ v,j=some v/\0<=B5 (b+a)/\B5 (b+a)<(k:Int)/\wpH P (C34 237 (.pointer (some (v.add ((B5 (b+a)).toNat*1)))) (U32 (F4 (C0 ((C0 ((C0 l)-(Nr .u64 (C0 ((C0 (e*(C0 i)))+d)) (4294967295:Int))))-f))))) (fun _ r=>m [U (C36 (C0 ((C0 (e*(C0 i)))+d)) (2^(min ((32:Int)).toNat 64))),U (Nr .u64 (C36 (C0 ((C0 ((C0 l)-(Nr .u64 (C0 ((C0 (e*(C0 i)))+d)) (4294967295:Int))))-f)) (2^(min ((32:Int)).toNat 64))) (1:Int)),I (B5 (b+1))] r/\q [U (C36 (C0 ((C0 (e*(C0 i)))+d)) (2^(min ((32:Int)).toNat 64))),U (Nr .u64 (C36 (C0 ((C0 ((C0 l)-(Nr .u64 (C0 ((C0 (e*(C0 i)))+d)) (4294967295:Int))))-f)) (2^(min ((32:Int)).toNat 64))) (1:Int)),I (B5 (b+1))] r<q [U d,U f,I b] g) g)
 (∃ w,j=some w/\0<=B5 (a+(c:Int))/\B5 (a+(c:Int))<(k:Int)/\∃ o,g.cell? (w.add ((B5 (a+(c:Int))).toNat*1))=some (U32 o)/\∃ x,j=some x/\0<=B5 (a+(c:Int))/\B5 (a+(c:Int))<(k:Int)/\wpH P (C34 237 (.pointer (some (x.add ((B5 (a+(c:Int))).toNat*1)))) (U32 (F4 (C0 ((C0 ((C0 o)-d))-f))))) (fun _ s=>∃ (n:LP),(Br ((C36 (C0 ((C0 ((C0 o)-d))-f)) (2^(min ((63:Int)).toNat 64)))==(1:Int)) (Nx P p c j k a e n s)
 (n [U e] s))/\
 ∀ y z,n [U y] z->Ob P A B a C y z) g)
def Vw(P:Program)(a:OA)(b:Nat)(c:OA)(d:Nat)(e:OA)(f:Nat)(g:Int)(i:LP)(j:Int)(k:Heap):Prop:=
 Ny P a b c d e f g i j k
def Vx(P:Program)(d:LP)(b:LN)(a:Int)(e:Heap)(c:Heap):Prop:=
 d [I (B5 (a-1))] c/\b [I (B5 (a-1))] c<b [I a] e
def Ia(P:Program)(K:VP)(f:Int)(y:OA)(z A:Nat)(c:OA)(b B:Nat)(C:Heap):Prop:=
 ∃ (g:LP) (i:LN),g [I 0] C/\
 ∀ a d,g [I a] d->Br (decide (a<(b:Int))) (∃ q,c=some q/\0<=a/\a<(b:Int)/\∃ r,d.cell? (q.add (a.toNat*1))=some (U32 r)/\Br (decide (f<0)) False
 (∃ s,c=some s/\0<=a/\a<(b:Int)/\wpH P (C34 237 (.pointer (some (s.add (a.toNat*1)))) (U32 (C36 r (2^(min f.toNat 32))))) (fun _ e=>Br (decide ((B5 (a+1))<(b:Int))) (∃ t,c=some t/\0<=a/\a<(b:Int)/\∃ u,e.cell? (t.add (a.toNat*1))=some (U32 u)/\∃ v,c=some v/\0<=B5 (a+1)/\B5 (a+1)<(b:Int)/\∃ w,e.cell? (v.add ((B5 (a+1)).toNat*1))=some (U32 w)/\Br (decide (C0 ((32:Int)-f)<0)) False
 (∃ x,c=some x/\0<=a/\a<(b:Int)/\wpH P (C34 237 (.pointer (some (x.add (a.toNat*1)))) (U32 (bor .u32 u (F4 (C0 ((C0 w)*2^(min (C0 ((32:Int)-f)).toNat 64))))))) (fun _ p=>g [I (B5 (a+1))] p/\i [I (B5 (a+1))] p<i [I a] d) e))
 (g [I (B5 (a+1))] e/\i [I (B5 (a+1))] e<i [I a] d)) d))
 (FCall P R4 #[.slice y z A] d (fun D E=>∃ (j:OA) (k l:Nat),D= .slice j k l/\FCall P R4 #[.slice c b B] E (fun F G=>∃ (m:OA) (n o:Nat),F= .slice m n o/\K (.tuple #[.slice j k l,.slice m n o]) G)))
def Vy(P:Program)(K:VP)(A:Int)(e:OA)(a:Nat)(d:OA)(f g:Nat)(k:OA)(l B:Nat)(C:LP)(D:LN)(b:Int)(c:Heap):Prop:=
 Br (decide (b>=(0:Int))) (∃ (m:LP),(∃ r,d=some r/\0<=B5 (b+(a:Int))/\B5 (b+(a:Int))<(f:Int)/\∃ s,c.cell? (r.add ((B5 (b+(a:Int))).toNat*1))=some (U32 s)/\∃ t,d=some t/\0<=B5 ((B5 (b+(a:Int)))-1)/\B5 ((B5 (b+(a:Int)))-1)<(f:Int)/\∃ u,c.cell? (t.add ((B5 ((B5 (b+(a:Int)))-1)).toNat*1))=some (U32 u)/\∃ v,e=some v/\0<=B5 ((a:Int)-1)/\B5 ((a:Int)-1)<(a:Int)/\∃ i,c.cell? (v.add ((B5 ((a:Int)-1)).toNat*1))=some (U32 i)/\Br (decide (C0 i=0)) False
 (∃ w,e=some w/\0<=B5 ((a:Int)-1)/\B5 ((a:Int)-1)<(a:Int)/\∃ j,c.cell? (w.add ((B5 ((a:Int)-1)).toNat*1))=some (U32 j)/\Br (decide (C0 j=0)) False
 (∃ (n:LP),(Nz P e a d f b s u i j n c)/\
 ∀ x y,n [U x] y->Vw P e a d f k l b m x y)))/\
 ∀ z,m [] z->Vx P C D b c z)
 ((0<=(a:Int)/\(a:Int)<=(g:Int))/\FCall P R4 #[.slice (K0 d g 0 1) ((((a:Int)).toNat)-0) (g-0)] c (fun E F=>∃ (o:OA) (p q:Nat),E= .slice o p q/\Ia P K A k l B o p q F))
def Oa(P:Program)(K:VP)(f:Int)(g:OA)(b:Nat)(i:OA)(c j:Nat)(k:OA)(l m:Nat)(n:Heap):Prop:=
 ∃ (a:LP) (o:LN),a [I (B5 ((B5 ((c:Int)-(b:Int)))-1))] n/\
 ∀ d e,a [I d] e->Vy P K f g b i c j k l m a o d e
def A1i(P:Program)(u:OA)(v w:Nat)(g:OA)(c x:Nat)(K:VP)(y:Heap):Prop:=
 ∃ (f:LP) (i:LN),f [U 0] y/\
 ∀ a b,f [U a] b->∃ s,g=some s/\0<=B5 ((c:Int)-1)/\B5 ((c:Int)-1)<(c:Int)/\∃ t,b.cell? (s.add ((B5 ((c:Int)-1)).toNat*1))=some (U32 t)/\Br (decide (a<0)) False
 (Br (decide ((F4 (t*2^(min a.toNat 32)))<(2147483648:Int))) (f [U (C0 (a+1))] b/\i [U (C0 (a+1))] b<i [U a] b)
 (FCall P Bu #[.slice g c x,U a] b (fun A B=>∃ (j:OA) (k l:Nat),A= .slice j k l/\FCall P R4 #[.slice j k l] B (fun C D=>∃ (m:OA) (d z:Nat),C= .slice m d z/\FCall P Bu #[.slice u v w,U a] D (fun E F=>∃ (n:OA) (e o:Nat),E= .slice n e o/\wpH P (C37 62 (I (B5 ((B5 ((B5 ((e:Int)-(d:Int)))-1))+1))) (I (B5 ((B5 ((B5 ((e:Int)-(d:Int)))-1))+1)))) (fun G H=>∃ (p:OA) (q r:Nat),G= .slice p q r/\Oa P K a m d n e o p q r H) F)))))
def B0y(P:Program)(a:OA)(b c:Nat)(f:OA)(d g:Nat)(h:Heap)(K:VP):Prop:=
 FCall P Kz #[.slice a b c,.slice f d g] h (fun B e=>∃ y,B=I y/\Br (decide (y<(0:Int))) (wpH P (C38 62 0 #[]) (fun C D=>∃ (i:OA) (j k:Nat),C= .slice i j k/\wpH P (C3b #[62,62] 62 #[.slice i j k,.slice a b c]) (fun E F=>∃ (l:OA) (m n:Nat),E= .slice l m n/\K (.tuple #[.slice none 0 0,.slice l m n]) F) D) e)
 (Br ((d:Int)==(1:Int)) (∃ z,f=some z/\0<=(0:Int)/\(0:Int)<(d:Int)/\∃ A,e.cell? (z.add (((0:Int)).toNat*1))=some (U32 A)/\FCall P Ed #[.slice a b c,U32 A] e (fun G H=>∃ (o:OA) (p q:Nat) (r:Int),G= .tuple #[.slice o p q,U32 r]/\wpH P (C38 62 1 #[(0,U32 r)]) (fun J L=>∃ (s:OA) (t u:Nat),J= .slice s t u/\FCall P R4 #[.slice s t u] L (fun M N=>∃ (v:OA) (w x:Nat),M= .slice v w x/\K (.tuple #[.slice o p q,.slice v w x]) N)) H))
 (A1i P a b c f d g K e)))
theorem A6r a b c d e f(hvc:B0y prog a b c d e f h K):FCall prog Kx #[.slice a b c,.slice d e f] h K:=
 C8 bod func242 [.tmp 4,.tmp 5] ⟨[(7,⟨[8],[],[.int .u64 0],⟨([8]++Lrg 49 11),[]⟩⟩),(15,⟨[14],[],[.int .i64 0],⟨(Lrg 14 11++Lrg 78 178),[]⟩⟩),(20,⟨[16,17],[],[.int .u64 0,.int .u64 0],⟨([16,17]++Lrg 115 36),[]⟩⟩),(26,⟨[18,19,20],[],[.int .u64 0,.int .u64 0,.int .i64 0],⟨([18,19,20,21,22]++Lrg 151 38),[]⟩⟩),(39,⟨[18,24],[],[.int .u64 0,.int .i64 0],⟨([18,24]++Lrg 212 29),[]⟩⟩),(48,⟨[26],[],[.int .i64 0],⟨([26]++Lrg 260 36),[]⟩⟩)],[(16,⟨[],[],[],⟨(Lrg 15 10++Lrg 82 174),[]⟩⟩),(21,⟨[],[],[],⟨(Lrg 115 24),[]⟩⟩),(24,⟨[16],[],[.int .u64 0],⟨([16,17]++Lrg 115 36),[]⟩⟩),(45,⟨[16],[],[.int .u64 0],⟨([16,18,24]++Lrg 207 44),[]⟩⟩)],[],[],[]⟩ 300 [] [211,224,240,258] [] (by kernel_rfl) hvc
def B5d(P:Program)(d:Bool)(b:OA)(a c:Nat)(h:Heap)(K:VP):Prop:=
 Br d (K (.agg #[.bool (decide ((a:Int)>(0:Int))),.slice b a c]) h)
 (K (.agg #[.bool false,.slice b a c]) h)
theorem B0x a b c d(hvc:B5d prog a b c d h K):FCall prog Q6 #[.bool a,.slice b c d] h K:=
 C8 bod func171 [.cell 4 64] an0 13 [4] [] [] (by kernel_rfl) hvc
def A58(P:Program)(a:Int)(h:Heap)(K:VP):Prop:=
 ∃ (b:LP),(Br (decide (a<(0:Int))) (b [U (C0 (0-(C0 a)))] h)
 (b [U (C0 a)] h))/\
 ∀ c o,b [U c] o->wpH P (C38 62 2 #[(0,U32 (F4 c)),(1,U32 (F4 (C36 c (2^(min ((32:Int)).toNat 64)))))]) (fun p q=>∃ (d:OA) (e f:Nat),p= .slice d e f/\FCall P R4 #[.slice d e f] q (fun r s=>∃ (g:OA) (i j:Nat),r= .slice g i j/\FCall P Q6 #[.bool (decide (a<(0:Int))),.slice g i j] s (fun t u=>∃ (k:Bool) (l:OA) (m n:Nat),t= .agg #[.bool k,.slice l m n]/\K (.agg #[.bool k,.slice l m n]) u))) o
theorem A3n a(hvc:A58 prog a h K):FCall prog Ht #[I a] h K:=
 C8 bod func173 [.cell 2 64] { cuts:=[(4,⟨[3],[],[.int .u64 0],⟨[3,6,7,8,9],[]⟩⟩)] } 20 [2] [171,211] [] (by kernel_rfl) hvc
def B9n(P:Program)(a:Bool)(c:OA)(b d:Nat)(h:Heap)(K:VP):Prop:=
 Br a (K (I (-1:Int)) h)
 (Br ((b:Int)==(0:Int)) (K (I 0) h)
 (K (I 1) h))
theorem B3m a b c d(hvc:B9n prog a b c d h K):FCall prog Xo #[.agg #[.bool a,.slice b c d]] h K:=
 C8 bod func101 [.tmp 2] an0 11 [1] [] [] (by kernel_rfl) hvc
def C2n(P:Program)(e:Bool)(f:OA)(g i:Nat)(h:Heap)(K:VP):Prop:=
 FCall P Q6 #[.bool (!e),.slice f g i] h (fun j k=>∃ (a:Bool) (b:OA) (c d:Nat),j= .agg #[.bool a,.slice b c d]/\K (.agg #[.bool a,.slice b c d]) k)
theorem B7j a b c d(hvc:C2n prog a b c d h K):FCall prog A0o #[.agg #[.bool a,.slice b c d]] h K:=
 C8 bod func208 [.cell 2 64] an0 9 [1,2] [171] [] (by kernel_rfl) hvc
def C2q(P:Program)(i:Bool)(a:OA)(b c:Nat)(m:Bool)(d:OA)(e f:Nat)(h:Heap)(K:VP):Prop:=
 Br (i==m) (FCall P La #[.slice a b c,.slice d e f] h (fun O j=>∃ (n:OA) (o p:Nat),O= .slice n o p/\Heap.le h j/\FCall P Q6 #[.bool i,.slice n o p] j (fun Q J=>∃ (q:Bool) (r:OA) (s t:Nat),Q= .agg #[.bool q,.slice r s t]/\Heap.le j J/\K (.agg #[.bool q,.slice r s t]) J)))
 (FCall P Kz #[.slice a b c,.slice d e f] h (fun R g=>∃ N,R=I N/\Br (decide (N>=(0:Int))) (FCall P Ku #[.slice a b c,.slice d e f] g (fun S k=>∃ (u:OA) (v w:Nat),S= .slice u v w/\Heap.le g k/\FCall P Q6 #[.bool i,.slice u v w] k (fun T L=>∃ (x:Bool) (y:OA) (z A:Nat),T= .agg #[.bool x,.slice y z A]/\Heap.le k L/\K (.agg #[.bool x,.slice y z A]) L)))
 (FCall P Ku #[.slice d e f,.slice a b c] g (fun V l=>∃ (B:OA) (C D:Nat),V= .slice B C D/\Heap.le g l/\FCall P Q6 #[.bool m,.slice B C D] l (fun W M=>∃ (E:Bool) (F:OA) (G H:Nat),W= .agg #[.bool E,.slice F G H]/\Heap.le l M/\K (.agg #[.bool E,.slice F G H]) M)))))
theorem B7m a b c d e f g i(hvc:C2q prog a b c d e f g i h K):FCall prog A4q #[.agg #[.bool a,.slice b c d],.agg #[.bool e,.slice f g i]] h K:=
 C8 bod func207 [.cell 4 64] an0 40 [2,3,4] [171,209,240,241] [] (by kernel_rfl) hvc
def C2o(P:Program)(k:Bool)(l:OA)(m n:Nat)(o:Bool)(p:OA)(q r:Nat)(h:Heap)(K:VP):Prop:=
 FCall P Kw #[.slice l m n,.slice p q r] h (fun s a=>∃ (b:OA) (c d:Nat),s= .slice b c d/\Heap.le h a/\FCall P Q6 #[.bool (!(k==o)),.slice b c d] a (fun t j=>∃ (e:Bool) (f:OA) (g i:Nat),t= .agg #[.bool e,.slice f g i]/\Heap.le a j/\K (.agg #[.bool e,.slice f g i]) j))
theorem B7k a b c d e f g i(hvc:C2o prog a b c d e f g i h K):FCall prog Ot #[.agg #[.bool a,.slice b c d],.agg #[.bool e,.slice f g i]] h K:=
 C8 bod func174 [.cell 4 64] an0 16 [2,3,4] [171,210] [] (by kernel_rfl) hvc
def B0u(P:Program)(b:Bool)(t:OA)(u v:Nat)(w:Bool)(x:OA)(y z:Nat)(h:Heap)(K:VP):Prop:=
 FCall P Kx #[.slice t u v,.slice x y z] h (fun A r=>∃ (c:OA) (d e:Nat) (f:OA) (g i:Nat),A= .tuple #[.slice c d e,.slice f g i]/\FCall P Q6 #[.bool (!(b==w)),.slice c d e] r (fun B a=>∃ (j:Bool) (k:OA) (l m:Nat),B= .agg #[.bool j,.slice k l m]/\Heap.le r a/\FCall P Q6 #[.bool b,.slice f g i] a (fun C s=>∃ (n:Bool) (o:OA) (p q:Nat),C= .agg #[.bool n,.slice o p q]/\Heap.le a s/\K (.tuple #[.agg #[.bool j,.slice k l m],.agg #[.bool n,.slice o p q]]) s)))
theorem A6p a b c d e f g i(hvc:B0u prog a b c d e f g i h K):FCall prog Kv #[.agg #[.bool a,.slice b c d],.agg #[.bool e,.slice f g i]] h K:=
 C8 bod func214 [.cell 4 64,.cell 5 64] { orders:=[(2,([0,1,2,3,4,5,7,8,9,6,10,11,12],[]))] } 27 [2,3,4,5] [171,242] [] (by kernel_rfl) hvc
def C2p(P:Program)(E:Bool)(s:OA)(t u:Nat)(F:Bool)(v:OA)(w x:Nat)(h:Heap)(K:VP):Prop:=
 ∃ (i:LP) (m:LN),i [.slice s t u,.slice v w x] h/\
 ∀ d e f b a c g,i [.slice d e f,.slice b a c] g->Br (decide ((a:Int)>(0:Int))) (FCall P Kx #[.slice d e f,.slice b a c] g (fun B r=>∃ (y:OA) (z A:Nat) (j:OA) (k l:Nat),B= .tuple #[.slice y z A,.slice j k l]/\i [.slice b a c,.slice j k l] r/\m [.slice b a c,.slice j k l] r<m [.slice d e f,.slice b a c] g))
 (FCall P Q6 #[.bool false,.slice d e f] g (fun C D=>∃ (n:Bool) (o:OA) (p q:Nat),C= .agg #[.bool n,.slice o p q]/\K (.agg #[.bool n,.slice o p q]) D))
theorem B7l a b c d e f g i(hvc:C2p prog a b c d e f g i h K):FCall prog A92 #[.agg #[.bool a,.slice b c d],.agg #[.bool e,.slice f g i]] h K:=
 C8 bod func212 [.cell 4 64] { loops:=[(2,⟨[5,6],[],[.slice none 0 0,.slice none 0 0],⟨([5,6,7,8]++Lrg 13 11),[]⟩⟩)] } 26 [2,3,4] [171,242] [] (by kernel_rfl) hvc
def B9x(P:Program)(k:Bool)(j:OA)(a l:Nat)(h:Heap)(K:VP):Prop:=
 Br ((a:Int)==(0:Int)) (K (I 0) h)
 (∃ g,j=some g/\0<=B5 ((a:Int)-1)/\B5 ((a:Int)-1)<(a:Int)/\∃ i,h.cell? (g.add ((B5 ((a:Int)-1)).toNat*1))=some (U32 i)/\∃ (e:LP) (f:LN),e [I (B5 ((32:Int)*(B5 ((a:Int)-1)))),U32 i] h/\
 ∀ b c d,e [I b,U32 c] d->Br (decide (c>(0:Int))) (e [I (B5 (b+1)),U32 (C36 c (2^(min ((1:Int)).toNat 32)))] d/\f [I (B5 (b+1)),U32 (C36 c (2^(min ((1:Int)).toNat 32)))] d<f [I b,U32 c] d)
 (K (I b) d))
theorem B3w a b c d(hvc:B9x prog a b c d h K):FCall prog Xt #[.agg #[.bool a,.slice b c d]] h K:=
 C8 bod func213 [.tmp 2] { loops:=[(5,⟨[3,4],[],[.int .i64 0,.int .u32 0],⟨[3,4,22,23,24,25,26,27],[]⟩⟩)] } 29 [1] [] [] (by kernel_rfl) hvc
def B0z(P:Program)(b9:Bool)(a6:OA)(L a7:Nat)(h:Heap)(K:VP):Prop:=
 Br ((L:Int)==(0:Int)) (K (.string ({ data:=#[48] }:ByteArray)) h)
 (∃ (p:LP) (M:LN),p [.slice none 0 0,.slice a6 L a7] h/\
 ∀ j g A B i C k,p [.slice j g A,.slice B i C] k->Br (decide ((i:Int)>(0:Int))) (FCall P Ed #[.slice B i C,U32 (1000000000:Int)] k (fun a8 a9=>∃ (q:OA) (r s:Nat) (N:Int),a8= .tuple #[.slice q r s,U32 N]/\wpH P (C38 62 1 #[(0,U32 N)]) (fun b0 b1=>∃ (O:OA) (Q R:Nat),b0= .slice O Q R/\wpH P (C3b #[62,62] 62 #[.slice j g A,.slice O Q R]) (fun b2 a3=>∃ (t:OA) (u v:Nat),b2= .slice t u v/\p [.slice t u v,.slice q r s] a3/\M [.slice t u v,.slice q r s] a3<M [.slice j g A,.slice B i C] k) b1) a9))
 (∃ (w:LP) (S:LN),w [.slice none 0 0,I (B5 ((g:Int)-1))] k/\
 ∀ l m n a o,w [.slice l m n,I a] o->Br (decide (a>=(0:Int))) (∃ (x:LP) (T:LN),x [.slice l m n,U32 (100000000:Int)] o/\
 ∀ e c f b d,x [.slice e c f,U32 b] d->Br (decide (b>(0:Int))) (∃ (y:LP),(∃ a4,j=some a4/\0<=a/\a<(g:Int)/\∃ D,d.cell? (a4.add (a.toNat*1))=some (U32 D)/\Br (decide (b=0)) False
 (∃ (z:LP),(Br (decide ((c:Int)>(0:Int))) (z [.bool true] d)
 (z [.bool ((wu8 (F4 ((48:Int)+(Int.tmod (F4 (C3a D b)) (10:Int))))) != (48:Int))] d))/\
 ∀ a5 E,z [.bool a5] E->Br a5 (wpH P (C38 199 1 #[(0,Y (wu8 (F4 ((48:Int)+(Int.tmod (F4 (C3a D b)) (10:Int))))))]) (fun b3 b4=>∃ (V:OA) (W X:Nat),b3= .slice V W X/\wpH P (C3b #[199,199] 199 #[.slice e c f,.slice V W X]) (fun b5 b6=>∃ (Z:OA) (a0 a1:Nat),b5= .slice Z a0 a1/\y [.slice Z a0 a1] b6) b4) E)
 (y [.slice e c f] E)))/\
 ∀ F G H J,y [.slice F G H] J->x [.slice F G H,U32 (F4 (C3a b (10:Int)))] J/\T [.slice F G H,U32 (F4 (C3a b (10:Int)))] J<T [.slice e c f,U32 b] d)
 (w [.slice e c f,I (B5 (a-1))] d/\S [.slice e c f,I (B5 (a-1))] d<S [.slice l m n,I a] o))
 (wpH P (convert 199 9 (.slice l m n)) (fun b7 b8=>∃ (a2:ByteArray),b7= .string a2/\K (.string a2) b8) o)))
theorem A6s a b c d(hvc:B0z prog a b c d h K):FCall prog Ky #[.agg #[.bool a,.slice b c d]] h K:=
 C8 bod func188 [.tmp 2] ⟨[(5,⟨[3,4],[],[.slice none 0 0,.slice none 0 0],⟨([3,4,5,6]++Lrg 17 13),[]⟩⟩),(11,⟨[7,8],[],[.slice none 0 0,.int .i64 0],⟨([7,8,9,10]++Lrg 33 28),[]⟩⟩),(14,⟨[7,9],[],[.slice none 0 0,.int .u32 0],⟨([7,9,10]++Lrg 37 24),[]⟩⟩)],[(15,⟨[7],[],[.slice none 0 0],⟨([7,10]++Lrg 41 20),[]⟩⟩),(18,⟨[56],[],[.bool false],⟨[50,51,52,53,54,55,56],[]⟩⟩)],[],[],[]⟩ 63 [1] [224] [] (by kernel_rfl) hvc
def Tj(P:Program)(c:ByteArray)(h:Heap)(K:VP):Prop:=
 ∃ (q:LP) (G:LN),q [.slice none 0 0,I 0,.bool false,.slice none 0 0] h/\
 ∀ l m n o x y z A p,q [.slice l m n,I o,.bool x,.slice y z A] p->Br (decide (o<((C35 c:Nat):Int))) (∃ (r:LP),(∃ (s:LP) (H:LN),s [I o,U32 (0:Int),U32 (1:Int),I 0,.bool x,.slice y z A] p/\
 ∀ a d e k f g i j b,s [I a,U32 d,U32 e,I k,.bool f,.slice g i j] b->Br (decide (k<(9:Int))) (Br (decide (a<((C35 c:Nat):Int))) (∃ (J:UInt8),(0<=a/\(c)[a.toNat]? = some J)/\Br (decide (((J.toNat:Nat):Int)<(48:Int))) (K (.tuple #[.agg #[.bool false,.slice none 0 0],.bool false]) b)
 (∃ (L:UInt8),(0<=a/\(c)[a.toNat]? = some L)/\Br (decide (((L.toNat:Nat):Int)>(57:Int))) (K (.tuple #[.agg #[.bool false,.slice none 0 0],.bool false]) b)
 (∃ (t:UInt8),(0<=a/\(c)[a.toNat]? = some t)/\s [I (B5 (a+1)),U32 (F4 ((F4 (d*(10:Int)))+(F4 (wu8 (((t.toNat:Nat):Int)-48))))),U32 (F4 (e*(10:Int))),I (B5 (k+1)),.bool f,.slice g i j] b/\H [I (B5 (a+1)),U32 (F4 ((F4 (d*(10:Int)))+(F4 (wu8 (((t.toNat:Nat):Int)-48))))),U32 (F4 (e*(10:Int))),I (B5 (k+1)),.bool f,.slice g i j] b<H [I a,U32 d,U32 e,I k,.bool f,.slice g i j] b)))
 (r [I a,U32 d,U32 e,.bool f,.slice g i j] b))
 (r [I a,U32 d,U32 e,.bool f,.slice g i j] b))/\
 ∀ B a6 a7 C D E F a8,r [I B,U32 a6,U32 a7,.bool C,.slice D E F] a8->wpH P (C38 62 1 #[(0,U32 a7)]) (fun a9 b0=>∃ (M:OA) (N O:Nat),a9= .slice M N O/\FCall P Kw #[.slice l m n,.slice M N O] b0 (fun b1 b2=>∃ (Q:OA) (R S:Nat),b1= .slice Q R S/\wpH P (C38 62 1 #[(0,U32 a6)]) (fun b3 b4=>∃ (T:OA) (V W:Nat),b3= .slice T V W/\FCall P R4 #[.slice T V W] b4 (fun b5 b6=>∃ (X:OA) (Z a0:Nat),b5= .slice X Z a0/\FCall P La #[.slice Q R S,.slice X Z a0] b6 (fun b7 a5=>∃ (u:OA) (v w:Nat),b7= .slice u v w/\q [.slice u v w,I B,.bool C,.slice D E F] a5/\G [.slice u v w,I B,.bool C,.slice D E F] a5<G [.slice l m n,I o,.bool x,.slice y z A] p))) b2)) a8)
 (FCall P Q6 #[.bool false,.slice l m n] p (fun b8 b9=>∃ (a1:Bool) (a2:OA) (a3 a4:Nat),b8= .agg #[.bool a1,.slice a2 a3 a4]/\K (.tuple #[.agg #[.bool a1,.slice a2 a3 a4],.bool (!(C39 c==C39 ({ data:=#[] }:ByteArray)))]) b9))
theorem Ul a(hvc:Tj prog a h K):FCall prog An #[.string a] h K:=
 C8 bod func170 [.cell 2 64,.tmp 3] ⟨[(3,⟨[4,5],[(2,2)],[.slice none 0 0,.int .i64 0,.bool false,.slice none 0 0],⟨(Lrg 3 51),[2]⟩⟩),(6,⟨[5,6,7,8],[(2,2)],[.int .i64 0,.int .u32 0,.int .u32 0,.int .i64 0,.bool false,.slice none 0 0],⟨([3,5,6,7,8]++Lrg 13 33),[2]⟩⟩)],[(12,⟨[5,6,7],[(2,2)],[.int .i64 0,.int .u32 0,.int .u32 0,.bool false,.slice none 0 0],⟨([3,5,6,7,8]++Lrg 13 33),[2]⟩⟩)],[],[],[]⟩ 58 [2] [171,209,210,211] [] (by kernel_rfl) hvc
def B9w(P:Program)(l:Bool)(m:OA)(n o:Nat)(f:Bool)(g:OA)(a i:Nat)(h:Heap)(K:VP):Prop:=
 Br ((a:Int)==(0:Int)) (FCall P Ht #[I 1] h (fun j k=>∃ (b:Bool) (c:OA) (d e:Nat),j= .agg #[.bool b,.slice c d e]/\K (.agg #[.bool b,.slice c d e]) k))
 (K (.agg #[.bool f,.slice g a i]) h)
theorem B3v a b c d e f g i(hvc:B9w prog a b c d e f g i h K):FCall prog Gc #[.agg #[.bool a,.slice b c d,.bool e,.slice f g i]] h K:=
 C8 bod func175 [.cell 2 64] an0 11 [1,2] [173] [] (by kernel_rfl) hvc
def B9v(P:Program)(w:Bool)(x:OA)(y z:Nat)(n:Bool)(A:OA)(B C:Nat)(h:Heap)(K:VP):Prop:=
 ∃ (o:LP),(Br n (FCall P A0o #[.agg #[.bool w,.slice x y z]] h (fun c2 r=>∃ (D:Bool) (E:OA) (F G:Nat),c2= .agg #[.bool D,.slice E F G]/\Heap.le h r/\FCall P A0o #[.agg #[.bool n,.slice A B C]] r (fun c3 X=>∃ (H:Bool) (J:OA) (L M:Nat),c3= .agg #[.bool H,.slice J L M]/\Heap.le r X/\o [.bool D,.slice E F G,.bool H,.slice J L M] X)))
 (o [.bool w,.slice x y z,.bool n,.slice A B C] h))/\
 ∀ e f g i j k l m a1,o [.bool e,.slice f g i,.bool j,.slice k l m] a1->FCall P A92 #[.agg #[.bool e,.slice f g i],.agg #[.bool j,.slice k l m]] a1 (fun c4 c5=>∃ (a:Bool) (b:OA) (c d:Nat),c4= .agg #[.bool a,.slice b c d]/\∃ (p:LP),(FCall P Xt #[.agg #[.bool a,.slice b c d]] c5 (fun c6 Z=>∃ a2,c6=I a2/\Br (decide (a2>(1:Int))) (FCall P Kv #[.agg #[.bool e,.slice f g i],.agg #[.bool a,.slice b c d]] Z (fun c7 c8=>∃ (N:Bool) (O:OA) (Q R:Nat) (b4:Bool) (b5:OA) (b6 b7:Nat),c7= .tuple #[.agg #[.bool N,.slice O Q R],.agg #[.bool b4,.slice b5 b6 b7]]/\FCall P Kv #[.agg #[.bool j,.slice k l m],.agg #[.bool a,.slice b c d]] c8 (fun c9 d0=>∃ (S:Bool) (T:OA) (V W:Nat) (b8:Bool) (b9:OA) (c0 c1:Nat),c9= .tuple #[.agg #[.bool S,.slice T V W],.agg #[.bool b8,.slice b9 c0 c1]]/\p [.bool N,.slice O Q R,.bool S,.slice T V W] d0)))
 (p [.bool e,.slice f g i,.bool j,.slice k l m] Z)))/\
 ∀ a3 a4 a5 a6 s t u v a7,p [.bool a3,.slice a4 a5 a6,.bool s,.slice t u v] a7->∃ (q:LP),(FCall P Xt #[.agg #[.bool s,.slice t u v]] a7 (fun d1 a0=>∃ a8,d1=I a8/\Br (a8==(1:Int)) (q [.bool false,.slice none 0 0] a0)
 (q [.bool s,.slice t u v] a0)))/\
 ∀ a9 b0 b1 b2 b3,q [.bool a9,.slice b0 b1 b2] b3->K (.agg #[.bool a3,.slice a4 a5 a6,.bool a9,.slice b0 b1 b2]) b3)
theorem B3u a b c d e f g i(hvc:B9v prog a b c d e f g i h K):FCall prog Rw #[.agg #[.bool a,.slice b c d],.agg #[.bool e,.slice f g i]] h K:=
 C8 bod func172 [.cell 4 66] ⟨[],[(3,⟨[],[(2,2),(3,2)],[.bool false,.slice none 0 0,.bool false,.slice none 0 0],⟨[6,7,8,9,10,11],[2,3]⟩⟩),(7,⟨[],[(2,2),(3,2)],[.bool false,.slice none 0 0,.bool false,.slice none 0 0],⟨(Lrg 15 15),[2,3]⟩⟩),(9,⟨[],[(3,2)],[.bool false,.slice none 0 0],⟨[30,31,32,33],[3]⟩⟩)],[(2,([0,2,1,3,4,5],[]))],[],[]⟩ 37 [2,3,4,5] [208,212,213,214] [] (by kernel_rfl) hvc
def NR(P:Program)(e:Int)(h:Heap)(K:VP):Prop:=
 FCall P Ht #[I e] h (fun f g=>∃ (a:Bool) (b:OA) (c d:Nat),f= .agg #[.bool a,.slice b c d]/\K (.agg #[.bool a,.slice b c d,.bool false,.slice none 0 0]) g)
theorem C1n a(hvc:NR prog a h K):FCall prog C16 #[I a] h K:=
 C8 bod func109 [.cell 2 66] an0 6 [2] [173] [] (by kernel_rfl) hvc
def B5c(P:Program)(b:Bool)(c:OA)(d e:Nat)(i:Bool)(j:OA)(k l:Nat)(h:Heap)(K:VP):Prop:=
 FCall P Xo #[.agg #[.bool b,.slice c d e]] h (fun f g=>∃ a,f=I a/\K (I a) g)
theorem B0t a b c d e f g i(hvc:B5c prog a b c d e f g i h K):FCall prog Ee #[.agg #[.bool a,.slice b c d,.bool e,.slice f g i]] h K:=
 C8 bod func39 [.tmp 2] an0 6 [1] [101] [] (by kernel_rfl) hvc
def B9q(P:Program)(f:Bool)(g:OA)(i j:Nat)(k:Bool)(l:OA)(m n:Nat)(h:Heap)(K:VP):Prop:=
 FCall P A0o #[.agg #[.bool f,.slice g i j]] h (fun o e=>∃ (a:Bool) (b:OA) (c d:Nat),o= .agg #[.bool a,.slice b c d]/\Heap.le h e/\K (.agg #[.bool a,.slice b c d,.bool k,.slice l m n]) e)
theorem B3p a b c d e f g i(hvc:B9q prog a b c d e f g i h K):FCall prog A31 #[.agg #[.bool a,.slice b c d,.bool e,.slice f g i]] h K:=
 C8 bod func164 [.cell 2 66] { orders:=[(1,([0,1,3,4,2,5,6],[]))] } 9 [1,2] [208] [] (by kernel_rfl) hvc
def B9t(P:Program)(a:Bool)(b:OA)(c d:Nat)(v:Bool)(w:OA)(k x:Nat)(e:Bool)(f:OA)(g i:Nat)(y:Bool)(z:OA)(l A:Nat)(h:Heap)(K:VP):Prop:=
 ∃ (m:LP),(Br ((k:Int)==(0:Int)) (m [.bool ((l:Int)==(0:Int))] h)
 (m [.bool false] h))/\
 ∀ c5 j,m [.bool c5] j->Br c5 (FCall P A4q #[.agg #[.bool a,.slice b c d],.agg #[.bool e,.slice f g i]] j (fun c6 c7=>∃ (B:Bool) (C:OA) (D E:Nat),c6= .agg #[.bool B,.slice C D E]/\K (.agg #[.bool B,.slice C D E,.bool false,.slice none 0 0]) c7))
 (FCall P Gc #[.agg #[.bool e,.slice f g i,.bool y,.slice z l A]] j (fun c8 n=>∃ (F:Bool) (G:OA) (H J:Nat),c8= .agg #[.bool F,.slice G H J]/\Heap.le j n/\FCall P Ot #[.agg #[.bool a,.slice b c d],.agg #[.bool F,.slice G H J]] n (fun c9 o=>∃ (L:Bool) (M:OA) (N O:Nat),c9= .agg #[.bool L,.slice M N O]/\Heap.le n o/\FCall P Gc #[.agg #[.bool a,.slice b c d,.bool v,.slice w k x]] o (fun d0 p=>∃ (Q:Bool) (R:OA) (S T:Nat),d0= .agg #[.bool Q,.slice R S T]/\Heap.le o p/\FCall P Ot #[.agg #[.bool e,.slice f g i],.agg #[.bool Q,.slice R S T]] p (fun d1 q=>∃ (V:Bool) (W:OA) (X Z:Nat),d1= .agg #[.bool V,.slice W X Z]/\Heap.le p q/\FCall P A4q #[.agg #[.bool L,.slice M N O],.agg #[.bool V,.slice W X Z]] q (fun d2 r=>∃ (a0:Bool) (a1:OA) (a2 a3:Nat),d2= .agg #[.bool a0,.slice a1 a2 a3]/\Heap.le q r/\FCall P Gc #[.agg #[.bool a,.slice b c d,.bool v,.slice w k x]] r (fun d3 s=>∃ (a4:Bool) (a5:OA) (a6 a7:Nat),d3= .agg #[.bool a4,.slice a5 a6 a7]/\Heap.le r s/\FCall P Gc #[.agg #[.bool e,.slice f g i,.bool y,.slice z l A]] s (fun d4 t=>∃ (a8:Bool) (a9:OA) (b0 b1:Nat),d4= .agg #[.bool a8,.slice a9 b0 b1]/\Heap.le s t/\FCall P Ot #[.agg #[.bool a4,.slice a5 a6 a7],.agg #[.bool a8,.slice a9 b0 b1]] t (fun d5 u=>∃ (b2:Bool) (b3:OA) (b4 b5:Nat),d5= .agg #[.bool b2,.slice b3 b4 b5]/\Heap.le t u/\FCall P Rw #[.agg #[.bool a0,.slice a1 a2 a3],.agg #[.bool b2,.slice b3 b4 b5]] u (fun d6 c4=>∃ (b6:Bool) (b7:OA) (b8 b9:Nat) (c0:Bool) (c1:OA) (c2 c3:Nat),d6= .agg #[.bool b6,.slice b7 b8 b9,.bool c0,.slice c1 c2 c3]/\Heap.le u c4/\K (.agg #[.bool b6,.slice b7 b8 b9,.bool c0,.slice c1 c2 c3]) c4))))))))))
theorem B3s a b c d e f g i j k l m n o p q(hvc:B9t prog a b c d e f g i j k l m n o p q h K):FCall prog Xr #[.agg #[.bool a,.slice b c d,.bool e,.slice f g i],.agg #[.bool j,.slice k l m,.bool n,.slice o p q]] h K:=
 C8 bod func163 [.cell 4 66] ⟨[],[(2,⟨[16],[],[.bool false],⟨(Lrg 5 12),[]⟩⟩)],[(3,([0,1,2,5,6,7,11,13,3,4,8,9,10,12,14,15,16,17],[]))],[],[]⟩ 40 [2,3,4] [172,174,175,207] [] (by kernel_rfl) hvc
def B9p(P:Program)(t:Bool)(u:OA)(v w:Nat)(x:Bool)(y:OA)(z A:Nat)(B:Bool)(C:OA)(D E:Nat)(F:Bool)(G:OA)(H J:Nat)(h:Heap)(K:VP):Prop:=
 FCall P A31 #[.agg #[.bool B,.slice C D E,.bool F,.slice G H J]] h (fun L a=>∃ (b:Bool) (c:OA) (d e:Nat) (f:Bool) (g:OA) (i j:Nat),L= .agg #[.bool b,.slice c d e,.bool f,.slice g i j]/\Heap.le h a/\FCall P Xr #[.agg #[.bool t,.slice u v w,.bool x,.slice y z A],.agg #[.bool b,.slice c d e,.bool f,.slice g i j]] a (fun M s=>∃ (k:Bool) (l:OA) (m n:Nat) (o:Bool) (p:OA) (q r:Nat),M= .agg #[.bool k,.slice l m n,.bool o,.slice p q r]/\Heap.le a s/\K (.agg #[.bool k,.slice l m n,.bool o,.slice p q r]) s))
theorem B3o a b c d e f g i j k l m n o p q(hvc:B9p prog a b c d e f g i j k l m n o p q h K):FCall prog A30 #[.agg #[.bool a,.slice b c d,.bool e,.slice f g i],.agg #[.bool j,.slice k l m,.bool n,.slice o p q]] h K:=
 C8 bod func94 [.cell 4 66] an0 9 [2,3,4] [163,164] [] (by kernel_rfl) hvc
def B9r(P:Program)(b:Bool)(c:OA)(d e:Nat)(a0:Bool)(a1:OA)(p a2:Nat)(f:Bool)(g:OA)(i j:Nat)(a3:Bool)(a4:OA)(q a5:Nat)(h:Heap)(K:VP):Prop:=
 ∃ (k:LP),(Br ((p:Int)==(0:Int)) (k [.bool ((q:Int)==(0:Int))] h)
 (k [.bool false] h))/\
 ∀ Z a,k [.bool Z] a->Br Z (FCall P Ot #[.agg #[.bool b,.slice c d e],.agg #[.bool f,.slice g i j]] a (fun a6 a7=>∃ (r:Bool) (s:OA) (t u:Nat),a6= .agg #[.bool r,.slice s t u]/\K (.agg #[.bool r,.slice s t u,.bool false,.slice none 0 0]) a7))
 (FCall P Ot #[.agg #[.bool b,.slice c d e],.agg #[.bool f,.slice g i j]] a (fun a8 l=>∃ (v:Bool) (w:OA) (x y:Nat),a8= .agg #[.bool v,.slice w x y]/\Heap.le a l/\FCall P Gc #[.agg #[.bool b,.slice c d e,.bool a0,.slice a1 p a2]] l (fun a9 m=>∃ (z:Bool) (A:OA) (B C:Nat),a9= .agg #[.bool z,.slice A B C]/\Heap.le l m/\FCall P Gc #[.agg #[.bool f,.slice g i j,.bool a3,.slice a4 q a5]] m (fun b0 n=>∃ (D:Bool) (E:OA) (F G:Nat),b0= .agg #[.bool D,.slice E F G]/\Heap.le m n/\FCall P Ot #[.agg #[.bool z,.slice A B C],.agg #[.bool D,.slice E F G]] n (fun b1 o=>∃ (H:Bool) (J:OA) (L M:Nat),b1= .agg #[.bool H,.slice J L M]/\Heap.le n o/\FCall P Rw #[.agg #[.bool v,.slice w x y],.agg #[.bool H,.slice J L M]] o (fun b2 X=>∃ (N:Bool) (O:OA) (Q R:Nat) (S:Bool) (T:OA) (V W:Nat),b2= .agg #[.bool N,.slice O Q R,.bool S,.slice T V W]/\Heap.le o X/\K (.agg #[.bool N,.slice O Q R,.bool S,.slice T V W]) X))))))
theorem B3q a b c d e f g i j k l m n o p q(hvc:B9r prog a b c d e f g i j k l m n o p q h K):FCall prog Xq #[.agg #[.bool a,.slice b c d,.bool e,.slice f g i],.agg #[.bool j,.slice k l m,.bool n,.slice o p q]] h K:=
 C8 bod func110 [.cell 4 66] ⟨[],[(2,⟨[16],[],[.bool false],⟨(Lrg 5 12),[]⟩⟩)],[(3,([0,1,2,3,5,7,4,6,8,9,10,11],[]))],[],[]⟩ 34 [2,3,4] [172,174,175] [] (by kernel_rfl) hvc
def B9s(P:Program)(k:Bool)(l:OA)(m n:Nat)(o:Bool)(p:OA)(q r:Nat)(s:Bool)(t:OA)(u v:Nat)(w:Bool)(x:OA)(y z:Nat)(h:Heap)(K:VP):Prop:=
 FCall P A30 #[.agg #[.bool k,.slice l m n,.bool o,.slice p q r],.agg #[.bool s,.slice t u v,.bool w,.slice x y z]] h (fun A B=>∃ (a:Bool) (b:OA) (c d:Nat) (e:Bool) (f:OA) (g i:Nat),A= .agg #[.bool a,.slice b c d,.bool e,.slice f g i]/\FCall P Ee #[.agg #[.bool a,.slice b c d,.bool e,.slice f g i]] B (fun C D=>∃ j,C=I j/\K (I j) D))
theorem B3r a b c d e f g i j k l m n o p q(hvc:B9s prog a b c d e f g i j k l m n o p q h K):FCall prog A32 #[.agg #[.bool a,.slice b c d,.bool e,.slice f g i],.agg #[.bool j,.slice k l m,.bool n,.slice o p q]] h K:=
 C8 bod func108 [.tmp 4] an0 9 [2,3] [39,94] [] (by kernel_rfl) hvc
def B9m(P:Program)(f:Bool)(j:OA)(k l:Nat)(m:Bool)(n:OA)(g o:Nat)(h:Heap)(K:VP):Prop:=
 FCall P Ky #[.agg #[.bool f,.slice j k l]] h (fun p i=>∃ (a:ByteArray),p= .string a/\∃ (d:LP),(Br f (((C35 ({ data:=#[45] }:ByteArray)+C35 a:Nat):Int)<=9223372036854775807/\d [.string (({ data:=#[45] }:ByteArray)++a)] i)
 (d [.string a] i))/\
 ∀ c e,d [.string c] e->Br (decide ((g:Int)>(0:Int))) (FCall P Ky #[.agg #[.bool m,.slice n g o]] e (fun q r=>∃ (b:ByteArray),q= .string b/\((C35 ({ data:=#[47] }:ByteArray)+C35 b:Nat):Int)<=9223372036854775807/\((C35 c+C35 (({ data:=#[47] }:ByteArray)++b):Nat):Int)<=9223372036854775807/\K (.string (c++(({ data:=#[47] }:ByteArray)++b))) r))
 (K (.string c) e))
theorem B3l a b c d e f g i(hvc:B9m prog a b c d e f g i h K):FCall prog Nk #[.agg #[.bool a,.slice b c d,.bool e,.slice f g i]] h K:=
 C8 bod func131 [.tmp 2] { cuts:=[(4,⟨[3],[],[.string ⟨#[]⟩],⟨[3,7,8,9,10,11],[]⟩⟩)] } 24 [1] [188] [] (by kernel_rfl) hvc
def B9o(P:Program)(b:ByteArray)(h:Heap)(K:VP):Prop:=
 ∃ (l:LP),(Br (decide (((C35 b:Nat):Int)>(0:Int))) (∃ (E:UInt8),(0<=(0:Int)/\(b)[((0:Int)).toNat]? = some E)/\l [.bool (((E.toNat:Nat):Int)==(45:Int))] h)
 (l [.bool false] h))/\
 ∀ C D,l [.bool C] D->∃ (m:LP),(Br C ((0<=(1:Int)/\(1:Int)<=(((b).size:Nat):Int))/\m [.string ((b).extract (((1:Int)).toNat) ((b).size))] D)
 (m [.string b] D))/\
 ∀ a Z,m [.string a] Z->∃ (n:LP),(∃ (o:LP) (F:LN),o [I ((C35 a:Nat):Int),I 0] Z/\
 ∀ f c e,o [I f,I c] e->Br (decide (c<((C35 a:Nat):Int))) (∃ (G:UInt8),(0<=c/\(a)[c.toNat]? = some G)/\Br (((G.toNat:Nat):Int)==(47:Int)) (n [I c] e)
 (o [I f,I (B5 (c+1))] e/\F [I f,I (B5 (c+1))] e<F [I f,I c] e))
 (n [I f] e))/\
 ∀ d a0,n [I d] a0->(0<=d/\d<=(((a).size:Nat):Int))/\FCall P An #[.string ((a).extract 0 (d.toNat))] a0 (fun a3 R=>∃ (a2:Bool) (H:OA) (J L:Nat) (M:Bool),a3= .tuple #[.agg #[.bool a2,.slice H J L],.bool M]/\Br (!M) (K (.tuple #[.agg #[.bool false,.slice none 0 0,.bool false,.slice none 0 0],.bool false]) R)
 (FCall P Q6 #[.bool C,.slice H J L] R (fun a4 B=>∃ (g:Bool) (i:OA) (j k:Nat),a4= .agg #[.bool g,.slice i j k]/\Br (decide (d<((C35 a:Nat):Int))) ((0<=B5 (d+1)/\B5 (d+1)<=(((a).size:Nat):Int))/\FCall P An #[.string ((a).extract ((B5 (d+1)).toNat) ((a).size))] B (fun a5 S=>∃ (p:Bool) (q:OA) (r s:Nat) (N:Bool),a5= .tuple #[.agg #[.bool p,.slice q r s],.bool N]/\Br (!N) (K (.tuple #[.agg #[.bool false,.slice none 0 0,.bool false,.slice none 0 0],.bool false]) S)
 (FCall P Xo #[.agg #[.bool p,.slice q r s]] S (fun a6 T=>∃ a1,a6=I a1/\Br (a1==(0:Int)) (K (.tuple #[.agg #[.bool false,.slice none 0 0,.bool false,.slice none 0 0],.bool false]) T)
 (FCall P Rw #[.agg #[.bool g,.slice i j k],.agg #[.bool p,.slice q r s]] T (fun a7 V=>∃ (t:Bool) (u:OA) (v w:Nat) (x:Bool) (y:OA) (z A:Nat),a7= .agg #[.bool t,.slice u v w,.bool x,.slice y z A]/\FCall P Nk #[.agg #[.bool t,.slice u v w,.bool x,.slice y z A]] V (fun a8 W=>∃ (O:ByteArray),a8= .string O/\Heap.le V W/\K (.tuple #[.agg #[.bool t,.slice u v w,.bool x,.slice y z A],.bool (C39 O==C39 b)]) W)))))))
 (FCall P Nk #[.agg #[.bool g,.slice i j k,.bool false,.slice none 0 0]] B (fun a9 X=>∃ (Q:ByteArray),a9= .string Q/\Heap.le B X/\K (.tuple #[.agg #[.bool g,.slice i j k,.bool false,.slice none 0 0],.bool (C39 Q==C39 b)]) X)))))
theorem B3n a(hvc:B9o prog a h K):FCall prog Xp #[.string a] h K:=
 C8 bod func100 [.cell 2 66,.tmp 3] ⟨[(7,⟨[6,7],[],[.int .i64 0,.int .i64 0],⟨([6,7]++Lrg 27 11),[]⟩⟩)],[(3,⟨[5],[],[.bool false],⟨([5]++Lrg 14 8),[]⟩⟩),(5,⟨[4],[],[.string ⟨#[]⟩],⟨[4,22,23,24],[]⟩⟩),(11,⟨[6],[],[.int .i64 0],⟨([6,7]++Lrg 27 11),[]⟩⟩)],[(20,([0,1,3,2,4,5,6],[]))],[],[]⟩ 82 [2,8,10,11] [101,131,170,171,172] [] (by kernel_rfl) hvc
def C2m(P:Program)(l:ByteArray)(h:Heap)(K:VP):Prop:=
 FCall P Xp #[.string l] h (fun m k=>∃ (a:Bool) (b:OA) (c d:Nat) (e:Bool) (f:OA) (g i:Nat) (j:Bool),m= .tuple #[.agg #[.bool a,.slice b c d,.bool e,.slice f g i],.bool j]/\Br (!j) (K (.agg #[.bool false,.slice none 0 0,.bool false,.slice none 0 0]) k)
 (K (.agg #[.bool a,.slice b c d,.bool e,.slice f g i]) k))
theorem B7i a(hvc:C2m prog a h K):FCall prog A91 #[.string a] h K:=
 C8 bod func91 [.cell 2 66] an0 14 [2,3] [100] [] (by kernel_rfl) hvc
def B9u(P:Program)(x:OA)(c B:Nat)(h:Heap)(K:VP):Prop:=
 wpH P (C37 58 (I (c:Int)) (I (c:Int))) (fun y z=>∃ (d:OA) (e g:Nat),y= .slice d e g/\∃ (f:LP) (i:LN),f [I 0] z/\
 ∀ a b,f [I a] b->Br (decide (a<(c:Int))) (∃ v,x=some v/\0<=a/\a<(c:Int)/\∃ (j:ByteArray),b.cell? (v.add (a.toNat*1))=some (.string j)/\FCall P Xp #[.string j] b (fun A t=>∃ (k:Bool) (l:OA) (m n:Nat) (o:Bool) (p:OA) (q r:Nat) (s:Bool),A= .tuple #[.agg #[.bool k,.slice l m n,.bool o,.slice p q r],.bool s]/\Br (!s) (K (.tuple #[.slice none 0 0,.bool false]) t)
 (∃ w,d=some w/\0<=a/\a<(e:Int)/\wpH P (C34 66 (.pointer (some (w.add (a.toNat*4)))) (.agg #[.bool k,.slice l m n,.bool o,.slice p q r])) (fun _ u=>f [I (B5 (a+1))] u/\i [I (B5 (a+1))] u<i [I a] b) t)))
 (K (.tuple #[.slice d e g,.bool true]) b)) h
theorem B3t a b c(hvc:B9u prog a b c h K):FCall prog Xs #[.slice a b c] h K:=
 C8 bod func38 [.tmp 2,.tmp 3] { loops:=[(3,⟨[5],[],[.int .i64 0],⟨([2,3,5,6,7]++Lrg 11 20),[6]⟩⟩)] } 32 [6] [100] [] (by kernel_rfl) hvc
def B5b(P:Program)(v:OA)(d A:Nat)(h:Heap)(K:VP):Prop:=
 wpH P (C37 23 (I (d:Int)) (I (d:Int))) (fun w x=>∃ (e:OA) (f i:Nat),w= .slice e f i/\∃ (g:LP) (j:LN),g [I 0] x/\
 ∀ a b,g [I a] b->Br (decide (a<(d:Int))) (∃ c,v=some c/\0<=a/\a<(d:Int)/\∃ (k:Bool) (l:OA) (m n:Nat) (o:Bool) (p:OA) (q r:Nat),b.cell? (Addr.add (c.add (a.toNat*4)) 0)=some (.bool k)/\b.cell? (Addr.add (c.add (a.toNat*4)) 1)=some (.slice l m n)/\b.cell? (Addr.add (c.add (a.toNat*4)) 2)=some (.bool o)/\b.cell? (Addr.add (c.add (a.toNat*4)) 3)=some (.slice p q r)/\FCall P Nk #[.agg #[.bool k,.slice l m n,.bool o,.slice p q r]] b (fun y z=>∃ (s:ByteArray),y= .string s/\∃ u,e=some u/\0<=a/\a<(f:Int)/\wpH P (C34 9 (.pointer (some (u.add (a.toNat*1)))) (.string s)) (fun _ t=>g [I (B5 (a+1))] t/\j [I (B5 (a+1))] t<j [I a] b) z))
 (K (.slice e f i) b)) h
theorem B0r a b c(hvc:B5b prog a b c h K):FCall prog Xn #[.slice a b c] h K:=
 C8 bod func123 [.tmp 2] { loops:=[(3,⟨[4],[],[.int .i64 0],⟨([4]++Lrg 8 14),[]⟩⟩)] } 23 [] [131] [] (by kernel_rfl) hvc
end Go.Proofs.YtajkakhfcokljaaGreatDoor
