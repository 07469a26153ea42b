/- A part. -/
import Derived.Test.YtmbfcbbkbefgfaaGreatDoorG05
import Derived.Test.YtmbfcbbkbefgfaaGreatDoorG08
open Go.Proofs.Tryz
set_option linter.all false
open _root_.Go.Builtin renaming append_->aL
open _root_.ByteArray renaming size->aF
open _root_.Go.Instr renaming storeAt->aE,buildSlice->aH,makeSlice->aJ
open Int renaming fdiv->aG,tdiv->aK,tmod->aM
open _root_.Go renaming Program->aD
open _root_.Go.Proofs.YtmbfcbbkbefgfaaGreatDoor renaming FCall->aC,Heap->aI
namespace Go.Proofs.YtmbfcbbkbefgfaaGreatDoor
open Go
set_option maxRecDepth 100000
variable {h:aI} {K:VP}
abbrev Q1:Nat:=210
abbrev Ky:Nat:=264
abbrev Kz:Nat:=232
abbrev Kt:Nat:=265
abbrev Kv:Nat:=217
abbrev Eg:Nat:=252
abbrev Bv:Nat:=291
abbrev Kw:Nat:=263
abbrev O2:Nat:=154
abbrev Ht:Nat:=118
abbrev Yl:Nat:=134
abbrev A1j:Nat:=206
abbrev A5i:Nat:=215
abbrev Ow:Nat:=129
abbrev Ku:Nat:=209
abbrev A9t:Nat:=207
abbrev Ym:Nat:=208
abbrev Kx:Nat:=192
abbrev Af:Nat:=153
abbrev Gh:Nat:=130
abbrev Sa:Nat:=117
abbrev C22:Nat:=133
abbrev Qe:Nat:=58
abbrev A3v:Nat:=131
abbrev Rz:Nat:=127
abbrev A3u:Nat:=56
abbrev Eh:Nat:=55
abbrev C21:Nat:=125
abbrev Gg:Nat:=155
abbrev Jh:Nat:=105
abbrev Nk:Nat:=78
abbrev C2r:Nat:=81
abbrev C23:Nat:=54
abbrev C0v:Nat:=50
abbrev A89:Nat:=9
abbrev A4p:Nat:=77
abbrev C1:Nat:=272
def Mm:SliceT prog A4p C1 (U32 (0:Int)) 1 4:=⟨by kernel_rfl,by kernel_rfl,rfl,by decide⟩
def H8:prog.cellsOf C1=1/\(prog.info? C1).isSome=true:=⟨by kernel_rfl,by kernel_rfl⟩
abbrev Fm:Nat:=248
abbrev F1:Nat:=5
def Ct:SliceT prog Fm F1 (Y (0:Int)) 1 1:=⟨by kernel_rfl,by kernel_rfl,rfl,by decide⟩
def A69:prog.cellsOf F1=1/\(prog.info? F1).isSome=true:=⟨by kernel_rfl,by kernel_rfl⟩
abbrev Xb:Nat:=75
abbrev A63:Nat:=81
def C1j:SliceT prog Xb A63 (Qv false none 0 0 false none 0 0) 4 64:=⟨by kernel_rfl,by kernel_rfl,rfl,by decide⟩
abbrev Ip:Nat:=38
abbrev R2:Nat:=9
def Xg:SliceT prog Ip R2 (.string ({ data:=#[] }:ByteArray)) 1 16:=⟨by kernel_rfl,by kernel_rfl,rfl,by decide⟩
def Od:prog.cellsOf R2=1/\(prog.info? R2).isSome=true:=⟨by kernel_rfl,by kernel_rfl⟩
def C09(P:aD)(j:OA)(k l:Nat)(h:aI)(K:VP):Prop:=
 ∃ (e:LP) (f:LN),e [.slice j k l] h/\
 ∀ c a b d,e [.slice c a b] d->Bd ((a:Int)>0) (∃ g,Ax c g (B5 ((a:Int)-1)) a <| ∃ i,d.cell? (g.add ((B5 ((a:Int)-1)).toNat*1))=some (U32 i)/\Br (i==0) ((0<=B5 ((a:Int)-1)/\B5 ((a:Int)-1)<=(b:Int))/\e [.slice (J4 c b 0 1) (((B5 ((a:Int)-1)).toNat)-0) (b-0)] d/\f [.slice (J4 c b 0 1) (((B5 ((a:Int)-1)).toNat)-0) (b-0)] d<f [.slice c a b] d)
 (K (Sl c a b) d))
 (K (Sl c a b) d)
def B4i a b c(hvc:C09 prog a b c h K):aC prog Q1 #[Sl a b c] h K:=
 fnk func210 { loops:=[(1,⟨[0],[],[N0],⟨([0]++Lrg 3 17),[]⟩⟩)] } [] [] hvc
def B1u(P:aD)(f:OA)(c r:Nat)(g:OA)(d s:Nat)(h:aI)(K:VP):Prop:=
 Br ((c:Int) != (d:Int)) (Bd ((c:Int)<(d:Int)) (K (I (-1:Int)) h)
 (K (I 1) h))
 (∃ (e:LP) (i:LN),e [I (B5 ((c:Int)-1))] h/\
 ∀ a b,e [I a] b->Bd (a>=0) (∃ j,Ax f j a c <| ∃ k,b.cell? (j.add (a.toNat*1))=some (U32 k)/\∃ l,Ax g l a d <| ∃ m,b.cell? (l.add (a.toNat*1))=some (U32 m)/\Br (k != m) (∃ n,Ax f n a c <| ∃ o,b.cell? (n.add (a.toNat*1))=some (U32 o)/\∃ p,Ax g p a d <| ∃ q,b.cell? (p.add (a.toNat*1))=some (U32 q)/\Bd (o<q) (K (I (-1:Int)) b)
 (K (I 1) b))
 (e [I (B5 (a-1))] b/\i [I (B5 (a-1))] b<i [I a] b))
 (K (I 0) b))
def A7o a b c d e f(hvc:B1u prog a b c d e f h K):aC prog Ky #[Sl a b c,Sl d e f] h K:=
 fnk func264 { loops:=[(6,⟨[5],[],[I 0],⟨([4,5]++Lrg 19 22),[]⟩⟩)] } [] [] hvc
def B1v(P:aD)(p:OA)(i q:Nat)(r:OA)(j s:Nat)(h:aI)(K:VP):Prop:=
 ∃ (k:LP),(Bd ((i:Int)<(j:Int)) (k [.slice r j s,.slice p i q] h)
 (k [.slice p i q,.slice r j s] h))/\
 ∀ v b Q w n R x,k [.slice v b Q,.slice w n R] x->wpH P (aJ 77 (I (B5 ((b:Int)+1))) (I (B5 ((b:Int)+1)))) (fun J L=>∃ e f y,J=Sl e f y/\∃ (l:LP) (t:LN),l [U 0,I 0] L/\
 ∀ d a c,l [U d,I a] c->Bd (a<(b:Int)) (∃ z,Ax v z a b <| ∃ o,c.cell? (z.add (a.toNat*1))=some (U32 o)/\∃ (m:LP),(Bd (a<(n:Int)) (∃ A,Ax w A a n <| ∃ B,c.cell? (A.add (a.toNat*1))=some (U32 B)/\m [U (B8 ((B8 (d+(B8 o)))+(B8 B)))] c)
 (m [U (B8 (d+(B8 o)))] c))/\
 ∀ g C,m [U g] C->∃ D,Ax e D a f<|wpH P (aE 272 (Pt (D.add (a.toNat*1))) (U32 (E9 g))) (fun _ u=>l [U (aG g (2^(min ((32:Int)).toNat 64))),I (B5 (a+1))] u/\t [U (aG g (2^(min ((32:Int)).toNat 64))),I (B5 (a+1))] u<t [U d,I a] c) C)
 (∃ E,Ax e E (b:Int) f<|wpH P (aE 272 (Pt (E.add (((b:Int)).toNat*1))) (U32 (E9 d))) (fun _ M=>aC P Q1 #[Sl e f y] M (fun N O=>∃ F G H,N=Sl F G H/\K (Sl F G H) O)) c)) x
def A7p a b c d e f(hvc:B1v prog a b c d e f h K):aC prog Kz #[Sl a b c,Sl d e f] h K:=
 fnk func232 ⟨[(6,⟨[6,7],[],[U 0,I 0],⟨([6,7]++Lrg 19 31),[]⟩⟩)],[(3,⟨[0,1],[],[N0,N0],⟨[0,1,8,9,10,11,12,13,14],[]⟩⟩),(11,⟨[6],[],[U 0],⟨([6]++Lrg 32 11),[]⟩⟩)],[],[],[]⟩ [] [] hvc
def B1m(P:aD)(x:OA)(c D:Nat)(y:OA)(l E:Nat)(h:aI)(K:VP):Prop:=
 wpH P (aJ 77 (I (c:Int)) (I (c:Int))) (fun z A=>∃ i j o,z=Sl i j o/\∃ (f:LP) (m:LN),f [U 0,I 0] A/\
 ∀ d a b,f [U d,I a] b->Bd (a<(c:Int)) (∃ p,Ax x p a c <| ∃ k,b.cell? (p.add (a.toNat*1))=some (U32 k)/\∃ (g:LP),(Bd (a<(l:Int)) (∃ q,Ax y q a l <| ∃ r,b.cell? (q.add (a.toNat*1))=some (U32 r)/\g [U (B8 ((B8 ((B8 k)-d))-(B8 r)))] b)
 (g [U (B8 ((B8 k)-d))] b))/\
 ∀ e s,g [U e] s->∃ t,Ax i t a j<|wpH P (aE 272 (Pt (t.add (a.toNat*1))) (U32 (E9 e))) (fun _ n=>f [U (Lk .u64 (aG e (2^(min ((32:Int)).toNat 64))) (1:Int)),I (B5 (a+1))] n/\m [U (Lk .u64 (aG e (2^(min ((32:Int)).toNat 64))) (1:Int)),I (B5 (a+1))] n<m [U d,I a] b) s)
 (aC P Q1 #[Sl i j o] b (fun B C=>∃ u v w,B=Sl u v w/\K (Sl u v w) C))) h
def A7j a b c d e f(hvc:B1m prog a b c d e f h K):aC prog Kt #[Sl a b c,Sl d e f] h K:=
 fnk func265 ⟨[(4,⟨[6,7],[],[U 0,I 0],⟨([6,7,8]++Lrg 12 32),[]⟩⟩)],[(9,⟨[8],[],[U 0],⟨([8]++Lrg 25 11),[]⟩⟩)],[],[],[]⟩ [] [] hvc
def B1p(P:aD)(w:OA)(x:Nat)(y:OA)(e:Nat)(j:OA)(k:Nat)(z:LP)(m:LN)(a:Int)(n:aI):Prop:=
 ∃ (l:LP) (o:LN),l [U 0,I 0] n/\
 ∀ d b c,l [U d,I b] c->Bd (b<(e:Int)) (∃ r,Ax w r a x <| ∃ f,c.cell? (r.add (a.toNat*1))=some (U32 f)/\∃ s,Ax y s b e <| ∃ g,c.cell? (s.add (b.toNat*1))=some (U32 g)/\∃ t,Ax j t (B5 (a+b)) k <| ∃ i,c.cell? (t.add ((B5 (a+b)).toNat*1))=some (U32 i)/\∃ u,Ax j u (B5 (a+b)) k<|wpH P (aE 272 (Pt (u.add ((B5 (a+b)).toNat*1))) (U32 (E9 (B8 (d+(B8 ((B8 ((B8 f)*(B8 g)))+(B8 i)))))))) (fun _ p=>l [U (aG (B8 (d+(B8 ((B8 ((B8 f)*(B8 g)))+(B8 i))))) (2^(min ((32:Int)).toNat 64))),I (B5 (b+1))] p/\o [U (aG (B8 (d+(B8 ((B8 ((B8 f)*(B8 g)))+(B8 i))))) (2^(min ((32:Int)).toNat 64))),I (B5 (b+1))] p<o [U d,I b] c) c)
 (∃ v,Ax j v (B5 (a+(e:Int))) k<|wpH P (aE 272 (Pt (v.add ((B5 (a+(e:Int))).toNat*1))) (U32 (E9 d))) (fun _ q=>z [I (B5 (a+1))] q/\m [I (B5 (a+1))] q<m [I a] n) c)
def B1q(P:aD)(m:OA)(a t:Nat)(n:OA)(b u:Nat)(h:aI)(K:VP):Prop:=
 Br ((a:Int)==0) (K (Sl none 0 0) h)
 (Br ((b:Int)==0) (K (Sl none 0 0) h)
 (wpH P (aJ 77 (I (B5 ((a:Int)+(b:Int)))) (I (B5 ((a:Int)+(b:Int))))) (fun p q=>∃ d e i,p=Sl d e i/\∃ (c:LP) (o:LN),c [I 0] q/\
 ∀ f g,c [I f] g->Bd (f<(a:Int)) (B1p P m a n b d e c o f g)
 (aC P Q1 #[Sl d e i] g (fun r s=>∃ j k l,r=Sl j k l/\K (Sl j k l) s))) h))
def A7l a b c d e f(hvc:B1q prog a b c d e f h K):aC prog Kv #[Sl a b c,Sl d e f] h K:=
 fnk func217 { loops:=[(5,⟨[6],[],[I 0],⟨([6,7,8]++Lrg 23 50),[]⟩⟩),(9,⟨[7,8],[],[U 0,I 0],⟨([7,8]++Lrg 29 36),[]⟩⟩)] } [] [] hvc
def A2d(P:aD)(s:OA)(e x:Nat)(c:Int)(h:aI)(K:VP):Prop:=
 wpH P (aJ 77 (I (e:Int)) (I (e:Int))) (fun t u=>∃ i j m,t=Sl i j m/\∃ (g:LP) (k:LN),g [U 0,I (B5 ((e:Int)-1))] u/\
 ∀ b a d,g [U b,I a] d->Bd (a>=0) (∃ n,Ax s n a e <| ∃ f,d.cell? (n.add (a.toNat*1))=some (U32 f)/\Bd (B8 c=0) False
 (∃ o,Ax i o a j<|wpH P (aE 272 (Pt (o.add (a.toNat*1))) (U32 (E9 (B8 (aK (bor .u64 (B8 (b*2^(min ((32:Int)).toNat 64))) (B8 f)) (B8 c)))))) (fun _ l=>Bd (B8 c=0) False
 (g [U (aM (bor .u64 (B8 (b*2^(min ((32:Int)).toNat 64))) (B8 f)) (B8 c)),I (B5 (a-1))] l/\k [U (aM (bor .u64 (B8 (b*2^(min ((32:Int)).toNat 64))) (B8 f)) (B8 c)),I (B5 (a-1))] l<k [U b,I a] d)) d))
 (aC P Q1 #[Sl i j m] d (fun v w=>∃ p q r,v=Sl p q r/\K (.tuple #[Sl p q r,U32 (E9 b)]) w))) h
def A2c a b c d(hvc:A2d prog a b c d h K):aC prog Eg #[Sl a b c,U32 d] h K:=
 fnk func252 { loops:=[(4,⟨[7,8],[],[U 0,I 0],⟨([7,8]++Lrg 15 24),[]⟩⟩)] } [] [] hvc
def Wl(P:aD)(r:OA)(e v:Nat)(f:Int)(h:aI)(K:VP):Prop:=
 wpH P (aJ 77 (I (B5 ((e:Int)+1))) (I (B5 ((e:Int)+1)))) (fun s t=>∃ c d l,s=Sl c d l/\∃ (g:LP) (j:LN),g [I 0] t/\
 ∀ a b,g [I a] b->Bd (a<(e:Int)) (∃ m,Ax r m a e <| ∃ i,b.cell? (m.add (a.toNat*1))=some (U32 i)/\Bd (f<0) False
 (∃ n,Ax c n a d <| ∃ o,b.cell? (n.add (a.toNat*1))=some (U32 o)/\∃ p,Ax c p a d<|wpH P (aE 272 (Pt (p.add (a.toNat*1))) (U32 (bor .u32 o (E9 (B8 ((B8 i)*2^(min f.toNat 64))))))) (fun _ u=>∃ q,Ax c q (B5 (a+1)) d<|wpH P (aE 272 (Pt (q.add ((B5 (a+1)).toNat*1))) (U32 (E9 (aG (B8 ((B8 i)*2^(min f.toNat 64))) (2^(min ((32:Int)).toNat 64)))))) (fun _ k=>g [I (B5 (a+1))] k/\j [I (B5 (a+1))] k<j [I a] b) u) b))
 (K (Sl c d l) b)) h
def Zn a b c d(hvc:Wl prog a b c d h K):aC prog Bv #[Sl a b c,U d] h K:=
 fnk func291 { loops:=[(3,⟨[6],[],[I 0],⟨([6,7]++Lrg 12 28),[]⟩⟩)] } [] [] hvc
def Nx(P:aD)(j:OA)(a:Nat)(u:OA)(v:Nat)(k:Int)(l:Int)(m:Int)(w:Int)(x:Int)(n:LP)(y:aI):Prop:=
 ∃ (g:LP) (o:LN),g [U (B8 (aK (bor .u64 (B8 ((B8 l)*2^(min ((32:Int)).toNat 64))) (B8 m)) (B8 w))),U (aM (bor .u64 (B8 ((B8 l)*2^(min ((32:Int)).toNat 64))) (B8 m)) (B8 x))] y/\
 ∀ b d c,g [U b,U d] c->∃ (i:LP),(Bd (b>=4294967296) (i [] c)
 (∃ p,Ax j p (B5 ((a:Int)-2)) a <| ∃ q,c.cell? (p.add ((B5 ((a:Int)-2)).toNat*1))=some (U32 q)/\∃ r,Ax u r (B5 ((B5 (k+(a:Int)))-2)) v <| ∃ s,c.cell? (r.add ((B5 ((B5 (k+(a:Int)))-2)).toNat*1))=some (U32 s)/\Bd ((B8 (b*(B8 q)))>(bor .u64 (B8 (d*2^(min ((32:Int)).toNat 64))) (B8 s))) (i [] c)
 (n [U b] c)))/\
 ∀ e,i [] e->∃ t,Ax j t (B5 ((a:Int)-1)) a <| ∃ f,e.cell? (t.add ((B5 ((a:Int)-1)).toNat*1))=some (U32 f)/\Bd ((B8 (d+(B8 f)))>=4294967296) (n [U (B8 (b-1))] e)
 (g [U (B8 (b-1)),U (B8 (d+(B8 f)))] e/\o [U (B8 (b-1)),U (B8 (d+(B8 f)))] e<o [U b,U d] c)
def Nv(P:aD)(t:OA)(d:Nat)(f:OA)(g:Nat)(b:Int)(u:Int)(v:LP)(w:aI):Prop:=
 ∃ (k:LP) (l:LN),k [U 0,I 0] w/\
 ∀ e a c,k [U e,I a] c->Bd (a<(d:Int)) (∃ n,Ax f n (B5 (a+b)) g <| ∃ i,c.cell? (n.add ((B5 (a+b)).toNat*1))=some (U32 i)/\∃ o,Ax t o a d <| ∃ j,c.cell? (o.add (a.toNat*1))=some (U32 j)/\∃ p,Ax f p (B5 (a+b)) g<|wpH P (aE 272 (Pt (p.add ((B5 (a+b)).toNat*1))) (U32 (E9 (B8 (e+(B8 ((B8 i)+(B8 j)))))))) (fun _ m=>k [U (aG (B8 (e+(B8 ((B8 i)+(B8 j))))) (2^(min ((32:Int)).toNat 64))),I (B5 (a+1))] m/\l [U (aG (B8 (e+(B8 ((B8 i)+(B8 j))))) (2^(min ((32:Int)).toNat 64))),I (B5 (a+1))] m<l [U e,I a] c) c)
 (∃ q,Ax f q (B5 (b+(d:Int))) g <| ∃ r,c.cell? (q.add ((B5 (b+(d:Int))).toNat*1))=some (U32 r)/\∃ s,Ax f s (B5 (b+(d:Int))) g<|wpH P (aE 272 (Pt (s.add ((B5 (b+(d:Int))).toNat*1))) (U32 (E9 (r+(E9 e))))) (fun _ x=>v [U (B8 (u-1))] x) c)
def Nz(P:aD)(c:OA)(d:Nat)(a:Int)(e:LP)(f:Int)(g:aI):Prop:=
 ∃ b,Ax c b a d<|wpH P (aE 272 (Pt (b.add (a.toNat*1))) (U32 (E9 f))) (fun _ i=>e [] i) g
def Nw(P:aD)(p:OA)(d:Nat)(j:OA)(k:Nat)(A:OA)(B:Nat)(b:Int)(C:LP)(e:Int)(D:aI):Prop:=
 ∃ (m:LP) (q:LN),m [U 0,U 0,I 0] D/\
 ∀ c f a g,m [U c,U f,I a] g->Bd (a<(d:Int)) (∃ t,Ax p t a d <| ∃ i,g.cell? (t.add (a.toNat*1))=some (U32 i)/\∃ u,Ax j u (B5 (a+b)) k <| ∃ l,g.cell? (u.add ((B5 (a+b)).toNat*1))=some (U32 l)/\∃ v,Ax j v (B5 (a+b)) k<|wpH P (aE 272 (Pt (v.add ((B5 (a+b)).toNat*1))) (U32 (E9 (B8 ((B8 ((B8 l)-(Lk .u64 (B8 ((B8 (e*(B8 i)))+c)) (4294967295:Int))))-f))))) (fun _ r=>m [U (aG (B8 ((B8 (e*(B8 i)))+c)) (2^(min ((32:Int)).toNat 64))),U (Lk .u64 (aG (B8 ((B8 ((B8 l)-(Lk .u64 (B8 ((B8 (e*(B8 i)))+c)) (4294967295:Int))))-f)) (2^(min ((32:Int)).toNat 64))) (1:Int)),I (B5 (a+1))] r/\q [U (aG (B8 ((B8 (e*(B8 i)))+c)) (2^(min ((32:Int)).toNat 64))),U (Lk .u64 (aG (B8 ((B8 ((B8 l)-(Lk .u64 (B8 ((B8 (e*(B8 i)))+c)) (4294967295:Int))))-f)) (2^(min ((32:Int)).toNat 64))) (1:Int)),I (B5 (a+1))] r<q [U c,U f,I a] g) g)
 (∃ w,Ax j w (B5 (b+(d:Int))) k <| ∃ o,g.cell? (w.add ((B5 (b+(d:Int))).toNat*1))=some (U32 o)/\∃ x,Ax j x (B5 (b+(d:Int))) k<|wpH P (aE 272 (Pt (x.add ((B5 (b+(d:Int))).toNat*1))) (U32 (E9 (B8 ((B8 ((B8 o)-c))-f))))) (fun _ s=>∃ (n:LP),(Br ((aG (B8 ((B8 ((B8 o)-c))-f)) (2^(min ((63:Int)).toNat 64)))==1) (Nv P p d j k b e n s)
 (n [U e] s))/\
 ∀ y z,n [U y] z->Nz P A B b C y z) g)
def Wm(P:aD)(a:OA)(b:Nat)(c:OA)(d:Nat)(e:OA)(f:Nat)(g:Int)(i:LP)(j:Int)(k:aI):Prop:=
 Nw P a b c d e f g i j k
def Wn(P:aD)(d:LP)(b:LN)(a:Int)(e:aI)(c:aI):Prop:=
 d [I (B5 (a-1))] c/\b [I (B5 (a-1))] c<b [I a] e
def Hy(P:aD)(K:VP)(f:Int)(y:OA)(z A:Nat)(c:OA)(b B:Nat)(C:aI):Prop:=
 ∃ (g:LP) (i:LN),g [I 0] C/\
 ∀ a d,g [I a] d->Bd (a<(b:Int)) (∃ k,Ax c k a b <| ∃ l,d.cell? (k.add (a.toNat*1))=some (U32 l)/\Bd (f<0) False
 (∃ m,Ax c m a b<|wpH P (aE 272 (Pt (m.add (a.toNat*1))) (U32 (aG l (2^(min f.toNat 32))))) (fun _ e=>Bd ((B5 (a+1))<(b:Int)) (∃ n,Ax c n a b <| ∃ o,e.cell? (n.add (a.toNat*1))=some (U32 o)/\∃ p,Ax c p (B5 (a+1)) b <| ∃ q,e.cell? (p.add ((B5 (a+1)).toNat*1))=some (U32 q)/\Bd (B8 ((32:Int)-f)<0) False
 (∃ r,Ax c r a b<|wpH P (aE 272 (Pt (r.add (a.toNat*1))) (U32 (bor .u32 o (E9 (B8 ((B8 q)*2^(min (B8 ((32:Int)-f)).toNat 64))))))) (fun _ j=>g [I (B5 (a+1))] j/\i [I (B5 (a+1))] j<i [I a] d) e))
 (g [I (B5 (a+1))] e/\i [I (B5 (a+1))] e<i [I a] d)) d))
 (aC P Q1 #[Sl y z A] d (fun D E=>∃ s t u,D=Sl s t u/\aC P Q1 #[Sl c b B] E (fun F G=>∃ v w x,F=Sl v w x/\K (.tuple #[Sl s t u,Sl v w x]) G)))
def Wo(P:aD)(K:VP)(A:Int)(e:OA)(a:Nat)(d:OA)(f g:Nat)(k:OA)(l B:Nat)(C:LP)(D:LN)(b:Int)(c:aI):Prop:=
 Bd (b>=0) (∃ (m:LP),(∃ o,Ax d o (B5 (b+(a:Int))) f <| ∃ p,c.cell? (o.add ((B5 (b+(a:Int))).toNat*1))=some (U32 p)/\∃ q,Ax d q (B5 ((B5 (b+(a:Int)))-1)) f <| ∃ r,c.cell? (q.add ((B5 ((B5 (b+(a:Int)))-1)).toNat*1))=some (U32 r)/\∃ s,Ax e s (B5 ((a:Int)-1)) a <| ∃ i,c.cell? (s.add ((B5 ((a:Int)-1)).toNat*1))=some (U32 i)/\Bd (B8 i=0) False
 (∃ t,Ax e t (B5 ((a:Int)-1)) a <| ∃ j,c.cell? (t.add ((B5 ((a:Int)-1)).toNat*1))=some (U32 j)/\Bd (B8 j=0) False
 (∃ (n:LP),(Nx P e a d f b p r i j n c)/\
 ∀ u v,n [U u] v->Wm P e a d f k l b m u v)))/\
 ∀ w,m [] w->Wn P C D b c w)
 ((0<=(a:Int)/\(a:Int)<=(g:Int))/\aC P Q1 #[.slice (J4 d g 0 1) ((((a:Int)).toNat)-0) (g-0)] c (fun E F=>∃ x y z,E=Sl x y z/\Hy P K A k l B x y z F))
def Ny(P:aD)(K:VP)(f:Int)(g:OA)(b:Nat)(i:OA)(c j:Nat)(k:OA)(l m:Nat)(n:aI):Prop:=
 ∃ (a:LP) (o:LN),a [I (B5 ((B5 ((c:Int)-(b:Int)))-1))] n/\
 ∀ d e,a [I d] e->Wo P K f g b i c j k l m a o d e
def A2e(P:aD)(u:OA)(v w:Nat)(g:OA)(c x:Nat)(K:VP)(y:aI):Prop:=
 ∃ (f:LP) (i:LN),f [U 0] y/\
 ∀ a b,f [U a] b->∃ j,Ax g j (B5 ((c:Int)-1)) c <| ∃ k,b.cell? (j.add ((B5 ((c:Int)-1)).toNat*1))=some (U32 k)/\Bd (a<0) False
 (Bd ((E9 (k*2^(min a.toNat 32)))<2147483648) (f [U (B8 (a+1))] b/\i [U (B8 (a+1))] b<i [U a] b)
 (aC P Bv #[Sl g c x,U a] b (fun z A=>∃ l m n,z=Sl l m n/\aC P Q1 #[Sl l m n] A (fun B C=>∃ o e H,B=Sl o e H/\aC P Bv #[Sl u v w,U a] C (fun D E=>∃ p d q,D=Sl p d q/\wpH P (aJ 77 (I (B5 ((B5 ((B5 ((d:Int)-(e:Int)))-1))+1))) (I (B5 ((B5 ((B5 ((d:Int)-(e:Int)))-1))+1)))) (fun F G=>∃ r s t,F=Sl r s t/\Ny P K a o e p d q r s t G) E)))))
def B1s(P:aD)(a:OA)(b c:Nat)(f:OA)(d g:Nat)(h:aI)(K:VP):Prop:=
 aC P Ky #[Sl a b c,Sl f d g] h (fun B e=>∃ m,B=I m/\Bd (m<0) (wpH P (aH 77 0 #[]) (fun C D=>∃ n o p,C=Sl n o p/\wpH P (aL #[77,77] 77 #[Sl n o p,Sl a b c]) (fun E F=>∃ q r s,E=Sl q r s/\K (.tuple #[Sl none 0 0,Sl q r s]) F) D) e)
 (Br ((d:Int)==1) (∃ t,Ax f t (0:Int) d <| ∃ u,e.cell? (t.add (((0:Int)).toNat*1))=some (U32 u)/\aC P Eg #[Sl a b c,U32 u] e (fun G H=>∃ (i:OA) (j k:Nat) (l:Int),G= .tuple #[Sl i j k,U32 l]/\wpH P (aH 77 1 #[(0,U32 l)]) (fun J L=>∃ v w x,J=Sl v w x/\aC P Q1 #[Sl v w x] L (fun M N=>∃ y z A,M=Sl y z A/\K (.tuple #[Sl i j k,Sl y z A]) N)) H))
 (A2e P a b c f d g K e)))
def A7m a b c d e f(hvc:B1s prog a b c d e f h K):aC prog Kw #[Sl a b c,Sl d e f] h K:=
 fnk func263 ⟨[(7,⟨[8],[],[U 0],⟨([8]++Lrg 49 11),[]⟩⟩),(15,⟨[14],[],[I 0],⟨(Lrg 14 11++Lrg 78 178),[]⟩⟩),(20,⟨[16,17],[],[U 0,U 0],⟨([16,17]++Lrg 115 36),[]⟩⟩),(26,⟨[18,19,20],[],[U 0,U 0,I 0],⟨([18,19,20,21,22]++Lrg 151 38),[]⟩⟩),(39,⟨[18,24],[],[U 0,I 0],⟨([18,24]++Lrg 212 29),[]⟩⟩),(48,⟨[26],[],[I 0],⟨([26]++Lrg 260 36),[]⟩⟩)],[(16,⟨[],[],[],⟨(Lrg 15 10++Lrg 82 174),[]⟩⟩),(21,⟨[],[],[],⟨(Lrg 115 24),[]⟩⟩),(24,⟨[16],[],[U 0],⟨([16,17]++Lrg 115 36),[]⟩⟩),(45,⟨[16],[],[U 0],⟨([16,18,24]++Lrg 207 44),[]⟩⟩)],[],[],[]⟩ [] [] hvc
def B66(P:aD)(d:Bool)(b:OA)(a c:Nat)(h:aI)(K:VP):Prop:=
 Br d (K (.agg #[.bool (decide ((a:Int)>0)),Sl b a c]) h)
 (K (Zv false b a c) h)
def B1r a b c d(hvc:B66 prog a b c d h K):aC prog O2 #[.bool a,Sl b c d] h K:=
 fnk func154 an0 [4] [] hvc
def A5y(P:aD)(a:Int)(h:aI)(K:VP):Prop:=
 ∃ (b:LP),(Bd (a<0) (b [U (B8 (0-(B8 a)))] h)
 (b [U (B8 a)] h))/\
 ∀ c d,b [U c] d->wpH P (aH 77 2 #[(0,U32 (E9 c)),(1,U32 (E9 (aG c (2^(min ((32:Int)).toNat 64)))))]) (fun p q=>∃ e f g,p=Sl e f g/\aC P Q1 #[Sl e f g] q (fun r s=>∃ i j k,r=Sl i j k/\aC P O2 #[.bool (decide (a<0)),Sl i j k] s (fun t u=>∃ l m n o,t=Zv l m n o/\K (Zv l m n o) u))) d
def A4g a(hvc:A5y prog a h K):aC prog Ht #[I a] h K:=
 fnk func118 { cuts:=[(4,⟨[3],[],[U 0],⟨[3,6,7,8,9],[]⟩⟩)] } [2] [] hvc
def C0b(P:aD)(a:Bool)(c:OA)(b d:Nat)(h:aI)(K:VP):Prop:=
 Br a (K (I (-1:Int)) h)
 (Br ((b:Int)==0) (K (I 0) h)
 (K (I 1) h))
def B4k a b c d(hvc:C0b prog a b c d h K):aC prog Yl #[Zv a b c d] h K:=
 fnk func134 an0 [1] [] hvc
def C3i(P:aD)(e:Bool)(f:OA)(g i:Nat)(h:aI)(K:VP):Prop:=
 aC P O2 #[.bool (!e),Sl f g i] h (fun j k=>∃ a b c d,j=Zv a b c d/\K (Zv a b c d) k)
def B8a a b c d(hvc:C3i prog a b c d h K):aC prog A1j #[Zv a b c d] h K:=
 fnk func206 an0 [1,2] [] hvc
def C3l(P:aD)(i:Bool)(a:OA)(b c:Nat)(m:Bool)(d:OA)(e f:Nat)(h:aI)(K:VP):Prop:=
 Br (i==m) (aC P Kz #[Sl a b c,Sl d e f] h (fun O j=>∃ q r s,O=Sl q r s/\h.le j/\aC P O2 #[.bool i,Sl q r s] j (fun Q n=>∃ t u v w,Q=Zv t u v w/\j.le n/\K (Zv t u v w) n)))
 (aC P Ky #[Sl a b c,Sl d e f] h (fun R g=>∃ x,R=I x/\Bd (x>=0) (aC P Kt #[Sl a b c,Sl d e f] g (fun S k=>∃ y z A,S=Sl y z A/\g.le k/\aC P O2 #[.bool i,Sl y z A] k (fun T o=>∃ B C D E,T=Zv B C D E/\k.le o/\K (Zv B C D E) o)))
 (aC P Kt #[Sl d e f,Sl a b c] g (fun V l=>∃ F G H,V=Sl F G H/\g.le l/\aC P O2 #[.bool m,Sl F G H] l (fun W p=>∃ J L M N,W=Zv J L M N/\l.le p/\K (Zv J L M N) p)))))
def B8d a b c d e f g i(hvc:C3l prog a b c d e f g i h K):aC prog A5i #[Zv a b c d,Zv e f g i] h K:=
 fnk func215 an0 [2,3,4] [] hvc
def C3j(P:aD)(k:Bool)(l:OA)(m n:Nat)(o:Bool)(p:OA)(q r:Nat)(h:aI)(K:VP):Prop:=
 aC P Kv #[Sl l m n,Sl p q r] h (fun s a=>∃ c d e,s=Sl c d e/\h.le a/\aC P O2 #[.bool (!(k==o)),Sl c d e] a (fun t b=>∃ f g i j,t=Zv f g i j/\a.le b/\K (Zv f g i j) b))
def B8b a b c d e f g i(hvc:C3j prog a b c d e f g i h K):aC prog Ow #[Zv a b c d,Zv e f g i] h K:=
 fnk func129 an0 [2,3,4] [] hvc
def B1o(P:aD)(b:Bool)(t:OA)(u v:Nat)(w:Bool)(x:OA)(y z:Nat)(h:aI)(K:VP):Prop:=
 aC P Kw #[Sl t u v,Sl x y z] h (fun A j=>∃ (c:OA) (d e:Nat) (f:OA) (g i:Nat),A= .tuple #[Sl c d e,Sl f g i]/\aC P O2 #[.bool (!(b==w)),Sl c d e] j (fun B a=>∃ l m n o,B=Zv l m n o/\j.le a/\aC P O2 #[.bool b,Sl f g i] a (fun C k=>∃ p q r s,C=Zv p q r s/\a.le k/\K (.tuple #[Zv l m n o,Zv p q r s]) k)))
def A7k a b c d e f g i(hvc:B1o prog a b c d e f g i h K):aC prog Ku #[Zv a b c d,Zv e f g i] h K:=
 fnk func209 { orders:=[(2,([0,1,2,3,4,5,7,8,9,6,10,11,12],[]))] } [2,3,4,5] [] hvc
def C3k(P:aD)(E:Bool)(s:OA)(t u:Nat)(F:Bool)(v:OA)(w x:Nat)(h:aI)(K:VP):Prop:=
 ∃ (i:LP) (m:LN),i [.slice s t u,.slice v w x] h/\
 ∀ d e f b a c g,i [.slice d e f,.slice b a c] g->Bd ((a:Int)>0) (aC P Kw #[Sl d e f,Sl b a c] g (fun B n=>∃ (y:OA) (z A:Nat) (j:OA) (k l:Nat),B= .tuple #[Sl y z A,Sl j k l]/\i [.slice b a c,.slice j k l] n/\m [.slice b a c,.slice j k l] n<m [.slice d e f,.slice b a c] g))
 (aC P O2 #[.bool false,Sl d e f] g (fun C D=>∃ o p q r,C=Zv o p q r/\K (Zv o p q r) D))
def B8c a b c d e f g i(hvc:C3k prog a b c d e f g i h K):aC prog A9t #[Zv a b c d,Zv e f g i] h K:=
 fnk func207 { loops:=[(2,⟨[5,6],[],[N0,N0],⟨([5,6,7,8]++Lrg 13 11),[]⟩⟩)] } [2,3,4] [] hvc
def C0k(P:aD)(k:Bool)(j:OA)(a l:Nat)(h:aI)(K:VP):Prop:=
 Br ((a:Int)==0) (K (I 0) h)
 (∃ g,Ax j g (B5 ((a:Int)-1)) a <| ∃ i,h.cell? (g.add ((B5 ((a:Int)-1)).toNat*1))=some (U32 i)/\∃ (e:LP) (f:LN),e [I (B5 ((32:Int)*(B5 ((a:Int)-1)))),U32 i] h/\
 ∀ b c d,e [I b,U32 c] d->Bd (c>0) (e [I (B5 (b+1)),U32 (aG c (2^(min ((1:Int)).toNat 32)))] d/\f [I (B5 (b+1)),U32 (aG c (2^(min ((1:Int)).toNat 32)))] d<f [I b,U32 c] d)
 (K (I b) d))
def B4t a b c d(hvc:C0k prog a b c d h K):aC prog Ym #[Zv a b c d] h K:=
 fnk func208 { loops:=[(5,⟨[3,4],[],[I 0,.int .u32 0],⟨[3,4,22,23,24,25,26,27],[]⟩⟩)] } [1] [] hvc
def B1t(P:aD)(b9:Bool)(a6:OA)(L a7:Nat)(h:aI)(K:VP):Prop:=
 Br ((L:Int)==0) (K (.string ({ data:=#[48] }:ByteArray)) h)
 (∃ (p:LP) (M:LN),p [N0,.slice a6 L a7] h/\
 ∀ j g x y i z k,p [.slice j g x,.slice y i z] k->Bd ((i:Int)>0) (aC P Eg #[Sl y i z,U32 (1000000000:Int)] k (fun a8 a9=>∃ (q:OA) (r s:Nat) (N:Int),a8= .tuple #[Sl q r s,U32 N]/\wpH P (aH 77 1 #[(0,U32 N)]) (fun b0 b1=>∃ T V W,b0=Sl T V W/\wpH P (aL #[77,77] 77 #[Sl j g x,Sl T V W]) (fun b2 S=>∃ A B C,b2=Sl A B C/\p [.slice A B C,.slice q r s] S/\M [.slice A B C,.slice q r s] S<M [.slice j g x,.slice y i z] k) b1) a9))
 (∃ (t:LP) (O:LN),t [N0,I (B5 ((g:Int)-1))] k/\
 ∀ l m n c o,t [.slice l m n,I c] o->Bd (c>=0) (∃ (u:LP) (Q:LN),u [.slice l m n,U32 (100000000:Int)] o/\
 ∀ e b f a d,u [.slice e b f,U32 a] d->Bd (a>0) (∃ (v:LP),(∃ X,Ax j X c g <| ∃ D,d.cell? (X.add (c.toNat*1))=some (U32 D)/\Bd (a=0) False
 (∃ (w:LP),(Bd ((b:Int)>0) (w [.bool true] d)
 (w [.bool ((wu8 (E9 ((48:Int)+(aM (E9 (aK D a)) (10:Int))))) != 48)] d))/\
 ∀ Z E,w [.bool Z] E->Br Z (wpH P (aH 248 1 #[(0,Y (wu8 (E9 ((48:Int)+(aM (E9 (aK D a)) (10:Int))))))]) (fun b3 b4=>∃ a0 a1 a2,b3=Sl a0 a1 a2/\wpH P (aL #[248,248] 248 #[Sl e b f,Sl a0 a1 a2]) (fun b5 b6=>∃ a3 a4 a5,b5=Sl a3 a4 a5/\v [.slice a3 a4 a5] b6) b4) E)
 (v [.slice e b f] E)))/\
 ∀ F G H J,v [.slice F G H] J->u [.slice F G H,U32 (E9 (aK a (10:Int)))] J/\Q [.slice F G H,U32 (E9 (aK a (10:Int)))] J<Q [.slice e b f,U32 a] d)
 (t [.slice e b f,I (B5 (c-1))] d/\O [.slice e b f,I (B5 (c-1))] d<O [.slice l m n,I c] o))
 (wpH P (convert 248 9 (.slice l m n)) (fun b7 b8=>∃ (R:ByteArray),b7= .string R/\K (.string R) b8) o)))
def A7n a b c d(hvc:B1t prog a b c d h K):aC prog Kx #[Zv a b c d] h K:=
 fnk func192 ⟨[(5,⟨[3,4],[],[N0,N0],⟨([3,4,5,6]++Lrg 17 13),[]⟩⟩),(11,⟨[7,8],[],[N0,I 0],⟨([7,8,9,10]++Lrg 33 28),[]⟩⟩),(14,⟨[7,9],[],[N0,.int .u32 0],⟨([7,9,10]++Lrg 37 24),[]⟩⟩)],[(15,⟨[7],[],[N0],⟨([7,10]++Lrg 41 20),[]⟩⟩),(18,⟨[56],[],[.bool false],⟨[50,51,52,53,54,55,56],[]⟩⟩)],[],[],[]⟩ [1] [] hvc
def Ts(P:aD)(c:ByteArray)(h:aI)(K:VP):Prop:=
 ∃ (q:LP) (G:LN),q [N0,I 0,.bool false,N0] h/\
 ∀ l m n o u v w x p,q [.slice l m n,I o,.bool u,.slice v w x] p->Bd (o<((aF c:Nat):Int)) (∃ (r:LP),(∃ (s:LP) (H:LN),s [I o,U32 (0:Int),U32 (1:Int),I 0,.bool u,.slice v w x] p/\
 ∀ a d e k f g i j b,s [I a,U32 d,U32 e,I k,.bool f,.slice g i j] b->Bd (k<9) (Bd (a<((aF c:Nat):Int)) (∃ (J:UInt8),(0<=a/\(c)[a.toNat]? = some J)/\Bd (((J.toNat:Nat):Int)<48) (K (.tuple #[Zv false none 0 0,.bool false]) b)
 (∃ (L:UInt8),(0<=a/\(c)[a.toNat]? = some L)/\Bd (((L.toNat:Nat):Int)>57) (K (.tuple #[Zv false none 0 0,.bool false]) b)
 (∃ (t:UInt8),(0<=a/\(c)[a.toNat]? = some t)/\s [I (B5 (a+1)),U32 (E9 ((E9 (d*(10:Int)))+(E9 (wu8 (((t.toNat:Nat):Int)-48))))),U32 (E9 (e*(10:Int))),I (B5 (k+1)),.bool f,.slice g i j] b/\H [I (B5 (a+1)),U32 (E9 ((E9 (d*(10:Int)))+(E9 (wu8 (((t.toNat:Nat):Int)-48))))),U32 (E9 (e*(10:Int))),I (B5 (k+1)),.bool f,.slice g i j] b<H [I a,U32 d,U32 e,I k,.bool f,.slice g i j] b)))
 (r [I a,U32 d,U32 e,.bool f,.slice g i j] b))
 (r [I a,U32 d,U32 e,.bool f,.slice g i j] b))/\
 ∀ y N O z A B C Q,r [I y,U32 N,U32 O,.bool z,.slice A B C] Q->wpH P (aH 77 1 #[(0,U32 O)]) (fun a9 b0=>∃ R S T,a9=Sl R S T/\aC P Kv #[Sl l m n,Sl R S T] b0 (fun b1 b2=>∃ V W X,b1=Sl V W X/\wpH P (aH 77 1 #[(0,U32 N)]) (fun b3 b4=>∃ Z a0 a1,b3=Sl Z a0 a1/\aC P Q1 #[Sl Z a0 a1] b4 (fun b5 b6=>∃ a2 a3 a4,b5=Sl a2 a3 a4/\aC P Kz #[Sl V W X,Sl a2 a3 a4] b6 (fun b7 M=>∃ D E F,b7=Sl D E F/\q [.slice D E F,I y,.bool z,.slice A B C] M/\G [.slice D E F,I y,.bool z,.slice A B C] M<G [.slice l m n,I o,.bool u,.slice v w x] p))) b2)) Q)
 (aC P O2 #[.bool false,Sl l m n] p (fun b8 b9=>∃ a5 a6 a7 a8,b8=Zv a5 a6 a7 a8/\K (.tuple #[Zv a5 a6 a7 a8,.bool (!(c.toList==ByteArray.toList ({ data:=#[] }:ByteArray)))]) b9))
def Un a(hvc:Ts prog a h K):aC prog Af #[.string a] h K:=
 fnk func153 ⟨[(3,⟨[4,5],[(2,2)],[N0,I 0,.bool false,N0],⟨(Lrg 3 51),[2]⟩⟩),(6,⟨[5,6,7,8],[(2,2)],[I 0,.int .u32 0,.int .u32 0,I 0,.bool false,N0],⟨([3,5,6,7,8]++Lrg 13 33),[2]⟩⟩)],[(12,⟨[5,6,7],[(2,2)],[I 0,.int .u32 0,.int .u32 0,.bool false,N0],⟨([3,5,6,7,8]++Lrg 13 33),[2]⟩⟩)],[],[],[]⟩ [2] [] hvc
def C0j(P:aD)(l:Bool)(m:OA)(n o:Nat)(f:Bool)(g:OA)(a i:Nat)(h:aI)(K:VP):Prop:=
 Br ((a:Int)==0) (aC P Ht #[I 1] h (fun j k=>∃ b c d e,j=Zv b c d e/\K (Zv b c d e) k))
 (K (Zv f g a i) h)
def B4s a b c d e f g i(hvc:C0j prog a b c d e f g i h K):aC prog Gh #[Qv a b c d e f g i] h K:=
 fnk func130 an0 [1,2] [] hvc
def C0i(P:aD)(w:Bool)(x:OA)(y z:Nat)(n:Bool)(A:OA)(B C:Nat)(h:aI)(K:VP):Prop:=
 ∃ (o:LP),(Br n (aC P A1j #[Zv w x y z] h (fun c2 r=>∃ R S T V,c2=Zv R S T V/\h.le r/\aC P A1j #[Zv n A B C] r (fun c3 N=>∃ W X Z a0,c3=Zv W X Z a0/\r.le N/\o [.bool R,.slice S T V,.bool W,.slice X Z a0] N)))
 (o [.bool w,.slice x y z,.bool n,.slice A B C] h))/\
 ∀ a b c d e f g i a1,o [.bool a,.slice b c d,.bool e,.slice f g i] a1->aC P A9t #[Zv a b c d,Zv e f g i] a1 (fun c4 c5=>∃ j k l m,c4=Zv j k l m/\∃ (p:LP),(aC P Ym #[Zv j k l m] c5 (fun c6 O=>∃ a2,c6=I a2/\Bd (a2>1) (aC P Ku #[Zv a b c d,Zv j k l m] O (fun c7 c8=>∃ (D:Bool) (E:OA) (F G:Nat) (b4:Bool) (b5:OA) (b6 b7:Nat),c7= .tuple #[Zv D E F G,Zv b4 b5 b6 b7]/\aC P Ku #[Zv e f g i,Zv j k l m] c8 (fun c9 d0=>∃ (H:Bool) (J:OA) (L M:Nat) (b8:Bool) (b9:OA) (c0 c1:Nat),c9= .tuple #[Zv H J L M,Zv b8 b9 c0 c1]/\p [.bool D,.slice E F G,.bool H,.slice J L M] d0)))
 (p [.bool a,.slice b c d,.bool e,.slice f g i] O)))/\
 ∀ a3 a4 a5 a6 s t u v a7,p [.bool a3,.slice a4 a5 a6,.bool s,.slice t u v] a7->∃ (q:LP),(aC P Ym #[Zv s t u v] a7 (fun d1 Q=>∃ a8,d1=I a8/\Br (a8==1) (q [.bool false,N0] Q)
 (q [.bool s,.slice t u v] Q)))/\
 ∀ a9 b0 b1 b2 b3,q [.bool a9,.slice b0 b1 b2] b3->K (Qv a3 a4 a5 a6 a9 b0 b1 b2) b3)
def B4r a b c d e f g i(hvc:C0i prog a b c d e f g i h K):aC prog Sa #[Zv a b c d,Zv e f g i] h K:=
 fnk func117 ⟨[],[(3,⟨[],[(2,2),(3,2)],[.bool false,N0,.bool false,N0],⟨[6,7,8,9,10,11],[2,3]⟩⟩),(7,⟨[],[(2,2),(3,2)],[.bool false,N0,.bool false,N0],⟨(Lrg 15 15),[2,3]⟩⟩),(9,⟨[],[(3,2)],[.bool false,N0],⟨[30,31,32,33],[3]⟩⟩)],[(2,([0,2,1,3,4,5],[]))],[],[]⟩ [2,3,4,5] [] hvc
def NR(P:aD)(e:Int)(h:aI)(K:VP):Prop:=
 aC P Ht #[I e] h (fun f g=>∃ a b c d,f=Zv a b c d/\K (Qv a b c d false none 0 0) g)
def C2h a(hvc:NR prog a h K):aC prog C22 #[I a] h K:=
 fnk func133 an0 [2] [] hvc
def B65(P:aD)(b:Bool)(c:OA)(d e:Nat)(i:Bool)(j:OA)(k l:Nat)(h:aI)(K:VP):Prop:=
 aC P Yl #[Zv b c d e] h (fun f g=>∃ a,f=I a/\K (I a) g)
def B1n a b c d e f g i(hvc:B65 prog a b c d e f g i h K):aC prog Qe #[Qv a b c d e f g i] h K:=
 fnk func58 an0 [1] [] hvc
def C0e(P:aD)(f:Bool)(g:OA)(i j:Nat)(k:Bool)(l:OA)(m n:Nat)(h:aI)(K:VP):Prop:=
 aC P A1j #[Zv f g i j] h (fun o a=>∃ b c d e,o=Zv b c d e/\h.le a/\K (Qv b c d e k l m n) a)
def B4n a b c d e f g i(hvc:C0e prog a b c d e f g i h K):aC prog A3v #[Qv a b c d e f g i] h K:=
 fnk func131 { orders:=[(1,([0,1,3,4,2,5,6],[]))] } [1,2] [] hvc
def C0h(P:aD)(a:Bool)(b:OA)(c d:Nat)(v:Bool)(w:OA)(k x:Nat)(e:Bool)(f:OA)(g i:Nat)(y:Bool)(z:OA)(l A:Nat)(h:aI)(K:VP):Prop:=
 ∃ (m:LP),(Br ((k:Int)==0) (m [.bool ((l:Int)==0)] h)
 (m [.bool false] h))/\
 ∀ C j,m [.bool C] j->Br C (aC P A5i #[Zv a b c d,Zv e f g i] j (fun c6 c7=>∃ D E F G,c6=Zv D E F G/\K (Qv D E F G false none 0 0) c7))
 (aC P Gh #[Qv e f g i y z l A] j (fun c8 n=>∃ H J L M,c8=Zv H J L M/\j.le n/\aC P Ow #[Zv a b c d,Zv H J L M] n (fun c9 o=>∃ N O Q R,c9=Zv N O Q R/\n.le o/\aC P Gh #[Qv a b c d v w k x] o (fun d0 p=>∃ S T V W,d0=Zv S T V W/\o.le p/\aC P Ow #[Zv e f g i,Zv S T V W] p (fun d1 q=>∃ X Z a0 a1,d1=Zv X Z a0 a1/\p.le q/\aC P A5i #[Zv N O Q R,Zv X Z a0 a1] q (fun d2 r=>∃ a2 a3 a4 a5,d2=Zv a2 a3 a4 a5/\q.le r/\aC P Gh #[Qv a b c d v w k x] r (fun d3 s=>∃ a6 a7 a8 a9,d3=Zv a6 a7 a8 a9/\r.le s/\aC P Gh #[Qv e f g i y z l A] s (fun d4 t=>∃ b0 b1 b2 b3,d4=Zv b0 b1 b2 b3/\s.le t/\aC P Ow #[Zv a6 a7 a8 a9,Zv b0 b1 b2 b3] t (fun d5 u=>∃ b4 b5 b6 b7,d5=Zv b4 b5 b6 b7/\t.le u/\aC P Sa #[Zv a2 a3 a4 a5,Zv b4 b5 b6 b7] u (fun d6 B=>∃ b8 b9 c0 c1 c2 c3 c4 c5,d6=Qv b8 b9 c0 c1 c2 c3 c4 c5/\u.le B/\K (Qv b8 b9 c0 c1 c2 c3 c4 c5) B))))))))))
def B4q a b c d e f g i j k l m n o p q(hvc:C0h prog a b c d e f g i j k l m n o p q h K):aC prog Rz #[Qv a b c d e f g i,Qv j k l m n o p q] h K:=
 fnk func127 ⟨[],[(2,⟨[16],[],[.bool false],⟨(Lrg 5 12),[]⟩⟩)],[(3,([0,1,2,5,6,7,11,13,3,4,8,9,10,12,14,15,16,17],[]))],[],[]⟩ [2,3,4] [] hvc
def C0d(P:aD)(t:Bool)(u:OA)(v w:Nat)(x:Bool)(y:OA)(z A:Nat)(B:Bool)(C:OA)(D E:Nat)(F:Bool)(G:OA)(H J:Nat)(h:aI)(K:VP):Prop:=
 aC P A3v #[Qv B C D E F G H J] h (fun L a=>∃ c d e f g i j k,L=Qv c d e f g i j k/\h.le a/\aC P Rz #[Qv t u v w x y z A,Qv c d e f g i j k] a (fun M b=>∃ l m n o p q r s,M=Qv l m n o p q r s/\a.le b/\K (Qv l m n o p q r s) b))
def B4m a b c d e f g i j k l m n o p q(hvc:C0d prog a b c d e f g i j k l m n o p q h K):aC prog A3u #[Qv a b c d e f g i,Qv j k l m n o p q] h K:=
 fnk func56 an0 [2,3,4] [] hvc
def C0f(P:aD)(b:Bool)(c:OA)(d e:Nat)(a0:Bool)(a1:OA)(p a2:Nat)(f:Bool)(g:OA)(i j:Nat)(a3:Bool)(a4:OA)(q a5:Nat)(h:aI)(K:VP):Prop:=
 ∃ (k:LP),(Br ((p:Int)==0) (k [.bool ((q:Int)==0)] h)
 (k [.bool false] h))/\
 ∀ s a,k [.bool s] a->Br s (aC P Ow #[Zv b c d e,Zv f g i j] a (fun a6 a7=>∃ t u v w,a6=Zv t u v w/\K (Qv t u v w false none 0 0) a7))
 (aC P Ow #[Zv b c d e,Zv f g i j] a (fun a8 l=>∃ x y z A,a8=Zv x y z A/\a.le l/\aC P Gh #[Qv b c d e a0 a1 p a2] l (fun a9 m=>∃ B C D E,a9=Zv B C D E/\l.le m/\aC P Gh #[Qv f g i j a3 a4 q a5] m (fun b0 n=>∃ F G H J,b0=Zv F G H J/\m.le n/\aC P Ow #[Zv B C D E,Zv F G H J] n (fun b1 o=>∃ L M N O,b1=Zv L M N O/\n.le o/\aC P Sa #[Zv x y z A,Zv L M N O] o (fun b2 r=>∃ Q R S T V W X Z,b2=Qv Q R S T V W X Z/\o.le r/\K (Qv Q R S T V W X Z) r))))))
def B4o a b c d e f g i j k l m n o p q(hvc:C0f prog a b c d e f g i j k l m n o p q h K):aC prog Eh #[Qv a b c d e f g i,Qv j k l m n o p q] h K:=
 fnk func55 ⟨[],[(2,⟨[16],[],[.bool false],⟨(Lrg 5 12),[]⟩⟩)],[(3,([0,1,2,3,5,7,4,6,8,9,10,11],[]))],[],[]⟩ [2,3,4] [] hvc
def C0g(P:aD)(k:Bool)(l:OA)(m n:Nat)(o:Bool)(p:OA)(q r:Nat)(s:Bool)(t:OA)(u v:Nat)(w:Bool)(x:OA)(y z:Nat)(h:aI)(K:VP):Prop:=
 aC P A3u #[Qv k l m n o p q r,Qv s t u v w x y z] h (fun A B=>∃ a b c d e f g i,A=Qv a b c d e f g i/\aC P Qe #[Qv a b c d e f g i] B (fun C D=>∃ j,C=I j/\K (I j) D))
def B4p a b c d e f g i j k l m n o p q(hvc:C0g prog a b c d e f g i j k l m n o p q h K):aC prog Gg #[Qv a b c d e f g i,Qv j k l m n o p q] h K:=
 fnk func155 an0 [2,3] [] hvc
def C0a(P:aD)(f:Bool)(j:OA)(k l:Nat)(m:Bool)(n:OA)(g o:Nat)(h:aI)(K:VP):Prop:=
 aC P Kx #[Zv f j k l] h (fun p i=>∃ (a:ByteArray),p= .string a/\∃ (d:LP),(Br f (((aF ({ data:=#[45] }:ByteArray)+aF a:Nat):Int)<=9223372036854775807/\d [.string (({ data:=#[45] }:ByteArray)++a)] i)
 (d [.string a] i))/\
 ∀ c e,d [.string c] e->Bd ((g:Int)>0) (aC P Kx #[Zv m n g o] e (fun q r=>∃ (b:ByteArray),q= .string b/\((aF ({ data:=#[47] }:ByteArray)+aF b:Nat):Int)<=9223372036854775807/\((aF c+aF (({ data:=#[47] }:ByteArray)++b):Nat):Int)<=9223372036854775807/\K (.string (c++(({ data:=#[47] }:ByteArray)++b))) r))
 (K (.string c) e))
def B4j a b c d e f g i(hvc:C0a prog a b c d e f g i h K):aC prog Jh #[Qv a b c d e f g i] h K:=
 fnk func105 { cuts:=[(4,⟨[3],[],[.string ⟨#[]⟩],⟨[3,7,8,9,10,11],[]⟩⟩)] } [1] [] hvc
def C0c(P:aD)(b:ByteArray)(h:aI)(K:VP):Prop:=
 ∃ (l:LP),(Bd (((aF b:Nat):Int)>0) (∃ (E:UInt8),(0<=(0:Int)/\(b)[((0:Int)).toNat]? = some E)/\l [.bool (((E.toNat:Nat):Int)==45)] h)
 (l [.bool false] h))/\
 ∀ u v,l [.bool u] v->∃ (m:LP),(Br u ((0<=(1:Int)/\(1:Int)<=(((b).size:Nat):Int))/\m [.string ((b).extract (((1:Int)).toNat) ((b).size))] v)
 (m [.string b] v))/\
 ∀ a Z,m [.string a] Z->∃ (n:LP),(∃ (o:LP) (F:LN),o [I ((aF a:Nat):Int),I 0] Z/\
 ∀ f c e,o [I f,I c] e->Bd (c<((aF a:Nat):Int)) (∃ (G:UInt8),(0<=c/\(a)[c.toNat]? = some G)/\Br (((G.toNat:Nat):Int)==47) (n [I c] e)
 (o [I f,I (B5 (c+1))] e/\F [I f,I (B5 (c+1))] e<F [I f,I c] e))
 (n [I f] e))/\
 ∀ d a0,n [I d] a0->(0<=d/\d<=(((a).size:Nat):Int))/\aC P Af #[.string ((a).extract 0 (d.toNat))] a0 (fun a3 R=>∃ (a2:Bool) (H:OA) (J L:Nat) (M:Bool),a3= .tuple #[Zv a2 H J L,.bool M]/\Br (!M) (K (.tuple #[Qv false none 0 0 false none 0 0,.bool false]) R)
 (aC P O2 #[.bool u,Sl H J L] R (fun a4 t=>∃ g i j k,a4=Zv g i j k/\Bd (d<((aF a:Nat):Int)) ((0<=B5 (d+1)/\B5 (d+1)<=(((a).size:Nat):Int))/\aC P Af #[.string ((a).extract ((B5 (d+1)).toNat) ((a).size))] t (fun a5 S=>∃ (p:Bool) (q:OA) (r s:Nat) (N:Bool),a5= .tuple #[Zv p q r s,.bool N]/\Br (!N) (K (.tuple #[Qv false none 0 0 false none 0 0,.bool false]) S)
 (aC P Yl #[Zv p q r s] S (fun a6 T=>∃ a1,a6=I a1/\Br (a1==0) (K (.tuple #[Qv false none 0 0 false none 0 0,.bool false]) T)
 (aC P Sa #[Zv g i j k,Zv p q r s] T (fun a7 V=>∃ w x y z A B C D,a7=Qv w x y z A B C D/\aC P Jh #[Qv w x y z A B C D] V (fun a8 W=>∃ (O:ByteArray),a8= .string O/\V.le W/\K (.tuple #[Qv w x y z A B C D,.bool (O.toList==b.toList)]) W)))))))
 (aC P Jh #[Qv g i j k false none 0 0] t (fun a9 X=>∃ (Q:ByteArray),a9= .string Q/\t.le X/\K (.tuple #[Qv g i j k false none 0 0,.bool (Q.toList==b.toList)]) X)))))
def B4l a(hvc:C0c prog a h K):aC prog Nk #[.string a] h K:=
 fnk func78 ⟨[(7,⟨[6,7],[],[I 0,I 0],⟨([6,7]++Lrg 27 11),[]⟩⟩)],[(3,⟨[5],[],[.bool false],⟨([5]++Lrg 14 8),[]⟩⟩),(5,⟨[4],[],[.string ⟨#[]⟩],⟨[4,22,23,24],[]⟩⟩),(11,⟨[6],[],[I 0],⟨([6,7]++Lrg 27 11),[]⟩⟩)],[(20,([0,1,3,2,4,5,6],[]))],[],[]⟩ [2,8,10,11] [] hvc
