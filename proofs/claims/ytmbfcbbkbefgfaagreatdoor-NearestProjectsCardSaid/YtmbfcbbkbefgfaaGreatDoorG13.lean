/- A part. -/
import Derived.Test.YtmbfcbbkbefgfaaGreatDoorG05
import Derived.Test.YtmbfcbbkbefgfaaGreatDoorG06
open Go.Proofs.Tryz
set_option linter.all false
open _root_.Go.Builtin renaming append_->aL
open _root_.ByteArray renaming size->aI
open _root_.Go.Instr renaming storeAt->aE,makeSlice->aH,buildSlice->aJ
open Int renaming fdiv->aF,tdiv->aK,tmod->aM
open _root_.Go renaming Program->aD
open _root_.Go.Proofs.YtmbfcbbkbefgfaaGreatDoor renaming FCall->aC,Heap->aG
namespace Go.Proofs.YtmbfcbbkbefgfaaGreatDoor
open Go
set_option maxRecDepth 100000
variable {h:aG} {K:VP}
abbrev V9:Nat:=210
abbrev On:Nat:=264
abbrev Vm:Nat:=232
abbrev Oj:Nat:=265
abbrev Vl:Nat:=217
abbrev Gn:Nat:=252
abbrev Dg:Nat:=291
abbrev Ol:Nat:=263
abbrev W4:Nat:=154
abbrev T9:Nat:=118
abbrev A6q:Nat:=134
abbrev A41:Nat:=206
abbrev A8r:Nat:=215
abbrev Ko:Nat:=129
abbrev Ok:Nat:=209
abbrev B3x:Nat:=207
abbrev A15:Nat:=208
abbrev Om:Nat:=192
abbrev B7n:Nat:=153
abbrev Dy:Nat:=130
abbrev Lr:Nat:=117
abbrev C5t:Nat:=133
abbrev Gq:Nat:=58
abbrev A0y:Nat:=131
abbrev Qt:Nat:=127
abbrev A0x:Nat:=56
abbrev Qs:Nat:=55
abbrev A0z:Nat:=125
abbrev C5s:Nat:=155
abbrev A6p:Nat:=105
abbrev C5r:Nat:=78
abbrev C6h:Nat:=81
abbrev C5u:Nat:=54
abbrev Gm:Nat:=50
abbrev B1p:Nat:=9
abbrev A7z:Nat:=77
abbrev C6:Nat:=272
def Uh:SliceT prog A7z C6 (U32 (0:Int)) 1 4:=⟨by kernel_rfl,by kernel_rfl,rfl,by decide⟩
def K7:prog.cellsOf C6=1/\(prog.info? C6).isSome=true:=⟨by kernel_rfl,by kernel_rfl⟩
abbrev Hz:Nat:=248
abbrev G0:Nat:=5
def Ek:SliceT prog Hz G0 (Y (0:Int)) 1 1:=⟨by kernel_rfl,by kernel_rfl,rfl,by decide⟩
def A9r:prog.cellsOf G0=1/\(prog.info? G0).isSome=true:=⟨by kernel_rfl,by kernel_rfl⟩
abbrev U7:Nat:=75
abbrev D0:Nat:=81
def Ng:SliceT prog U7 D0 (Qv false none 0 0 false none 0 0) 4 64:=⟨by kernel_rfl,by kernel_rfl,rfl,by decide⟩
def Cq:prog.cellsOf D0=4/\(prog.info? D0).isSome=true:=⟨by kernel_rfl,by kernel_rfl⟩
abbrev Fq:Nat:=38
abbrev J8:Nat:=9
def Ft:SliceT prog Fq J8 (.string ({ data:=#[] }:ByteArray)) 1 16:=⟨by kernel_rfl,by kernel_rfl,rfl,by decide⟩
def Ae:prog.cellsOf J8=1/\(prog.info? J8).isSome=true:=⟨by kernel_rfl,by kernel_rfl⟩
def C4m(P:aD)(j:OA)(k l:Nat)(h:aG)(K:VP):Prop:=
 ∃ (e:LP) (f:LN),e [.slice j k l] h/\
 ∀ c a b d,e [.slice c a b] d->Bd ((a:Int)>0) (∃ g,Ax c g (B6 ((a:Int)-1)) a <| ∃ i,d.cell? (g.add ((B6 ((a:Int)-1)).toNat*1))=some (U32 i)/\Br (i==0) ((0<=B6 ((a:Int)-1)/\B6 ((a:Int)-1)<=(b:Int))/\e [.slice (K5 c b 0 1) (((B6 ((a:Int)-1)).toNat)-0) (b-0)] d/\f [.slice (K5 c b 0 1) (((B6 ((a:Int)-1)).toNat)-0) (b-0)] d<f [.slice c a b] d)
 (K (Sl c a b) d))
 (K (Sl c a b) d)
def B8l a b c(hvc:C4m prog a b c h K):aC prog V9 #[Sl a b c] h K:=
 fnk func210 { loops:=[(1,⟨[0],[],[N0],⟨([0]++Lrg 3 17),[]⟩⟩)] } [] [] hvc
def B5t(P:aD)(f:OA)(c r:Nat)(g:OA)(d s:Nat)(h:aG)(K:VP):Prop:=
 Br ((c:Int) != (d:Int)) (Bd ((c:Int)<(d:Int)) (K (I (-1:Int)) h)
 (K (I 1) h))
 (∃ (e:LP) (i:LN),e [I (B6 ((c:Int)-1))] h/\
 ∀ a b,e [I a] b->Bd (a>=0) (∃ j,Ax f j a c <| ∃ k,b.cell? (j.add (a.toNat*1))=some (U32 k)/\∃ l,Ax g l a d <| ∃ m,b.cell? (l.add (a.toNat*1))=some (U32 m)/\Br (k != m) (∃ n,Ax f n a c <| ∃ o,b.cell? (n.add (a.toNat*1))=some (U32 o)/\∃ p,Ax g p a d <| ∃ q,b.cell? (p.add (a.toNat*1))=some (U32 q)/\Bd (o<q) (K (I (-1:Int)) b)
 (K (I 1) b))
 (e [I (B6 (a-1))] b/\i [I (B6 (a-1))] b<i [I a] b))
 (K (I 0) b))
def B15 a b c d e f(hvc:B5t prog a b c d e f h K):aC prog On #[Sl a b c,Sl d e f] h K:=
 fnk func264 { loops:=[(6,⟨[5],[],[I 0],⟨([4,5]++Lrg 19 22),[]⟩⟩)] } [] [] hvc
def B5u(P:aD)(p:OA)(i q:Nat)(r:OA)(j s:Nat)(h:aG)(K:VP):Prop:=
 ∃ (k:LP),(Bd ((i:Int)<(j:Int)) (k [.slice r j s,.slice p i q] h)
 (k [.slice p i q,.slice r j s] h))/\
 ∀ v b Q w n R x,k [.slice v b Q,.slice w n R] x->wpH P (aH 77 (I (B6 ((b:Int)+1))) (I (B6 ((b:Int)+1)))) (fun J L=>∃ e f y,J=Sl e f y/\∃ (l:LP) (t:LN),l [U 0,I 0] L/\
 ∀ d a c,l [U d,I a] c->Bd (a<(b:Int)) (∃ z,Ax v z a b <| ∃ o,c.cell? (z.add (a.toNat*1))=some (U32 o)/\∃ (m:LP),(Bd (a<(n:Int)) (∃ A,Ax w A a n <| ∃ B,c.cell? (A.add (a.toNat*1))=some (U32 B)/\m [U (C1 ((C1 (d+(C1 o)))+(C1 B)))] c)
 (m [U (C1 (d+(C1 o)))] c))/\
 ∀ g C,m [U g] C->∃ D,Ax e D a f<|wpH P (aE 272 (Pt (D.add (a.toNat*1))) (U32 (G8 g))) (fun _ u=>l [U (aF g (2^(min ((32:Int)).toNat 64))),I (B6 (a+1))] u/\t [U (aF g (2^(min ((32:Int)).toNat 64))),I (B6 (a+1))] u<t [U d,I a] c) C)
 (∃ E,Ax e E (b:Int) f<|wpH P (aE 272 (Pt (E.add (((b:Int)).toNat*1))) (U32 (G8 d))) (fun _ M=>aC P V9 #[Sl e f y] M (fun N O=>∃ F G H,N=Sl F G H/\K (Sl F G H) O)) c)) x
def B16 a b c d e f(hvc:B5u prog a b c d e f h K):aC prog Vm #[Sl a b c,Sl d e f] h K:=
 fnk func232 ⟨[(6,⟨[6,7],[],[U 0,I 0],⟨([6,7]++Lrg 19 31),[]⟩⟩)],[(3,⟨[0,1],[],[N0,N0],⟨[0,1,8,9,10,11,12,13,14],[]⟩⟩),(11,⟨[6],[],[U 0],⟨([6]++Lrg 32 11),[]⟩⟩)],[],[],[]⟩ [] [] hvc
def B5l(P:aD)(x:OA)(c D:Nat)(y:OA)(l E:Nat)(h:aG)(K:VP):Prop:=
 wpH P (aH 77 (I (c:Int)) (I (c:Int))) (fun z A=>∃ i j o,z=Sl i j o/\∃ (f:LP) (m:LN),f [U 0,I 0] A/\
 ∀ d a b,f [U d,I a] b->Bd (a<(c:Int)) (∃ p,Ax x p a c <| ∃ k,b.cell? (p.add (a.toNat*1))=some (U32 k)/\∃ (g:LP),(Bd (a<(l:Int)) (∃ q,Ax y q a l <| ∃ r,b.cell? (q.add (a.toNat*1))=some (U32 r)/\g [U (C1 ((C1 ((C1 k)-d))-(C1 r)))] b)
 (g [U (C1 ((C1 k)-d))] b))/\
 ∀ e s,g [U e] s->∃ t,Ax i t a j<|wpH P (aE 272 (Pt (t.add (a.toNat*1))) (U32 (G8 e))) (fun _ n=>f [U (Rf .u64 (aF e (2^(min ((32:Int)).toNat 64))) (1:Int)),I (B6 (a+1))] n/\m [U (Rf .u64 (aF e (2^(min ((32:Int)).toNat 64))) (1:Int)),I (B6 (a+1))] n<m [U d,I a] b) s)
 (aC P V9 #[Sl i j o] b (fun B C=>∃ u v w,B=Sl u v w/\K (Sl u v w) C))) h
def B0z a b c d e f(hvc:B5l prog a b c d e f h K):aC prog Oj #[Sl a b c,Sl d e f] h K:=
 fnk func265 ⟨[(4,⟨[6,7],[],[U 0,I 0],⟨([6,7,8]++Lrg 12 32),[]⟩⟩)],[(9,⟨[8],[],[U 0],⟨([8]++Lrg 25 11),[]⟩⟩)],[],[],[]⟩ [] [] hvc
def B5o(P:aD)(w:OA)(x:Nat)(y:OA)(e:Nat)(j:OA)(k:Nat)(z:LP)(m:LN)(a:Int)(n:aG):Prop:=
 ∃ (l:LP) (o:LN),l [U 0,I 0] n/\
 ∀ d b c,l [U d,I b] c->Bd (b<(e:Int)) (∃ r,Ax w r a x <| ∃ f,c.cell? (r.add (a.toNat*1))=some (U32 f)/\∃ s,Ax y s b e <| ∃ g,c.cell? (s.add (b.toNat*1))=some (U32 g)/\∃ t,Ax j t (B6 (a+b)) k <| ∃ i,c.cell? (t.add ((B6 (a+b)).toNat*1))=some (U32 i)/\∃ u,Ax j u (B6 (a+b)) k<|wpH P (aE 272 (Pt (u.add ((B6 (a+b)).toNat*1))) (U32 (G8 (C1 (d+(C1 ((C1 ((C1 f)*(C1 g)))+(C1 i)))))))) (fun _ p=>l [U (aF (C1 (d+(C1 ((C1 ((C1 f)*(C1 g)))+(C1 i))))) (2^(min ((32:Int)).toNat 64))),I (B6 (b+1))] p/\o [U (aF (C1 (d+(C1 ((C1 ((C1 f)*(C1 g)))+(C1 i))))) (2^(min ((32:Int)).toNat 64))),I (B6 (b+1))] p<o [U d,I b] c) c)
 (∃ v,Ax j v (B6 (a+(e:Int))) k<|wpH P (aE 272 (Pt (v.add ((B6 (a+(e:Int))).toNat*1))) (U32 (G8 d))) (fun _ q=>z [I (B6 (a+1))] q/\m [I (B6 (a+1))] q<m [I a] n) c)
def B5p(P:aD)(m:OA)(a t:Nat)(n:OA)(b u:Nat)(h:aG)(K:VP):Prop:=
 Br ((a:Int)==0) (K (Sl none 0 0) h)
 (Br ((b:Int)==0) (K (Sl none 0 0) h)
 (wpH P (aH 77 (I (B6 ((a:Int)+(b:Int)))) (I (B6 ((a:Int)+(b:Int))))) (fun p q=>∃ d e i,p=Sl d e i/\∃ (c:LP) (o:LN),c [I 0] q/\
 ∀ f g,c [I f] g->Bd (f<(a:Int)) (B5o P m a n b d e c o f g)
 (aC P V9 #[Sl d e i] g (fun r s=>∃ j k l,r=Sl j k l/\K (Sl j k l) s))) h))
def B11 a b c d e f(hvc:B5p prog a b c d e f h K):aC prog Vl #[Sl a b c,Sl d e f] h K:=
 fnk func217 { loops:=[(5,⟨[6],[],[I 0],⟨([6,7,8]++Lrg 23 50),[]⟩⟩),(9,⟨[7,8],[],[U 0,I 0],⟨([7,8]++Lrg 29 36),[]⟩⟩)] } [] [] hvc
def A50(P:aD)(s:OA)(e x:Nat)(c:Int)(h:aG)(K:VP):Prop:=
 wpH P (aH 77 (I (e:Int)) (I (e:Int))) (fun t u=>∃ i j m,t=Sl i j m/\∃ (g:LP) (k:LN),g [U 0,I (B6 ((e:Int)-1))] u/\
 ∀ b a d,g [U b,I a] d->Bd (a>=0) (∃ n,Ax s n a e <| ∃ f,d.cell? (n.add (a.toNat*1))=some (U32 f)/\Bd (C1 c=0) False
 (∃ o,Ax i o a j<|wpH P (aE 272 (Pt (o.add (a.toNat*1))) (U32 (G8 (C1 (aK (bor .u64 (C1 (b*2^(min ((32:Int)).toNat 64))) (C1 f)) (C1 c)))))) (fun _ l=>Bd (C1 c=0) False
 (g [U (aM (bor .u64 (C1 (b*2^(min ((32:Int)).toNat 64))) (C1 f)) (C1 c)),I (B6 (a-1))] l/\k [U (aM (bor .u64 (C1 (b*2^(min ((32:Int)).toNat 64))) (C1 f)) (C1 c)),I (B6 (a-1))] l<k [U b,I a] d)) d))
 (aC P V9 #[Sl i j m] d (fun v w=>∃ p q r,v=Sl p q r/\K (.tuple #[Sl p q r,U32 (G8 b)]) w))) h
def A4z a b c d(hvc:A50 prog a b c d h K):aC prog Gn #[Sl a b c,U32 d] h K:=
 fnk func252 { loops:=[(4,⟨[7,8],[],[U 0,I 0],⟨([7,8]++Lrg 15 24),[]⟩⟩)] } [] [] hvc
def Zk(P:aD)(r:OA)(e v:Nat)(f:Int)(h:aG)(K:VP):Prop:=
 wpH P (aH 77 (I (B6 ((e:Int)+1))) (I (B6 ((e:Int)+1)))) (fun s t=>∃ c d l,s=Sl c d l/\∃ (g:LP) (j:LN),g [I 0] t/\
 ∀ a b,g [I a] b->Bd (a<(e:Int)) (∃ m,Ax r m a e <| ∃ i,b.cell? (m.add (a.toNat*1))=some (U32 i)/\Bd (f<0) False
 (∃ n,Ax c n a d <| ∃ o,b.cell? (n.add (a.toNat*1))=some (U32 o)/\∃ p,Ax c p a d<|wpH P (aE 272 (Pt (p.add (a.toNat*1))) (U32 (bor .u32 o (G8 (C1 ((C1 i)*2^(min f.toNat 64))))))) (fun _ u=>∃ q,Ax c q (B6 (a+1)) d<|wpH P (aE 272 (Pt (q.add ((B6 (a+1)).toNat*1))) (U32 (G8 (aF (C1 ((C1 i)*2^(min f.toNat 64))) (2^(min ((32:Int)).toNat 64)))))) (fun _ k=>g [I (B6 (a+1))] k/\j [I (B6 (a+1))] k<j [I a] b) u) b))
 (K (Sl c d l) b)) h
def A20 a b c d(hvc:Zk prog a b c d h K):aC prog Dg #[Sl a b c,U d] h K:=
 fnk func291 { loops:=[(3,⟨[6],[],[I 0],⟨([6,7]++Lrg 12 28),[]⟩⟩)] } [] [] hvc
def Rk(P:aD)(j:OA)(a:Nat)(u:OA)(v:Nat)(k:Int)(l:Int)(m:Int)(w:Int)(x:Int)(n:LP)(y:aG):Prop:=
 ∃ (g:LP) (o:LN),g [U (C1 (aK (bor .u64 (C1 ((C1 l)*2^(min ((32:Int)).toNat 64))) (C1 m)) (C1 w))),U (aM (bor .u64 (C1 ((C1 l)*2^(min ((32:Int)).toNat 64))) (C1 m)) (C1 x))] y/\
 ∀ b d c,g [U b,U d] c->∃ (i:LP),(Bd (b>=4294967296) (i [] c)
 (∃ p,Ax j p (B6 ((a:Int)-2)) a <| ∃ q,c.cell? (p.add ((B6 ((a:Int)-2)).toNat*1))=some (U32 q)/\∃ r,Ax u r (B6 ((B6 (k+(a:Int)))-2)) v <| ∃ s,c.cell? (r.add ((B6 ((B6 (k+(a:Int)))-2)).toNat*1))=some (U32 s)/\Bd ((C1 (b*(C1 q)))>(bor .u64 (C1 (d*2^(min ((32:Int)).toNat 64))) (C1 s))) (i [] c)
 (n [U b] c)))/\
 ∀ e,i [] e->∃ t,Ax j t (B6 ((a:Int)-1)) a <| ∃ f,e.cell? (t.add ((B6 ((a:Int)-1)).toNat*1))=some (U32 f)/\Bd ((C1 (d+(C1 f)))>=4294967296) (n [U (C1 (b-1))] e)
 (g [U (C1 (b-1)),U (C1 (d+(C1 f)))] e/\o [U (C1 (b-1)),U (C1 (d+(C1 f)))] e<o [U b,U d] c)
def Ri(P:aD)(t:OA)(d:Nat)(f:OA)(g:Nat)(b:Int)(u:Int)(v:LP)(w:aG):Prop:=
 ∃ (k:LP) (l:LN),k [U 0,I 0] w/\
 ∀ e a c,k [U e,I a] c->Bd (a<(d:Int)) (∃ n,Ax f n (B6 (a+b)) g <| ∃ i,c.cell? (n.add ((B6 (a+b)).toNat*1))=some (U32 i)/\∃ o,Ax t o a d <| ∃ j,c.cell? (o.add (a.toNat*1))=some (U32 j)/\∃ p,Ax f p (B6 (a+b)) g<|wpH P (aE 272 (Pt (p.add ((B6 (a+b)).toNat*1))) (U32 (G8 (C1 (e+(C1 ((C1 i)+(C1 j)))))))) (fun _ m=>k [U (aF (C1 (e+(C1 ((C1 i)+(C1 j))))) (2^(min ((32:Int)).toNat 64))),I (B6 (a+1))] m/\l [U (aF (C1 (e+(C1 ((C1 i)+(C1 j))))) (2^(min ((32:Int)).toNat 64))),I (B6 (a+1))] m<l [U e,I a] c) c)
 (∃ q,Ax f q (B6 (b+(d:Int))) g <| ∃ r,c.cell? (q.add ((B6 (b+(d:Int))).toNat*1))=some (U32 r)/\∃ s,Ax f s (B6 (b+(d:Int))) g<|wpH P (aE 272 (Pt (s.add ((B6 (b+(d:Int))).toNat*1))) (U32 (G8 (r+(G8 e))))) (fun _ x=>v [U (C1 (u-1))] x) c)
def Rm(P:aD)(c:OA)(d:Nat)(a:Int)(e:LP)(f:Int)(g:aG):Prop:=
 ∃ b,Ax c b a d<|wpH P (aE 272 (Pt (b.add (a.toNat*1))) (U32 (G8 f))) (fun _ i=>e [] i) g
def Rj(P:aD)(p:OA)(d:Nat)(j:OA)(k:Nat)(A:OA)(B:Nat)(b:Int)(C:LP)(e:Int)(D:aG):Prop:=
 ∃ (m:LP) (q:LN),m [U 0,U 0,I 0] D/\
 ∀ c f a g,m [U c,U f,I a] g->Bd (a<(d:Int)) (∃ t,Ax p t a d <| ∃ i,g.cell? (t.add (a.toNat*1))=some (U32 i)/\∃ u,Ax j u (B6 (a+b)) k <| ∃ l,g.cell? (u.add ((B6 (a+b)).toNat*1))=some (U32 l)/\∃ v,Ax j v (B6 (a+b)) k<|wpH P (aE 272 (Pt (v.add ((B6 (a+b)).toNat*1))) (U32 (G8 (C1 ((C1 ((C1 l)-(Rf .u64 (C1 ((C1 (e*(C1 i)))+c)) (4294967295:Int))))-f))))) (fun _ r=>m [U (aF (C1 ((C1 (e*(C1 i)))+c)) (2^(min ((32:Int)).toNat 64))),U (Rf .u64 (aF (C1 ((C1 ((C1 l)-(Rf .u64 (C1 ((C1 (e*(C1 i)))+c)) (4294967295:Int))))-f)) (2^(min ((32:Int)).toNat 64))) (1:Int)),I (B6 (a+1))] r/\q [U (aF (C1 ((C1 (e*(C1 i)))+c)) (2^(min ((32:Int)).toNat 64))),U (Rf .u64 (aF (C1 ((C1 ((C1 l)-(Rf .u64 (C1 ((C1 (e*(C1 i)))+c)) (4294967295:Int))))-f)) (2^(min ((32:Int)).toNat 64))) (1:Int)),I (B6 (a+1))] r<q [U c,U f,I a] g) g)
 (∃ w,Ax j w (B6 (b+(d:Int))) k <| ∃ o,g.cell? (w.add ((B6 (b+(d:Int))).toNat*1))=some (U32 o)/\∃ x,Ax j x (B6 (b+(d:Int))) k<|wpH P (aE 272 (Pt (x.add ((B6 (b+(d:Int))).toNat*1))) (U32 (G8 (C1 ((C1 ((C1 o)-c))-f))))) (fun _ s=>∃ (n:LP),(Br ((aF (C1 ((C1 ((C1 o)-c))-f)) (2^(min ((63:Int)).toNat 64)))==1) (Ri P p d j k b e n s)
 (n [U e] s))/\
 ∀ y z,n [U y] z->Rm P A B b C y z) g)
def Zl(P:aD)(a:OA)(b:Nat)(c:OA)(d:Nat)(e:OA)(f:Nat)(g:Int)(i:LP)(j:Int)(k:aG):Prop:=
 Rj P a b c d e f g i j k
def Zm(P:aD)(d:LP)(b:LN)(a:Int)(e:aG)(c:aG):Prop:=
 d [I (B6 (a-1))] c/\b [I (B6 (a-1))] c<b [I a] e
def Kh(P:aD)(K:VP)(f:Int)(y:OA)(z A:Nat)(c:OA)(b B:Nat)(C:aG):Prop:=
 ∃ (g:LP) (i:LN),g [I 0] C/\
 ∀ a d,g [I a] d->Bd (a<(b:Int)) (∃ k,Ax c k a b <| ∃ l,d.cell? (k.add (a.toNat*1))=some (U32 l)/\Bd (f<0) False
 (∃ m,Ax c m a b<|wpH P (aE 272 (Pt (m.add (a.toNat*1))) (U32 (aF l (2^(min f.toNat 32))))) (fun _ e=>Bd ((B6 (a+1))<(b:Int)) (∃ n,Ax c n a b <| ∃ o,e.cell? (n.add (a.toNat*1))=some (U32 o)/\∃ p,Ax c p (B6 (a+1)) b <| ∃ q,e.cell? (p.add ((B6 (a+1)).toNat*1))=some (U32 q)/\Bd (C1 ((32:Int)-f)<0) False
 (∃ r,Ax c r a b<|wpH P (aE 272 (Pt (r.add (a.toNat*1))) (U32 (bor .u32 o (G8 (C1 ((C1 q)*2^(min (C1 ((32:Int)-f)).toNat 64))))))) (fun _ j=>g [I (B6 (a+1))] j/\i [I (B6 (a+1))] j<i [I a] d) e))
 (g [I (B6 (a+1))] e/\i [I (B6 (a+1))] e<i [I a] d)) d))
 (aC P V9 #[Sl y z A] d (fun D E=>∃ s t u,D=Sl s t u/\aC P V9 #[Sl c b B] E (fun F G=>∃ v w x,F=Sl v w x/\K (.tuple #[Sl s t u,Sl v w x]) G)))
def Zn(P:aD)(K:VP)(A:Int)(e:OA)(a:Nat)(d:OA)(f g:Nat)(k:OA)(l B:Nat)(C:LP)(D:LN)(b:Int)(c:aG):Prop:=
 Bd (b>=0) (∃ (m:LP),(∃ o,Ax d o (B6 (b+(a:Int))) f <| ∃ p,c.cell? (o.add ((B6 (b+(a:Int))).toNat*1))=some (U32 p)/\∃ q,Ax d q (B6 ((B6 (b+(a:Int)))-1)) f <| ∃ r,c.cell? (q.add ((B6 ((B6 (b+(a:Int)))-1)).toNat*1))=some (U32 r)/\∃ s,Ax e s (B6 ((a:Int)-1)) a <| ∃ i,c.cell? (s.add ((B6 ((a:Int)-1)).toNat*1))=some (U32 i)/\Bd (C1 i=0) False
 (∃ t,Ax e t (B6 ((a:Int)-1)) a <| ∃ j,c.cell? (t.add ((B6 ((a:Int)-1)).toNat*1))=some (U32 j)/\Bd (C1 j=0) False
 (∃ (n:LP),(Rk P e a d f b p r i j n c)/\
 ∀ u v,n [U u] v->Zl P e a d f k l b m u v)))/\
 ∀ w,m [] w->Zm P C D b c w)
 ((0<=(a:Int)/\(a:Int)<=(g:Int))/\aC P V9 #[.slice (K5 d g 0 1) ((((a:Int)).toNat)-0) (g-0)] c (fun E F=>∃ x y z,E=Sl x y z/\Kh P K A k l B x y z F))
def Rl(P:aD)(K:VP)(f:Int)(g:OA)(b:Nat)(i:OA)(c j:Nat)(k:OA)(l m:Nat)(n:aG):Prop:=
 ∃ (a:LP) (o:LN),a [I (B6 ((B6 ((c:Int)-(b:Int)))-1))] n/\
 ∀ d e,a [I d] e->Zn P K f g b i c j k l m a o d e
def A51(P:aD)(u:OA)(v w:Nat)(g:OA)(c x:Nat)(K:VP)(y:aG):Prop:=
 ∃ (f:LP) (i:LN),f [U 0] y/\
 ∀ a b,f [U a] b->∃ j,Ax g j (B6 ((c:Int)-1)) c <| ∃ k,b.cell? (j.add ((B6 ((c:Int)-1)).toNat*1))=some (U32 k)/\Bd (a<0) False
 (Bd ((G8 (k*2^(min a.toNat 32)))<2147483648) (f [U (C1 (a+1))] b/\i [U (C1 (a+1))] b<i [U a] b)
 (aC P Dg #[Sl g c x,U a] b (fun z A=>∃ l m n,z=Sl l m n/\aC P V9 #[Sl l m n] A (fun B C=>∃ o e H,B=Sl o e H/\aC P Dg #[Sl u v w,U a] C (fun D E=>∃ p d q,D=Sl p d q/\wpH P (aH 77 (I (B6 ((B6 ((B6 ((d:Int)-(e:Int)))-1))+1))) (I (B6 ((B6 ((B6 ((d:Int)-(e:Int)))-1))+1)))) (fun F G=>∃ r s t,F=Sl r s t/\Rl P K a o e p d q r s t G) E)))))
def B5r(P:aD)(a:OA)(b c:Nat)(f:OA)(d g:Nat)(h:aG)(K:VP):Prop:=
 aC P On #[Sl a b c,Sl f d g] h (fun B e=>∃ m,B=I m/\Bd (m<0) (wpH P (aJ 77 0 #[]) (fun C D=>∃ n o p,C=Sl n o p/\wpH P (aL #[77,77] 77 #[Sl n o p,Sl a b c]) (fun E F=>∃ q r s,E=Sl q r s/\K (.tuple #[Sl none 0 0,Sl q r s]) F) D) e)
 (Br ((d:Int)==1) (∃ t,Ax f t (0:Int) d <| ∃ u,e.cell? (t.add (((0:Int)).toNat*1))=some (U32 u)/\aC P Gn #[Sl a b c,U32 u] e (fun G H=>∃ (i:OA) (j k:Nat) (l:Int),G= .tuple #[Sl i j k,U32 l]/\wpH P (aJ 77 1 #[(0,U32 l)]) (fun J L=>∃ v w x,J=Sl v w x/\aC P V9 #[Sl v w x] L (fun M N=>∃ y z A,M=Sl y z A/\K (.tuple #[Sl i j k,Sl y z A]) N)) H))
 (A51 P a b c f d g K e)))
def B13 a b c d e f(hvc:B5r prog a b c d e f h K):aC prog Ol #[Sl a b c,Sl d e f] h K:=
 fnk func263 ⟨[(7,⟨[8],[],[U 0],⟨([8]++Lrg 49 11),[]⟩⟩),(15,⟨[14],[],[I 0],⟨(Lrg 14 11++Lrg 78 178),[]⟩⟩),(20,⟨[16,17],[],[U 0,U 0],⟨([16,17]++Lrg 115 36),[]⟩⟩),(26,⟨[18,19,20],[],[U 0,U 0,I 0],⟨([18,19,20,21,22]++Lrg 151 38),[]⟩⟩),(39,⟨[18,24],[],[U 0,I 0],⟨([18,24]++Lrg 212 29),[]⟩⟩),(48,⟨[26],[],[I 0],⟨([26]++Lrg 260 36),[]⟩⟩)],[(16,⟨[],[],[],⟨(Lrg 15 10++Lrg 82 174),[]⟩⟩),(21,⟨[],[],[],⟨(Lrg 115 24),[]⟩⟩),(24,⟨[16],[],[U 0],⟨([16,17]++Lrg 115 36),[]⟩⟩),(45,⟨[16],[],[U 0],⟨([16,18,24]++Lrg 207 44),[]⟩⟩)],[],[],[]⟩ [] [] hvc
def C06(P:aD)(d:Bool)(b:OA)(a c:Nat)(h:aG)(K:VP):Prop:=
 Br d (K (.agg #[.bool (decide ((a:Int)>0)),Sl b a c]) h)
 (K (Zv false b a c) h)
def B5q a b c d(hvc:C06 prog a b c d h K):aC prog W4 #[.bool a,Sl b c d] h K:=
 fnk func154 an0 [4] [] hvc
def A9d(P:aD)(a:Int)(h:aG)(K:VP):Prop:=
 ∃ (b:LP),(Bd (a<0) (b [U (C1 (0-(C1 a)))] h)
 (b [U (C1 a)] h))/\
 ∀ c d,b [U c] d->wpH P (aJ 77 2 #[(0,U32 (G8 c)),(1,U32 (G8 (aF c (2^(min ((32:Int)).toNat 64)))))]) (fun p q=>∃ e f g,p=Sl e f g/\aC P V9 #[Sl e f g] q (fun r s=>∃ i j k,r=Sl i j k/\aC P W4 #[.bool (decide (a<0)),Sl i j k] s (fun t u=>∃ l m n o,t=Zv l m n o/\K (Zv l m n o) u))) d
def A7m a(hvc:A9d prog a h K):aC prog T9 #[I a] h K:=
 fnk func118 { cuts:=[(4,⟨[3],[],[U 0],⟨[3,6,7,8,9],[]⟩⟩)] } [2] [] hvc
def C4o(P:aD)(a:Bool)(c:OA)(b d:Nat)(h:aG)(K:VP):Prop:=
 Br a (K (I (-1:Int)) h)
 (Br ((b:Int)==0) (K (I 0) h)
 (K (I 1) h))
def B8n a b c d(hvc:C4o prog a b c d h K):aC prog A6q #[Zv a b c d] h K:=
 fnk func134 an0 [1] [] hvc
def C77(P:aD)(e:Bool)(f:OA)(g i:Nat)(h:aG)(K:VP):Prop:=
 aC P W4 #[.bool (!e),Sl f g i] h (fun j k=>∃ a b c d,j=Zv a b c d/\K (Zv a b c d) k)
def C2p a b c d(hvc:C77 prog a b c d h K):aC prog A41 #[Zv a b c d] h K:=
 fnk func206 an0 [1,2] [] hvc
def C7a(P:aD)(i:Bool)(a:OA)(b c:Nat)(m:Bool)(d:OA)(e f:Nat)(h:aG)(K:VP):Prop:=
 Br (i==m) (aC P Vm #[Sl a b c,Sl d e f] h (fun O j=>∃ q r s,O=Sl q r s/\h.le j/\aC P W4 #[.bool i,Sl q r s] j (fun Q n=>∃ t u v w,Q=Zv t u v w/\j.le n/\K (Zv t u v w) n)))
 (aC P On #[Sl a b c,Sl d e f] h (fun R g=>∃ x,R=I x/\Bd (x>=0) (aC P Oj #[Sl a b c,Sl d e f] g (fun S k=>∃ y z A,S=Sl y z A/\g.le k/\aC P W4 #[.bool i,Sl y z A] k (fun T o=>∃ B C D E,T=Zv B C D E/\k.le o/\K (Zv B C D E) o)))
 (aC P Oj #[Sl d e f,Sl a b c] g (fun V l=>∃ F G H,V=Sl F G H/\g.le l/\aC P W4 #[.bool m,Sl F G H] l (fun W p=>∃ J L M N,W=Zv J L M N/\l.le p/\K (Zv J L M N) p)))))
def C2s a b c d e f g i(hvc:C7a prog a b c d e f g i h K):aC prog A8r #[Zv a b c d,Zv e f g i] h K:=
 fnk func215 an0 [2,3,4] [] hvc
def C78(P:aD)(k:Bool)(l:OA)(m n:Nat)(o:Bool)(p:OA)(q r:Nat)(h:aG)(K:VP):Prop:=
 aC P Vl #[Sl l m n,Sl p q r] h (fun s a=>∃ c d e,s=Sl c d e/\h.le a/\aC P W4 #[.bool (!(k==o)),Sl c d e] a (fun t b=>∃ f g i j,t=Zv f g i j/\a.le b/\K (Zv f g i j) b))
def C2q a b c d e f g i(hvc:C78 prog a b c d e f g i h K):aC prog Ko #[Zv a b c d,Zv e f g i] h K:=
 fnk func129 an0 [2,3,4] [] hvc
def B5n(P:aD)(b:Bool)(t:OA)(u v:Nat)(w:Bool)(x:OA)(y z:Nat)(h:aG)(K:VP):Prop:=
 aC P Ol #[Sl t u v,Sl x y z] h (fun A j=>∃ (c:OA) (d e:Nat) (f:OA) (g i:Nat),A= .tuple #[Sl c d e,Sl f g i]/\aC P W4 #[.bool (!(b==w)),Sl c d e] j (fun B a=>∃ l m n o,B=Zv l m n o/\j.le a/\aC P W4 #[.bool b,Sl f g i] a (fun C k=>∃ p q r s,C=Zv p q r s/\a.le k/\K (.tuple #[Zv l m n o,Zv p q r s]) k)))
def B10 a b c d e f g i(hvc:B5n prog a b c d e f g i h K):aC prog Ok #[Zv a b c d,Zv e f g i] h K:=
 fnk func209 { orders:=[(2,([0,1,2,3,4,5,7,8,9,6,10,11,12],[]))] } [2,3,4,5] [] hvc
def C79(P:aD)(E:Bool)(s:OA)(t u:Nat)(F:Bool)(v:OA)(w x:Nat)(h:aG)(K:VP):Prop:=
 ∃ (i:LP) (m:LN),i [.slice s t u,.slice v w x] h/\
 ∀ d e f b a c g,i [.slice d e f,.slice b a c] g->Bd ((a:Int)>0) (aC P Ol #[Sl d e f,Sl b a c] g (fun B n=>∃ (y:OA) (z A:Nat) (j:OA) (k l:Nat),B= .tuple #[Sl y z A,Sl j k l]/\i [.slice b a c,.slice j k l] n/\m [.slice b a c,.slice j k l] n<m [.slice d e f,.slice b a c] g))
 (aC P W4 #[.bool false,Sl d e f] g (fun C D=>∃ o p q r,C=Zv o p q r/\K (Zv o p q r) D))
def C2r a b c d e f g i(hvc:C79 prog a b c d e f g i h K):aC prog B3x #[Zv a b c d,Zv e f g i] h K:=
 fnk func207 { loops:=[(2,⟨[5,6],[],[N0,N0],⟨([5,6,7,8]++Lrg 13 11),[]⟩⟩)] } [2,3,4] [] hvc
def C4w(P:aD)(k:Bool)(j:OA)(a l:Nat)(h:aG)(K:VP):Prop:=
 Br ((a:Int)==0) (K (I 0) h)
 (∃ g,Ax j g (B6 ((a:Int)-1)) a <| ∃ i,h.cell? (g.add ((B6 ((a:Int)-1)).toNat*1))=some (U32 i)/\∃ (e:LP) (f:LN),e [I (B6 ((32:Int)*(B6 ((a:Int)-1)))),U32 i] h/\
 ∀ b c d,e [I b,U32 c] d->Bd (c>0) (e [I (B6 (b+1)),U32 (aF c (2^(min ((1:Int)).toNat 32)))] d/\f [I (B6 (b+1)),U32 (aF c (2^(min ((1:Int)).toNat 32)))] d<f [I b,U32 c] d)
 (K (I b) d))
def B8v a b c d(hvc:C4w prog a b c d h K):aC prog A15 #[Zv a b c d] h K:=
 fnk func208 { loops:=[(5,⟨[3,4],[],[I 0,.int .u32 0],⟨[3,4,22,23,24,25,26,27],[]⟩⟩)] } [1] [] hvc
def B5s(P:aD)(b9:Bool)(a6:OA)(L a7:Nat)(h:aG)(K:VP):Prop:=
 Br ((L:Int)==0) (K (.string ({ data:=#[48] }:ByteArray)) h)
 (∃ (p:LP) (M:LN),p [N0,.slice a6 L a7] h/\
 ∀ j g x y i z k,p [.slice j g x,.slice y i z] k->Bd ((i:Int)>0) (aC P Gn #[Sl y i z,U32 (1000000000:Int)] k (fun a8 a9=>∃ (q:OA) (r s:Nat) (N:Int),a8= .tuple #[Sl q r s,U32 N]/\wpH P (aJ 77 1 #[(0,U32 N)]) (fun b0 b1=>∃ T V W,b0=Sl T V W/\wpH P (aL #[77,77] 77 #[Sl j g x,Sl T V W]) (fun b2 S=>∃ A B C,b2=Sl A B C/\p [.slice A B C,.slice q r s] S/\M [.slice A B C,.slice q r s] S<M [.slice j g x,.slice y i z] k) b1) a9))
 (∃ (t:LP) (O:LN),t [N0,I (B6 ((g:Int)-1))] k/\
 ∀ l m n c o,t [.slice l m n,I c] o->Bd (c>=0) (∃ (u:LP) (Q:LN),u [.slice l m n,U32 (100000000:Int)] o/\
 ∀ e b f a d,u [.slice e b f,U32 a] d->Bd (a>0) (∃ (v:LP),(∃ X,Ax j X c g <| ∃ D,d.cell? (X.add (c.toNat*1))=some (U32 D)/\Bd (a=0) False
 (∃ (w:LP),(Bd ((b:Int)>0) (w [.bool true] d)
 (w [.bool ((wu8 (G8 ((48:Int)+(aM (G8 (aK D a)) (10:Int))))) != 48)] d))/\
 ∀ Z E,w [.bool Z] E->Br Z (wpH P (aJ 248 1 #[(0,Y (wu8 (G8 ((48:Int)+(aM (G8 (aK D a)) (10:Int))))))]) (fun b3 b4=>∃ a0 a1 a2,b3=Sl a0 a1 a2/\wpH P (aL #[248,248] 248 #[Sl e b f,Sl a0 a1 a2]) (fun b5 b6=>∃ a3 a4 a5,b5=Sl a3 a4 a5/\v [.slice a3 a4 a5] b6) b4) E)
 (v [.slice e b f] E)))/\
 ∀ F G H J,v [.slice F G H] J->u [.slice F G H,U32 (G8 (aK a (10:Int)))] J/\Q [.slice F G H,U32 (G8 (aK a (10:Int)))] J<Q [.slice e b f,U32 a] d)
 (t [.slice e b f,I (B6 (c-1))] d/\O [.slice e b f,I (B6 (c-1))] d<O [.slice l m n,I c] o))
 (wpH P (convert 248 9 (.slice l m n)) (fun b7 b8=>∃ (R:ByteArray),b7= .string R/\K (.string R) b8) o)))
def B14 a b c d(hvc:B5s prog a b c d h K):aC prog Om #[Zv a b c d] h K:=
 fnk func192 ⟨[(5,⟨[3,4],[],[N0,N0],⟨([3,4,5,6]++Lrg 17 13),[]⟩⟩),(11,⟨[7,8],[],[N0,I 0],⟨([7,8,9,10]++Lrg 33 28),[]⟩⟩),(14,⟨[7,9],[],[N0,.int .u32 0],⟨([7,9,10]++Lrg 37 24),[]⟩⟩)],[(15,⟨[7],[],[N0],⟨([7,10]++Lrg 41 20),[]⟩⟩),(18,⟨[56],[],[.bool false],⟨[50,51,52,53,54,55,56],[]⟩⟩)],[],[],[]⟩ [1] [] hvc
def C4v(P:aD)(l:Bool)(m:OA)(n o:Nat)(f:Bool)(g:OA)(a i:Nat)(h:aG)(K:VP):Prop:=
 Br ((a:Int)==0) (aC P T9 #[I 1] h (fun j k=>∃ b c d e,j=Zv b c d e/\K (Zv b c d e) k))
 (K (Zv f g a i) h)
def B8u a b c d e f g i(hvc:C4v prog a b c d e f g i h K):aC prog Dy #[Qv a b c d e f g i] h K:=
 fnk func130 an0 [1,2] [] hvc
def C4u(P:aD)(w:Bool)(x:OA)(y z:Nat)(n:Bool)(A:OA)(B C:Nat)(h:aG)(K:VP):Prop:=
 ∃ (o:LP),(Br n (aC P A41 #[Zv w x y z] h (fun c2 r=>∃ R S T V,c2=Zv R S T V/\h.le r/\aC P A41 #[Zv n A B C] r (fun c3 N=>∃ W X Z a0,c3=Zv W X Z a0/\r.le N/\o [.bool R,.slice S T V,.bool W,.slice X Z a0] N)))
 (o [.bool w,.slice x y z,.bool n,.slice A B C] h))/\
 ∀ a b c d e f g i a1,o [.bool a,.slice b c d,.bool e,.slice f g i] a1->aC P B3x #[Zv a b c d,Zv e f g i] a1 (fun c4 c5=>∃ j k l m,c4=Zv j k l m/\∃ (p:LP),(aC P A15 #[Zv j k l m] c5 (fun c6 O=>∃ a2,c6=I a2/\Bd (a2>1) (aC P Ok #[Zv a b c d,Zv j k l m] O (fun c7 c8=>∃ (D:Bool) (E:OA) (F G:Nat) (b4:Bool) (b5:OA) (b6 b7:Nat),c7= .tuple #[Zv D E F G,Zv b4 b5 b6 b7]/\aC P Ok #[Zv e f g i,Zv j k l m] c8 (fun c9 d0=>∃ (H:Bool) (J:OA) (L M:Nat) (b8:Bool) (b9:OA) (c0 c1:Nat),c9= .tuple #[Zv H J L M,Zv b8 b9 c0 c1]/\p [.bool D,.slice E F G,.bool H,.slice J L M] d0)))
 (p [.bool a,.slice b c d,.bool e,.slice f g i] O)))/\
 ∀ a3 a4 a5 a6 s t u v a7,p [.bool a3,.slice a4 a5 a6,.bool s,.slice t u v] a7->∃ (q:LP),(aC P A15 #[Zv s t u v] a7 (fun d1 Q=>∃ a8,d1=I a8/\Br (a8==1) (q [.bool false,N0] Q)
 (q [.bool s,.slice t u v] Q)))/\
 ∀ a9 b0 b1 b2 b3,q [.bool a9,.slice b0 b1 b2] b3->K (Qv a3 a4 a5 a6 a9 b0 b1 b2) b3)
def B8t a b c d e f g i(hvc:C4u prog a b c d e f g i h K):aC prog Lr #[Zv a b c d,Zv e f g i] h K:=
 fnk func117 ⟨[],[(3,⟨[],[(2,2),(3,2)],[.bool false,N0,.bool false,N0],⟨[6,7,8,9,10,11],[2,3]⟩⟩),(7,⟨[],[(2,2),(3,2)],[.bool false,N0,.bool false,N0],⟨(Lrg 15 15),[2,3]⟩⟩),(9,⟨[],[(3,2)],[.bool false,N0],⟨[30,31,32,33],[3]⟩⟩)],[(2,([0,2,1,3,4,5],[]))],[],[]⟩ [2,3,4,5] [] hvc
def NR(P:aD)(e:Int)(h:aG)(K:VP):Prop:=
 aC P T9 #[I e] h (fun f g=>∃ a b c d,f=Zv a b c d/\K (Qv a b c d false none 0 0) g)
def C66 a(hvc:NR prog a h K):aC prog C5t #[I a] h K:=
 fnk func133 an0 [2] [] hvc
def C05(P:aD)(b:Bool)(c:OA)(d e:Nat)(i:Bool)(j:OA)(k l:Nat)(h:aG)(K:VP):Prop:=
 aC P A6q #[Zv b c d e] h (fun f g=>∃ a,f=I a/\K (I a) g)
def B5m a b c d e f g i(hvc:C05 prog a b c d e f g i h K):aC prog Gq #[Qv a b c d e f g i] h K:=
 fnk func58 an0 [1] [] hvc
def C4q(P:aD)(f:Bool)(g:OA)(i j:Nat)(k:Bool)(l:OA)(m n:Nat)(h:aG)(K:VP):Prop:=
 aC P A41 #[Zv f g i j] h (fun o a=>∃ b c d e,o=Zv b c d e/\h.le a/\K (Qv b c d e k l m n) a)
def B8p a b c d e f g i(hvc:C4q prog a b c d e f g i h K):aC prog A0y #[Qv a b c d e f g i] h K:=
 fnk func131 { orders:=[(1,([0,1,3,4,2,5,6],[]))] } [1,2] [] hvc
def C4t(P:aD)(a:Bool)(b:OA)(c d:Nat)(v:Bool)(w:OA)(k x:Nat)(e:Bool)(f:OA)(g i:Nat)(y:Bool)(z:OA)(l A:Nat)(h:aG)(K:VP):Prop:=
 ∃ (m:LP),(Br ((k:Int)==0) (m [.bool ((l:Int)==0)] h)
 (m [.bool false] h))/\
 ∀ C j,m [.bool C] j->Br C (aC P A8r #[Zv a b c d,Zv e f g i] j (fun c6 c7=>∃ D E F G,c6=Zv D E F G/\K (Qv D E F G false none 0 0) c7))
 (aC P Dy #[Qv e f g i y z l A] j (fun c8 n=>∃ H J L M,c8=Zv H J L M/\j.le n/\aC P Ko #[Zv a b c d,Zv H J L M] n (fun c9 o=>∃ N O Q R,c9=Zv N O Q R/\n.le o/\aC P Dy #[Qv a b c d v w k x] o (fun d0 p=>∃ S T V W,d0=Zv S T V W/\o.le p/\aC P Ko #[Zv e f g i,Zv S T V W] p (fun d1 q=>∃ X Z a0 a1,d1=Zv X Z a0 a1/\p.le q/\aC P A8r #[Zv N O Q R,Zv X Z a0 a1] q (fun d2 r=>∃ a2 a3 a4 a5,d2=Zv a2 a3 a4 a5/\q.le r/\aC P Dy #[Qv a b c d v w k x] r (fun d3 s=>∃ a6 a7 a8 a9,d3=Zv a6 a7 a8 a9/\r.le s/\aC P Dy #[Qv e f g i y z l A] s (fun d4 t=>∃ b0 b1 b2 b3,d4=Zv b0 b1 b2 b3/\s.le t/\aC P Ko #[Zv a6 a7 a8 a9,Zv b0 b1 b2 b3] t (fun d5 u=>∃ b4 b5 b6 b7,d5=Zv b4 b5 b6 b7/\t.le u/\aC P Lr #[Zv a2 a3 a4 a5,Zv b4 b5 b6 b7] u (fun d6 B=>∃ b8 b9 c0 c1 c2 c3 c4 c5,d6=Qv b8 b9 c0 c1 c2 c3 c4 c5/\u.le B/\K (Qv b8 b9 c0 c1 c2 c3 c4 c5) B))))))))))
def B8s a b c d e f g i j k l m n o p q(hvc:C4t prog a b c d e f g i j k l m n o p q h K):aC prog Qt #[Qv a b c d e f g i,Qv j k l m n o p q] h K:=
 fnk func127 ⟨[],[(2,⟨[16],[],[.bool false],⟨(Lrg 5 12),[]⟩⟩)],[(3,([0,1,2,5,6,7,11,13,3,4,8,9,10,12,14,15,16,17],[]))],[],[]⟩ [2,3,4] [] hvc
def C4p(P:aD)(t:Bool)(u:OA)(v w:Nat)(x:Bool)(y:OA)(z A:Nat)(B:Bool)(C:OA)(D E:Nat)(F:Bool)(G:OA)(H J:Nat)(h:aG)(K:VP):Prop:=
 aC P A0y #[Qv B C D E F G H J] h (fun L a=>∃ c d e f g i j k,L=Qv c d e f g i j k/\h.le a/\aC P Qt #[Qv t u v w x y z A,Qv c d e f g i j k] a (fun M b=>∃ l m n o p q r s,M=Qv l m n o p q r s/\a.le b/\K (Qv l m n o p q r s) b))
def B8o a b c d e f g i j k l m n o p q(hvc:C4p prog a b c d e f g i j k l m n o p q h K):aC prog A0x #[Qv a b c d e f g i,Qv j k l m n o p q] h K:=
 fnk func56 an0 [2,3,4] [] hvc
def C4r(P:aD)(b:Bool)(c:OA)(d e:Nat)(a0:Bool)(a1:OA)(p a2:Nat)(f:Bool)(g:OA)(i j:Nat)(a3:Bool)(a4:OA)(q a5:Nat)(h:aG)(K:VP):Prop:=
 ∃ (k:LP),(Br ((p:Int)==0) (k [.bool ((q:Int)==0)] h)
 (k [.bool false] h))/\
 ∀ s a,k [.bool s] a->Br s (aC P Ko #[Zv b c d e,Zv f g i j] a (fun a6 a7=>∃ t u v w,a6=Zv t u v w/\K (Qv t u v w false none 0 0) a7))
 (aC P Ko #[Zv b c d e,Zv f g i j] a (fun a8 l=>∃ x y z A,a8=Zv x y z A/\a.le l/\aC P Dy #[Qv b c d e a0 a1 p a2] l (fun a9 m=>∃ B C D E,a9=Zv B C D E/\l.le m/\aC P Dy #[Qv f g i j a3 a4 q a5] m (fun b0 n=>∃ F G H J,b0=Zv F G H J/\m.le n/\aC P Ko #[Zv B C D E,Zv F G H J] n (fun b1 o=>∃ L M N O,b1=Zv L M N O/\n.le o/\aC P Lr #[Zv x y z A,Zv L M N O] o (fun b2 r=>∃ Q R S T V W X Z,b2=Qv Q R S T V W X Z/\o.le r/\K (Qv Q R S T V W X Z) r))))))
def B8q a b c d e f g i j k l m n o p q(hvc:C4r prog a b c d e f g i j k l m n o p q h K):aC prog Qs #[Qv a b c d e f g i,Qv j k l m n o p q] h K:=
 fnk func55 ⟨[],[(2,⟨[16],[],[.bool false],⟨(Lrg 5 12),[]⟩⟩)],[(3,([0,1,2,3,5,7,4,6,8,9,10,11],[]))],[],[]⟩ [2,3,4] [] hvc
def C4s(P:aD)(k:Bool)(l:OA)(m n:Nat)(W:Bool)(X:OA)(Z a0:Nat)(a:Bool)(b:OA)(c d:Nat)(o:Bool)(p:OA)(q r:Nat)(h:aG)(K:VP):Prop:=
 aC P Gq #[Qv a b c d o p q r] h (fun a1 e=>∃ t,a1=I t/\Br (t==0) (K (Qv false none 0 0 false none 0 0) e)
 (aC P Dy #[Qv a b c d o p q r] e (fun a2 f=>∃ u v w x,a2=Zv u v w x/\e.le f/\aC P Ko #[Zv k l m n,Zv u v w x] f (fun a3 g=>∃ y z A B,a3=Zv y z A B/\f.le g/\aC P Dy #[Qv k l m n W X Z a0] g (fun a4 i=>∃ C D E F,a4=Zv C D E F/\g.le i/\aC P Ko #[Zv C D E F,Zv a b c d] i (fun a5 j=>∃ G H J L,a5=Zv G H J L/\i.le j/\aC P Lr #[Zv y z A B,Zv G H J L] j (fun a6 s=>∃ M N O Q R S T V,a6=Qv M N O Q R S T V/\j.le s/\K (Qv M N O Q R S T V) s)))))))
def B8r a b c d e f g i j k l m n o p q(hvc:C4s prog a b c d e f g i j k l m n o p q h K):aC prog A0z #[Qv a b c d e f g i,Qv j k l m n o p q] h K:=
 fnk func125 { orders:=[(3,([0,1,2,5,7,8,3,4,6,9,10,11],[]))] } [2,3,4] [] hvc
def C4n(P:aD)(f:Bool)(j:OA)(k l:Nat)(m:Bool)(n:OA)(g o:Nat)(h:aG)(K:VP):Prop:=
 aC P Om #[Zv f j k l] h (fun p i=>∃ (a:ByteArray),p= .string a/\∃ (d:LP),(Br f (((aI ({ data:=#[45] }:ByteArray)+aI a:Nat):Int)<=9223372036854775807/\d [.string (({ data:=#[45] }:ByteArray)++a)] i)
 (d [.string a] i))/\
 ∀ c e,d [.string c] e->Bd ((g:Int)>0) (aC P Om #[Zv m n g o] e (fun q r=>∃ (b:ByteArray),q= .string b/\((aI ({ data:=#[47] }:ByteArray)+aI b:Nat):Int)<=9223372036854775807/\((aI c+aI (({ data:=#[47] }:ByteArray)++b):Nat):Int)<=9223372036854775807/\K (.string (c++(({ data:=#[47] }:ByteArray)++b))) r))
 (K (.string c) e))
def B8m a b c d e f g i(hvc:C4n prog a b c d e f g i h K):aC prog A6p #[Qv a b c d e f g i] h K:=
 fnk func105 { cuts:=[(4,⟨[3],[],[.string ⟨#[]⟩],⟨[3,7,8,9,10,11],[]⟩⟩)] } [1] [] hvc
def C04(P:aD)(v:OA)(c A:Nat)(h:aG)(K:VP):Prop:=
 wpH P (aH 38 (I (c:Int)) (I (c:Int))) (fun w x=>∃ e f k,w=Sl e f k/\∃ (d:LP) (g:LN),d [I 0] x/\
 ∀ a b,d [I a] b->Bd (a<(c:Int)) (∃ l,Ax v l a c <| ∃ m n o p q r s t,Lq b (l.add (a.toNat*4)) m n o p q r s t<|aC P A6p #[Qv m n o p q r s t] b (fun y z=>∃ (i:ByteArray),y= .string i/\∃ u,Ax e u a f<|wpH P (aE 9 (Pt (u.add (a.toNat*1))) (.string i)) (fun _ j=>d [I (B6 (a+1))] j/\g [I (B6 (a+1))] j<g [I a] b) z))
 (K (Sl e f k) b)) h
def B5k a b c(hvc:C04 prog a b c h K):aC prog Gm #[Sl a b c] h K:=
 fnk func50 { loops:=[(3,⟨[4],[],[I 0],⟨([4]++Lrg 8 14),[]⟩⟩)] } [] [] hvc
