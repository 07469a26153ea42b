/- A part. -/
import Derived.Test.YtmbfcbbkbefgfaaGreatDoorG05
import Derived.Test.YtmbfcbbkbefgfaaGreatDoorG08
open Go.Proofs.Tryz
set_option linter.all false
open _root_.Go.Builtin renaming append_->aM,copy_->aN
open _root_.ByteArray renaming size->aG
open _root_.Go.Extern.MathBitsCarry renaming m64->aO,three->aQ,pair->aR
open _root_.Go.Instr renaming buildSlice->aH,storeAt->aI,makeSlice->aK
open Int renaming tdiv->aD,fdiv->aF,tmod->aL
open _root_.Go renaming Program->aE
open _root_.Go.Proofs.YtmbfcbbkbefgfaaGreatDoor renaming FCall->aC,Heap->aJ,ECall->aP
namespace Go.Proofs.YtmbfcbbkbefgfaaGreatDoor
open Go
set_option maxRecDepth 100000
variable {h:aJ} {K:VP}
abbrev F8:Nat:=261
abbrev U7:Nat:=236
abbrev D8:Nat:=241
abbrev R6:Nat:=278
abbrev S7:Nat:=281
abbrev K7:Nat:=240
abbrev F0:Nat:=242
abbrev R2:Nat:=314
abbrev Aa:Nat:=319
abbrev Ac:Nat:=283
abbrev S6:Nat:=322
abbrev C5:Nat:=248
abbrev As:Nat:=284
abbrev Ab:Nat:=260
abbrev Dw:Nat:=320
abbrev X8:Nat:=275
abbrev L5:Nat:=272
abbrev G7:Nat:=297
abbrev Iq:Nat:=321
abbrev At:Nat:=315
abbrev R5:Nat:=316
abbrev Ip:Nat:=318
abbrev Au:Nat:=296
abbrev S9:Nat:=317
abbrev S8:Nat:=327
abbrev Mc:Nat:=274
abbrev Dv:Nat:=231
abbrev Io:Nat:=271
abbrev J1:Nat:=298
abbrev J4:Nat:=239
abbrev A03:Nat:=164
abbrev He:Nat:=150
abbrev Du:Nat:=230
abbrev I6:Nat:=269
abbrev J0:Nat:=294
abbrev V7:Nat:=251
abbrev F2:Nat:=287
abbrev T1:Nat:=311
abbrev Ad:Nat:=282
abbrev O7:Nat:=262
abbrev Ww:Nat:=188
abbrev Fq:Nat:=191
abbrev Fo:Nat:=190
abbrev Im:Nat:=171
abbrev E4:Nat:=166
abbrev V6:Nat:=152
abbrev Hc:Nat:=255
abbrev Wx:Nat:=277
abbrev Ht:Nat:=243
abbrev Qs:Nat:=169
abbrev A82:Nat:=292
abbrev T7:Nat:=183
abbrev Kd:Nat:=249
abbrev Fp:Nat:=184
abbrev In:Nat:=267
abbrev Ns:Nat:=151
abbrev A83:Nat:=238
abbrev Nr:Nat:=203
abbrev B7y:Nat:=348
abbrev A84:Nat:=204
abbrev Dz:Nat:=244
abbrev B1w:Nat:=245
abbrev Xb:Nat:=205
abbrev Wy:Nat:=273
abbrev Ee:Nat:=301
abbrev Ed:Nat:=305
abbrev H3:Nat:=295
abbrev I7:Nat:=300
abbrev Kk:Nat:=313
abbrev A8b:Nat:=290
abbrev Q6:Nat:=302
abbrev Af:Nat:=299
abbrev A8a:Nat:=330
abbrev Dx:Nat:=270
abbrev Qt:Nat:=329
abbrev Kj:Nat:=279
abbrev Hg:Nat:=303
abbrev Is:Nat:=280
abbrev Ae:Nat:=304
abbrev Mj:Nat:=254
abbrev Bp:Nat:=289
abbrev V3:Nat:=136
abbrev B7:Nat:=270
def K9:SliceT prog V3 B7 (U 0) 1 8:=⟨by kernel_rfl,by kernel_rfl,rfl,by decide⟩
def E2:prog.cellsOf B7=1/\(prog.info? B7).isSome=true:=⟨by kernel_rfl,by kernel_rfl⟩
abbrev A6g:Nat:=316
abbrev Dl:Nat:=136
def A3f:SliceT prog A6g Dl (N0) 1 24:=⟨by kernel_rfl,by kernel_rfl,rfl,by decide⟩
def B8u(P:aE)(d:OA)(f c:Nat)(h:aJ)(K:VP):Prop:=
 ∃ (e:LP) (g:LN),e [I (f:Int)] h/\
 ∀ a b,e [I a] b->Bd (a>0) (∃ i,Ax d i (B4 (a-1)) f <| ∃ j,b.cell? (i.add ((B4 (a-1)).toNat*1))=some (U j)/\Br (j==0) (e [I (B4 (a-1))] b/\g [I (B4 (a-1))] b<g [I a] b)
 ((0<=a/\a<=(c:Int))/\K (.slice (J6 d c 0 1) ((a.toNat)-0) (c-0)) b))
 ((0<=a/\a<=(c:Int))/\K (.slice (J6 d c 0 1) ((a.toNat)-0) (c-0)) b)
def B2j a b c(hvc:B8u prog a b c h K):aC prog F8 #[Sl a b c] h K:=
 fnk func261 { loops:=[(2,⟨[3],[],[I 0],⟨([3]++Lrg 6 12),[]⟩⟩)] } [] [] hvc
def A0n(P:aE)(a:Int)(h:aJ)(K:VP):Prop:=
 Br (a==0) (K (Sl none 0 0) h)
 (wpH P (aH 136 1 #[(0,U a)]) (fun e f=>∃ b c d,e=Sl b c d/\K (Sl b c d) f) h)
def A0m a(hvc:A0n prog a h K):aC prog U7 #[U a] h K:=
 fnk func236 an0 [] [] hvc
def La(P:aE)(f:OA)(c x:Nat)(g:OA)(d y:Nat)(h:aJ)(K:VP):Prop:=
 Br ((c:Int) != (d:Int)) (aC P Kj #[I (c:Int),I (d:Int)] h (fun u v=>∃ k,u=I k/\K (I k) v))
 (∃ (e:LP) (i:LN),e [I (B4 ((c:Int)-1))] h/\
 ∀ a b,e [I a] b->Bd (a>=0) (∃ l,Ax f l a c <| ∃ m,b.cell? (l.add (a.toNat*1))=some (U m)/\∃ n,Ax g n a d <| ∃ o,b.cell? (n.add (a.toNat*1))=some (U o)/\Br (m != o) (∃ p,Ax f p a c <| ∃ q,b.cell? (p.add (a.toNat*1))=some (U q)/\∃ r,Ax g r a d <| ∃ s,b.cell? (r.add (a.toNat*1))=some (U s)/\aC P Is #[U q,U s] b (fun w j=>∃ t,w=I t/\b.le j/\K (I t) j))
 (e [I (B4 (a-1))] b/\i [I (B4 (a-1))] b<i [I a] b))
 (K (I 0) b))
def Ov a b c d e f(hvc:La prog a b c d e f h K):aC prog D8 #[Sl a b c,Sl d e f] h K:=
 fnk func241 { loops:=[(4,⟨[5],[],[I 0],⟨([4,5]++Lrg 19 22),[]⟩⟩)] } [] [] hvc
def A46(P:aE)(f:OA)(e H:Nat)(C:OA)(j J:Nat)(h:aJ)(K:VP):Prop:=
 ∃ (k:LP) (o:LN),k [U 0,I 0] h/\
 ∀ g a c,k [U g,I a] c->Bd (a<(j:Int)) (∃ u,Ax C u a j <| ∃ v,c.cell? (u.add (a.toNat*1))=some (U v)/\∃ w,Ax f w a e <| ∃ x,c.cell? (w.add (a.toNat*1))=some (U x)/\aP P Q6 #[U x,U v,U g] c (fun D E=>∃ (p:Int) (l:Int),D= .tuple #[U p,U l]/\∃ y,Ax f y a e<|wpH P (aI 270 (Pt (y.add (a.toNat*1))) (U p)) (fun _ s=>k [U l,I (B4 (a+1))] s/\o [U l,I (B4 (a+1))] s<o [U g,I a] c) E))
 (∃ (m:LP) (q:LN),m [U g,I (j:Int)] c/\
 ∀ i b d,m [U i,I b] d->Br (i != 0) (Bd (b<(e:Int)) (∃ z,Ax f z b e <| ∃ A,d.cell? (z.add (b.toNat*1))=some (U A)/\aP P Q6 #[U A,U 0,U i] d (fun F G=>∃ (r:Int) (n:Int),F= .tuple #[U r,U n]/\∃ B,Ax f B b e<|wpH P (aI 270 (Pt (B.add (b.toNat*1))) (U r)) (fun _ t=>m [U n,I (B4 (b+1))] t/\q [U n,I (B4 (b+1))] t<q [U i,I b] d) G))
 (K (T0) d))
 (K (T0) d))
def A2s a b c d e f(hvc:A46 prog a b c d e f h K):aC prog R6 #[Sl a b c,Sl d e f] h K:=
 fnk func278 { loops:=[(2,⟨[4,10],[],[U 0,I 0],⟨([4,5,6]++Lrg 10 19),[]⟩⟩),(7,⟨[4,7],[],[U 0,I 0],⟨([4,7]++Lrg 31 22),[]⟩⟩)] } [] [] hvc
def Kt(P:aE)(f:OA)(e H:Nat)(C:OA)(j J:Nat)(h:aJ)(K:VP):Prop:=
 ∃ (k:LP) (o:LN),k [U 0,I 0] h/\
 ∀ g a c,k [U g,I a] c->Bd (a<(j:Int)) (∃ u,Ax C u a j <| ∃ v,c.cell? (u.add (a.toNat*1))=some (U v)/\∃ w,Ax f w a e <| ∃ x,c.cell? (w.add (a.toNat*1))=some (U x)/\aP P Af #[U x,U v,U g] c (fun D E=>∃ (p:Int) (l:Int),D= .tuple #[U p,U l]/\∃ y,Ax f y a e<|wpH P (aI 270 (Pt (y.add (a.toNat*1))) (U p)) (fun _ s=>k [U l,I (B4 (a+1))] s/\o [U l,I (B4 (a+1))] s<o [U g,I a] c) E))
 (∃ (m:LP) (q:LN),m [U g,I (j:Int)] c/\
 ∀ i b d,m [U i,I b] d->Br (i != 0) (Bd (b<(e:Int)) (∃ z,Ax f z b e <| ∃ A,d.cell? (z.add (b.toNat*1))=some (U A)/\aP P Af #[U A,U 0,U i] d (fun F G=>∃ (r:Int) (n:Int),F= .tuple #[U r,U n]/\∃ B,Ax f B b e<|wpH P (aI 270 (Pt (B.add (b.toNat*1))) (U r)) (fun _ t=>m [U n,I (B4 (b+1))] t/\q [U n,I (B4 (b+1))] t<q [U i,I b] d) G))
 (K (T0) d))
 (K (T0) d))
def Om a b c d e f(hvc:Kt prog a b c d e f h K):aC prog S7 #[Sl a b c,Sl d e f] h K:=
 fnk func281 { loops:=[(2,⟨[4,10],[],[U 0,I 0],⟨([4,5,6]++Lrg 10 19),[]⟩⟩),(7,⟨[4,7],[],[U 0,I 0],⟨([4,7]++Lrg 31 22),[]⟩⟩)] } [] [] hvc
def A0r(P:aE)(m:OA)(e n:Nat)(o:OA)(f p:Nat)(h:aJ)(K:VP):Prop:=
 ∃ (g:LP),(Bd ((e:Int)<(f:Int)) (g [.slice o f p,.slice m e n] h)
 (g [.slice m e n,.slice o f p] h))/\
 ∀ j a k q i r l,g [.slice j a k,.slice q i r] l->Br ((i:Int)==0) (K (Sl j a k) l)
 (wpH P (aK 136 (I (B4 ((a:Int)+1))) (I (B4 ((a:Int)+1)))) (fun v w=>∃ b c d,v=Sl b c d/\wpH P (aN #[136,136] 3 #[Sl b c d,Sl j a k]) (fun x y=>∃ D,x=I D/\aC P R6 #[Sl b c d,Sl q i r] y (fun z A=>z=T0/\aC P F8 #[Sl b c d] A (fun B C=>∃ s t u,B=Sl s t u/\K (Sl s t u) C))) w) l)
def A0q a b c d e f(hvc:A0r prog a b c d e f h K):aC prog K7 #[Sl a b c,Sl d e f] h K:=
 fnk func240 { cuts:=[(3,⟨[0,1],[],[N0,N0],⟨[0,1,6,7,8,9,10,11,12],[]⟩⟩)] } [] [278] hvc
def Hy(P:aE)(d:OA)(e f:Nat)(l:OA)(g m:Nat)(h:aJ)(K:VP):Prop:=
 Br ((g:Int)==0) (K (Sl d e f) h)
 (aC P Dx #[Sl d e f] h (fun n o=>∃ a b c,n=Sl a b c/\aC P S7 #[Sl a b c,Sl l g m] o (fun p q=>p=T0/\aC P F8 #[Sl a b c] q (fun r s=>∃ i j k,r=Sl i j k/\K (Sl i j k) s))))
def Mx a b c d e f(hvc:Hy prog a b c d e f h K):aC prog F0 #[Sl a b c,Sl d e f] h K:=
 fnk func242 an0 [] [281] hvc
def Uu(P:aE)(g:OA)(c k:Nat)(a:Int)(h:aJ)(K:VP):Prop:=
 Br ((c:Int)==0) (K (Sl g c k) h)
 (Br (a==0) (K (Sl g c k) h)
 (wpH P (aK 136 (I (B4 ((B4 ((c:Int)+(B4 (C0 (aD a (64:Int))))))+1))) (I (B4 ((B4 ((c:Int)+(B4 (C0 (aD a (64:Int))))))+1)))) (fun w x=>∃ e f n,w=Sl e f n/\∃ (i:LP) (l:LN),i [I 0] x/\
 ∀ b d,i [I b] d->Bd (b<(c:Int)) (∃ o,Ax g o b c <| ∃ j,d.cell? (o.add (b.toNat*1))=some (U j)/\∃ p,Ax e p (B4 (b+(B4 (C0 (aD a (64:Int)))))) f <| ∃ q,d.cell? (p.add ((B4 (b+(B4 (C0 (aD a (64:Int)))))).toNat*1))=some (U q)/\Bd (aL a (64:Int)<0) False
 (∃ r,Ax e r (B4 (b+(B4 (C0 (aD a (64:Int)))))) f<|wpH P (aI 270 (Pt (r.add ((B4 (b+(B4 (C0 (aD a (64:Int)))))).toNat*1))) (U (bor .u64 q (C0 (j*2^(min (aL a (64:Int)).toNat 64)))))) (fun _ y=>Bd (C0 ((64:Int)-(aL a (64:Int)))<0) False
 (∃ s,Ax e s (B4 ((B4 (b+(B4 (C0 (aD a (64:Int))))))+1)) f<|wpH P (aI 270 (Pt (s.add ((B4 ((B4 (b+(B4 (C0 (aD a (64:Int))))))+1)).toNat*1))) (U (aF j (2^(min (C0 ((64:Int)-(aL a (64:Int)))).toNat 64))))) (fun _ m=>i [I (B4 (b+1))] m/\l [I (B4 (b+1))] m<l [I b] d) y)) d))
 (aC P F8 #[Sl e f n] d (fun z A=>∃ t u v,z=Sl t u v/\K (Sl t u v) A))) h))
def Xt a b c d(hvc:Uu prog a b c d h K):aC prog R2 #[Sl a b c,U d] h K:=
 fnk func314 { loops:=[(6,⟨[31],[],[I 0],⟨([8,9]++Lrg 31 27),[]⟩⟩)] } [] [] hvc
def Rs(P:aE)(k:OA)(c C:Nat)(b:Int)(h:aJ)(K:VP):Prop:=
 Bd ((C0 (aD b (64:Int)))>=(C0 (c:Int))) (K (Sl none 0 0) h)
 (wpH P (aK 136 (I (B4 ((c:Int)-(B4 (C0 (aD b (64:Int))))))) (I (B4 ((c:Int)-(B4 (C0 (aD b (64:Int)))))))) (fun y z=>∃ g d m,y=Sl g d m/\∃ (i:LP) (j:LN),i [I 0] z/\
 ∀ a e,i [I a] e->Bd (a<(d:Int)) (∃ n,Ax k n (B4 (a+(B4 (C0 (aD b (64:Int)))))) c <| ∃ o,e.cell? (n.add ((B4 (a+(B4 (C0 (aD b (64:Int)))))).toNat*1))=some (U o)/\Bd (aL b (64:Int)<0) False
 (∃ p,Ax g p a d<|wpH P (aI 270 (Pt (p.add (a.toNat*1))) (U (aF o (2^(min (aL b (64:Int)).toNat 64))))) (fun _ f=>Bd ((B4 ((B4 (a+(B4 (C0 (aD b (64:Int))))))+1))<(c:Int)) (∃ q,Ax g q a d <| ∃ r,f.cell? (q.add (a.toNat*1))=some (U r)/\∃ s,Ax k s (B4 ((B4 (a+(B4 (C0 (aD b (64:Int))))))+1)) c <| ∃ t,f.cell? (s.add ((B4 ((B4 (a+(B4 (C0 (aD b (64:Int))))))+1)).toNat*1))=some (U t)/\Bd (C0 ((64:Int)-(aL b (64:Int)))<0) False
 (∃ u,Ax g u a d<|wpH P (aI 270 (Pt (u.add (a.toNat*1))) (U (bor .u64 r (C0 (t*2^(min (C0 ((64:Int)-(aL b (64:Int)))).toNat 64)))))) (fun _ l=>i [I (B4 (a+1))] l/\j [I (B4 (a+1))] l<j [I a] e) f))
 (i [I (B4 (a+1))] f/\j [I (B4 (a+1))] f<j [I a] e)) e))
 (aC P F8 #[Sl g d m] e (fun A B=>∃ v w x,A=Sl v w x/\K (Sl v w x) B))) h)
def Ta a b c d(hvc:Rs prog a b c d h K):aC prog Aa #[Sl a b c,U d] h K:=
 fnk func319 { loops:=[(6,⟨[27],[],[I 0],⟨([8]++Lrg 27 38),[]⟩⟩)] } [] [] hvc
def Sb(P:aE)(i:OA)(j D:Nat)(w:OA)(k E:Nat)(x:Int)(h:aJ)(K:VP):Prop:=
 ∃ (d:LP) (l:LN),d [U 0,I 0] h/\
 ∀ c a b,d [U c,I a] b->Bd (a<(k:Int)) (∃ r,Ax w r a k <| ∃ s,b.cell? (r.add (a.toNat*1))=some (U s)/\aC P Ed #[U s,U x] b (fun y z=>∃ (e:Int) (m:Int),y= .tuple #[U e,U m]/\aP P Q6 #[U m,U c,U 0] z (fun A p=>∃ (n:Int) (f:Int),A= .tuple #[U n,U f]/\∃ t,Ax i t a j <| ∃ u,p.cell? (t.add (a.toNat*1))=some (U u)/\aP P Q6 #[U u,U n,U 0] p (fun B C=>∃ (o:Int) (g:Int),B= .tuple #[U o,U g]/\∃ v,Ax i v a j<|wpH P (aI 270 (Pt (v.add (a.toNat*1))) (U o)) (fun _ q=>d [U (C0 ((C0 (e+f))+g)),I (B4 (a+1))] q/\l [U (C0 ((C0 (e+f))+g)),I (B4 (a+1))] q<l [U c,I a] b) C))))
 (K (U c) b)
def Tg a b c d e f g(hvc:Sb prog a b c d e f g h K):aC prog Ac #[Sl a b c,Sl d e f,U g] h K:=
 fnk func283 { loops:=[(3,⟨[7,16],[],[U 0,I 0],⟨([7,8,9,10,11,12,13]++Lrg 16 36),[]⟩⟩)] } [] [] hvc
def Em(P:aE)(i:OA)(j D:Nat)(w:OA)(k E:Nat)(x:Int)(h:aJ)(K:VP):Prop:=
 ∃ (d:LP) (l:LN),d [U 0,I 0] h/\
 ∀ c a b,d [U c,I a] b->Bd (a<(k:Int)) (∃ r,Ax w r a k <| ∃ s,b.cell? (r.add (a.toNat*1))=some (U s)/\aC P Ed #[U s,U x] b (fun y z=>∃ (e:Int) (m:Int),y= .tuple #[U e,U m]/\aP P Q6 #[U m,U c,U 0] z (fun A p=>∃ (n:Int) (f:Int),A= .tuple #[U n,U f]/\∃ t,Ax i t a j <| ∃ u,p.cell? (t.add (a.toNat*1))=some (U u)/\aP P Af #[U u,U n,U 0] p (fun B C=>∃ (o:Int) (g:Int),B= .tuple #[U o,U g]/\∃ v,Ax i v a j<|wpH P (aI 270 (Pt (v.add (a.toNat*1))) (U o)) (fun _ q=>d [U (C0 ((C0 (e+f))+g)),I (B4 (a+1))] q/\l [U (C0 ((C0 (e+f))+g)),I (B4 (a+1))] q<l [U c,I a] b) C))))
 (K (U c) b)
def Iy a b c d e f g(hvc:Em prog a b c d e f g h K):aC prog S6 #[Sl a b c,Sl d e f,U g] h K:=
 fnk func322 { loops:=[(3,⟨[7,16],[],[U 0,I 0],⟨([7,8,9,10,11,12,13]++Lrg 16 36),[]⟩⟩)] } [] [] hvc
def U9(P:aE)(K:VP)(s:OA)(b t:Nat)(u:OA)(g:Nat)(e:OA)(i d:Nat)(v:aJ):Prop:=
 ∃ (f:LP) (j:LN),f [I 0] v/\
 ∀ a c,f [I a] c->Bd (a<(g:Int)) (∃ l,Ax u l a g <| ∃ m,c.cell? (l.add (a.toNat*1))=some (U m)/\(0<=B4 (a+(b:Int))/\B4 (a+(b:Int))<=(d:Int))/\(0<=a/\a<=(((B4 (a+(b:Int))).toNat:Nat):Int))/\aC P Ac #[.slice (J6 e d (a.toNat) 1) (((B4 (a+(b:Int))).toNat)-(a.toNat)) (d-(a.toNat)),Sl s b t,U m] c (fun w x=>∃ n,w=U n/\∃ o,Ax e o (B4 (a+(b:Int))) i<|wpH P (aI 270 (Pt (o.add ((B4 (a+(b:Int))).toNat*1))) (U n)) (fun _ k=>f [I (B4 (a+1))] k/\j [I (B4 (a+1))] k<j [I a] c) x))
 (aC P F8 #[Sl e i d] c (fun y z=>∃ p q r,y=Sl p q r/\K (Sl p q r) z))
def Ce(P:aE)(D:OA)(m E:Nat)(F:OA)(n G:Nat)(h:aJ)(K:VP):Prop:=
 ∃ (o:LP),(Bd ((m:Int)<(n:Int)) (o [.slice F n G,.slice D m E] h)
 (o [.slice D m E,.slice F n G] h))/\
 ∀ f a c g b d k,o [.slice f a c,.slice g b d] k->Br ((b:Int)==0) (K (Sl none 0 0) k)
 (∃ (p:LP),(Br ((b:Int)==1) (∃ J,Ax g J (0:Int) b <| ∃ L,k.cell? (J.add (((0:Int)).toNat*1))=some (U L)/\p [.bool (L==1)] k)
 (p [.bool false] k))/\
 ∀ M j,p [.bool M] j->Br M (K (Sl f a c) j)
 (Bd ((b:Int)<40) (wpH P (aK 136 (I (B4 ((a:Int)+(b:Int)))) (I (B4 ((a:Int)+(b:Int))))) (fun b4 b5=>∃ N O Q,b4=Sl N O Q/\U9 P K f a c g b N O Q b5) j)
 (Bd ((b:Int)<=(B4 (aD (B4 ((a:Int)+1)) (2:Int)))) (aC P As #[Sl f a c,Sl g b d] j (fun b6 b7=>∃ R S T,b6=Sl R S T/\K (Sl R S T) b7))
 ((0<=B4 (aD (B4 ((a:Int)+1)) (2:Int))/\B4 (aD (B4 ((a:Int)+1)) (2:Int))<=(c:Int))/\(0<=B4 (aD (B4 ((a:Int)+1)) (2:Int))/\B4 (aD (B4 ((a:Int)+1)) (2:Int))<=(a:Int))/\aC P F8 #[.slice (J6 f c 0 1) (((B4 (aD (B4 ((a:Int)+1)) (2:Int))).toNat)-0) (c-0)] j (fun b8 q=>∃ r s t,b8=Sl r s t/\j.le q/\(0<=B4 (aD (B4 ((a:Int)+1)) (2:Int))/\B4 (aD (B4 ((a:Int)+1)) (2:Int))<=(d:Int))/\(0<=B4 (aD (B4 ((a:Int)+1)) (2:Int))/\B4 (aD (B4 ((a:Int)+1)) (2:Int))<=(b:Int))/\aC P F8 #[.slice (J6 g d 0 1) (((B4 (aD (B4 ((a:Int)+1)) (2:Int))).toNat)-0) (d-0)] q (fun b9 H=>∃ u v w,b9=Sl u v w/\q.le H/\aC P C5 #[Sl r s t,Sl u v w] H (fun c0 c1=>∃ x y z,c0=Sl x y z/\aC P C5 #[.slice (J6 f c ((B4 (aD (B4 ((a:Int)+1)) (2:Int))).toNat) 1) (a-((B4 (aD (B4 ((a:Int)+1)) (2:Int))).toNat)) (c-((B4 (aD (B4 ((a:Int)+1)) (2:Int))).toNat)),.slice (J6 g d ((B4 (aD (B4 ((a:Int)+1)) (2:Int))).toNat) 1) (b-((B4 (aD (B4 ((a:Int)+1)) (2:Int))).toNat)) (d-((B4 (aD (B4 ((a:Int)+1)) (2:Int))).toNat))] c1 (fun c2 c3=>∃ A B C,c2=Sl A B C/\aC P K7 #[Sl r s t,.slice (J6 f c ((B4 (aD (B4 ((a:Int)+1)) (2:Int))).toNat) 1) (a-((B4 (aD (B4 ((a:Int)+1)) (2:Int))).toNat)) (c-((B4 (aD (B4 ((a:Int)+1)) (2:Int))).toNat))] c3 (fun c4 c5=>∃ V W X,c4=Sl V W X/\aC P K7 #[Sl u v w,.slice (J6 g d ((B4 (aD (B4 ((a:Int)+1)) (2:Int))).toNat) 1) (b-((B4 (aD (B4 ((a:Int)+1)) (2:Int))).toNat)) (d-((B4 (aD (B4 ((a:Int)+1)) (2:Int))).toNat))] c5 (fun c6 c7=>∃ Z a0 a1,c6=Sl Z a0 a1/\aC P C5 #[Sl V W X,Sl Z a0 a1] c7 (fun c8 c9=>∃ a2 a3 a4,c8=Sl a2 a3 a4/\aC P F0 #[Sl a2 a3 a4,Sl x y z] c9 (fun d0 d1=>∃ a5 a6 a7,d0=Sl a5 a6 a7/\aC P F0 #[Sl a5 a6 a7,Sl A B C] d1 (fun d2 d3=>∃ a8 a9 b0,d2=Sl a8 a9 b0/\wpH P (aK 136 (I (B4 ((a:Int)+(b:Int)))) (I (B4 ((a:Int)+(b:Int))))) (fun d4 d5=>∃ l e i,d4=Sl l e i/\wpH P (aN #[136,136] 3 #[Sl l e i,Sl x y z]) (fun d6 d7=>∃ e4,d6=I e4/\(0<=B4 ((2:Int)*(B4 (aD (B4 ((a:Int)+1)) (2:Int))))/\B4 ((2:Int)*(B4 (aD (B4 ((a:Int)+1)) (2:Int))))<=(e:Int))/\wpH P (aN #[136,136] 3 #[.slice (J6 l i ((B4 ((2:Int)*(B4 (aD (B4 ((a:Int)+1)) (2:Int))))).toNat) 1) (e-((B4 ((2:Int)*(B4 (aD (B4 ((a:Int)+1)) (2:Int))))).toNat)) (i-((B4 ((2:Int)*(B4 (aD (B4 ((a:Int)+1)) (2:Int))))).toNat)),Sl A B C]) (fun d8 d9=>∃ e5,d8=I e5/\(0<=B4 (aD (B4 ((a:Int)+1)) (2:Int))/\B4 (aD (B4 ((a:Int)+1)) (2:Int))<=(e:Int))/\aC P R6 #[.slice (J6 l i ((B4 (aD (B4 ((a:Int)+1)) (2:Int))).toNat) 1) (e-((B4 (aD (B4 ((a:Int)+1)) (2:Int))).toNat)) (i-((B4 (aD (B4 ((a:Int)+1)) (2:Int))).toNat)),Sl a8 a9 b0] d9 (fun e0 e1=>e0=T0/\aC P F8 #[Sl l e i] e1 (fun e2 e3=>∃ b1 b2 b3,e2=Sl b1 b2 b3/\K (Sl b1 b2 b3) e3))) d7) d5) d3)))))))))))))
def De a b c d e f(hvc:Ce prog a b c d e f h K):aC prog C5 #[Sl a b c,Sl d e f] h K:=
 fnk func248 ⟨[(11,⟨[55],[],[I 0],⟨([7,8]++Lrg 55 22),[]⟩⟩)],[(3,⟨[0,1],[],[N0,N0],⟨[0,1,17,18,19,20,21,22,23],[]⟩⟩),(7,⟨[32],[],[.bool false],⟨(Lrg 32 10),[]⟩⟩)],[(18,([0,1,2,4,5,6,3,7,8],[])),(19,([0,1,2,4,5,6,3,7,8],[]))],[],[]⟩ [] [278,283] hvc
def Ku(P:aE)(x:OA)(c g:Nat)(y:OA)(b z:Nat)(h:aJ)(K:VP):Prop:=
 wpH P (aK 136 (I (B4 ((c:Int)+(b:Int)))) (I (B4 ((c:Int)+(b:Int))))) (fun A B=>∃ k e f,A=Sl k e f/\∃ (i:LP) (l:LN),i [I 0] B/\
 ∀ a d,i [I a] d->Bd (a<(c:Int)) ((0<=a/\a<=(e:Int))/\(0<=(if (c:Int)<(B4 (a+(b:Int))) then (c:Int) else B4 (a+(b:Int)))/\(if (c:Int)<(B4 (a+(b:Int))) then (c:Int) else B4 (a+(b:Int)))<=(g:Int))/\(0<=a/\a<=((((if (c:Int)<(B4 (a+(b:Int))) then (c:Int) else B4 (a+(b:Int)))).toNat:Nat):Int))/\aC P F8 #[.slice (J6 x g (a.toNat) 1) ((((if (c:Int)<(B4 (a+(b:Int))) then (c:Int) else B4 (a+(b:Int)))).toNat)-(a.toNat)) (g-(a.toNat))] d (fun C j=>∃ o p q,C=Sl o p q/\d.le j/\aC P C5 #[Sl o p q,Sl y b z] j (fun D m=>∃ r s t,D=Sl r s t/\j.le m/\aC P R6 #[.slice (J6 k f (a.toNat) 1) (e-(a.toNat)) (f-(a.toNat)),Sl r s t] m (fun E n=>E=T0/\i [I (B4 (a+(b:Int)))] n/\l [I (B4 (a+(b:Int)))] n<l [I a] d))))
 (aC P F8 #[Sl k e f] d (fun F G=>∃ u v w,F=Sl u v w/\K (Sl u v w) G))) h
def On a b c d e f(hvc:Ku prog a b c d e f h K):aC prog As #[Sl a b c,Sl d e f] h K:=
 fnk func284 ⟨[(3,⟨[6],[],[I 0],⟨([6,7]++Lrg 14 26),[]⟩⟩)],[],[(6,([0,1,2,3,4,5,6,8,7,9,10],[]))],[],[]⟩ [] [278] hvc
def Rt(P:aE)(v:OA)(w x:Nat)(p:Int)(h:aJ)(K:VP):Prop:=
 wpH P (aH 136 1 #[(0,U 1)]) (fun y z=>∃ r s t,y=Sl r s t/\aC P A8b #[U p] z (fun A B=>∃ u,A=I u/\∃ (f:LP) (g:LN),f [.slice r s t,I (B4 (u-1))] B/\
 ∀ b c d a e,f [.slice b c d,I a] e->Bd (a>=0) (aC P C5 #[Sl b c d,Sl b c d] e (fun C l=>∃ i j k,C=Sl i j k/\Bd (C0 a<0) False
 (Br ((So .u64 (aF p (2^(min (C0 a).toNat 64))) (1:Int))==1) (aC P C5 #[Sl i j k,Sl v w x] l (fun D q=>∃ m n o,D=Sl m n o/\f [.slice m n o,I (B4 (a-1))] q/\g [.slice m n o,I (B4 (a-1))] q<g [.slice b c d,I a] e))
 (f [.slice i j k,I (B4 (a-1))] l/\g [.slice i j k,I (B4 (a-1))] l<g [.slice b c d,I a] e))))
 (K (Sl b c d) e))) h
def Tc a b c d(hvc:Rt prog a b c d h K):aC prog Ab #[Sl a b c,U d] h K:=
 fnk func260 { loops:=[(3,⟨[5,6],[],[N0,I 0],⟨([5,6]++Lrg 11 16),[]⟩⟩)] } [] [] hvc
def Rz(P:aE)(t:OA)(c B:Nat)(u:Int)(h:aJ)(K:VP):Prop:=
 wpH P (aK 136 (I (c:Int)) (I (c:Int))) (fun v w=>∃ g i m,v=Sl g i m/\∃ (e:LP) (j:LN),e [U 0,I (B4 ((c:Int)-1))] w/\
 ∀ d a b,e [U d,I a] b->Bd (a>=0) (∃ n,Ax t n a c <| ∃ o,b.cell? (n.add (a.toNat*1))=some (U o)/\aC P Ee #[U d,U o,U u] b (fun x y=>∃ (k:Int) (f:Int),x= .tuple #[U k,U f]/\∃ p,Ax g p a i<|wpH P (aI 270 (Pt (p.add (a.toNat*1))) (U k)) (fun _ l=>e [U f,I (B4 (a-1))] l/\j [U f,I (B4 (a-1))] l<j [U d,I a] b) y))
 (aC P F8 #[Sl g i m] b (fun z A=>∃ q r s,z=Sl q r s/\K (.tuple #[Sl q r s,U d]) A))) h
def Tf a b c d(hvc:Rz prog a b c d h K):aC prog Dw #[Sl a b c,U d] h K:=
 fnk func320 { loops:=[(4,⟨[7,8],[],[U 0,I 0],⟨([7,8]++Lrg 15 17),[]⟩⟩)] } [] [] hvc
def Hz(P:aE)(l:OA)(f p:Nat)(m:Int)(h:aJ)(K:VP):Prop:=
 ∃ (d:LP) (g:LN),d [U 0,I (B4 ((f:Int)-1))] h/\
 ∀ c a b,d [U c,I a] b->Bd (a>=0) (∃ j,Ax l j a f <| ∃ k,b.cell? (j.add (a.toNat*1))=some (U k)/\aC P Ee #[U c,U k,U m] b (fun o i=>∃ (n:Int) (e:Int),o= .tuple #[U n,U e]/\d [U e,I (B4 (a-1))] i/\g [U e,I (B4 (a-1))] i<g [U c,I a] b))
 (K (U c) b)
def My a b c d(hvc:Hz prog a b c d h K):aC prog X8 #[Sl a b c,U d] h K:=
 fnk func275 { loops:=[(3,⟨[5,6],[],[U 0,I 0],⟨([5,6]++Lrg 10 14),[]⟩⟩)] } [] [] hvc
def Oc(P:aE)(c:OA)(b d:Nat)(e:OA)(a f:Nat)(h:aJ)(K:VP):Prop:=
 Bd ((a:Int)>=80) (Bd ((B4 ((b:Int)-(a:Int)))>=80) (aC P Au #[Sl c b d,Sl e a f] h (fun z A=>∃ (g:OA) (i j:Nat) (k:OA) (l m:Nat),z= .tuple #[Sl g i j,Sl k l m]/\K (.tuple #[Sl g i j,Sl k l m]) A))
 (aC P G7 #[Sl c b d,Sl e a f] h (fun B C=>∃ (n:OA) (o p:Nat) (q:OA) (r s:Nat),B= .tuple #[Sl n o p,Sl q r s]/\K (.tuple #[Sl n o p,Sl q r s]) C)))
 (aC P G7 #[Sl c b d,Sl e a f] h (fun D E=>∃ (t:OA) (u v:Nat) (w:OA) (x y:Nat),D= .tuple #[Sl t u v,Sl w x y]/\K (.tuple #[Sl t u v,Sl w x y]) E))
def Ry a b c d e f(hvc:Oc prog a b c d e f h K):aC prog L5 #[Sl a b c,Sl d e f] h K:=
 fnk func272 an0 [] [] hvc
def Y3(P:aE)(d:Nat)(w:OA)(k:Nat)(e:OA)(f:Nat)(b:Int)(x:Int)(y:LP)(z:aJ):Prop:=
 ∃ (i:LP) (l:LN),i [U 0,I 0] z/\
 ∀ g a c,i [U g,I a] c->Bd (a<(k:Int)) (∃ o,Ax w o a k <| ∃ p,c.cell? (o.add (a.toNat*1))=some (U p)/\∃ q,Ax e q (B4 (b+a)) f <| ∃ r,c.cell? (q.add ((B4 (b+a)).toNat*1))=some (U r)/\aP P Q6 #[U r,U p,U g] c (fun A B=>∃ (m:Int) (j:Int),A= .tuple #[U m,U j]/\∃ s,Ax e s (B4 (b+a)) f<|wpH P (aI 270 (Pt (s.add ((B4 (b+a)).toNat*1))) (U m)) (fun _ n=>i [U j,I (B4 (a+1))] n/\l [U j,I (B4 (a+1))] n<l [U g,I a] c) B))
 (∃ t,Ax e t (B4 (b+(d:Int))) f <| ∃ u,c.cell? (t.add ((B4 (b+(d:Int))).toNat*1))=some (U u)/\∃ v,Ax e v (B4 (b+(d:Int))) f<|wpH P (aI 270 (Pt (v.add ((B4 (b+(d:Int))).toNat*1))) (U (C0 (u+g)))) (fun _ C=>y [U (C0 (x-1))] C) c)
def En(P:aE)(b:Nat)(K:VP)(J:Int)(g:OA)(i n:Nat)(d:OA)(e c:Nat)(o:OA)(p L:Nat)(M:LP)(q:LN)(a:Int)(j:aJ):Prop:=
 Bd (a>=0) ((0<=B4 ((B4 (a+(b:Int)))+1)/\B4 ((B4 (a+(b:Int)))+1)<=(c:Int))/\(0<=a/\a<=(((B4 ((B4 (a+(b:Int)))+1)).toNat:Nat):Int))/\aC P Iq #[.slice (J6 d c (a.toNat) 1) (((B4 ((B4 (a+(b:Int)))+1)).toNat)-(a.toNat)) (c-(a.toNat)),Sl g i n] j (fun N O=>∃ f,N=U f/\(0<=B4 (a+(b:Int))/\B4 (a+(b:Int))<=(c:Int))/\(0<=a/\a<=(((B4 (a+(b:Int))).toNat:Nat):Int))/\aC P S6 #[.slice (J6 d c (a.toNat) 1) (((B4 (a+(b:Int))).toNat)-(a.toNat)) (c-(a.toNat)),Sl g i n,U f] O (fun Q r=>∃ l,Q=U l/\∃ u,Ax d u (B4 (a+(b:Int))) e <| ∃ m,r.cell? (u.add ((B4 (a+(b:Int))).toNat*1))=some (U m)/\∃ v,Ax d v (B4 (a+(b:Int))) e<|wpH P (aI 270 (Pt (v.add ((B4 (a+(b:Int))).toNat*1))) (U (C0 (m-l)))) (fun _ s=>∃ (k:LP),(Bd (m<l) (Y3 P b g i d e a f k s)
 (k [U f] s))/\
 ∀ w x,k [U w] x->∃ y,Ax o y a p<|wpH P (aI 270 (Pt (y.add (a.toNat*1))) (U w)) (fun _ t=>M [I (B4 (a-1))] t/\q [I (B4 (a-1))] t<q [I a] j) x) r)))
 (aC P F8 #[Sl o p L] j (fun R S=>∃ z A B,R=Sl z A B/\aC P F8 #[Sl d e c] S (fun T V=>∃ C D E,T=Sl C D E/\aC P Aa #[Sl C D E,U (C0 J)] V (fun W X=>∃ F G H,W=Sl F G H/\K (.tuple #[Sl z A B,Sl F G H]) X))))
def Y4(P:aE)(e b:Nat)(K:VP)(f:Int)(g:OA)(i j:Nat)(k:OA)(l m:Nat)(n:OA)(o p:Nat)(q:aJ):Prop:=
 ∃ (a:LP) (r:LN),a [I (B4 ((e:Int)-(b:Int)))] q/\
 ∀ c d,a [I c] d->En P b K f g i j k l m n o p a r c d
def Kw(P:aE)(d:OA)(b e:Nat)(f:OA)(a l:Nat)(h:aJ)(K:VP):Prop:=
 aC P D8 #[Sl d b e,Sl f a l] h (fun H c=>∃ q,H=I q/\Bd (q<0) (K (.tuple #[Sl none 0 0,Sl d b e]) c)
 (Br ((a:Int)==1) (∃ r,Ax f r (0:Int) a <| ∃ s,c.cell? (r.add (((0:Int)).toNat*1))=some (U s)/\aC P Dw #[Sl d b e,U s] c (fun J L=>∃ (m:OA) (n o:Nat) (p:Int),J= .tuple #[Sl m n o,U p]/\aC P U7 #[U p] L (fun M N=>∃ t u v,M=Sl t u v/\K (.tuple #[Sl m n o,Sl t u v]) N)))
 (∃ w,Ax f w (B4 ((a:Int)-1)) a <| ∃ x,c.cell? (w.add ((B4 ((a:Int)-1)).toNat*1))=some (U x)/\aC P H3 #[U x] c (fun O Q=>∃ g,O=I g/\aC P R2 #[Sl f a l,U (C0 g)] Q (fun R S=>∃ y z A,R=Sl y z A/\wpH P (aK 136 (I (B4 ((b:Int)+1))) (I (B4 ((b:Int)+1)))) (fun T V=>∃ i j k,T=Sl i j k/\aC P R2 #[Sl d b e,U (C0 g)] V (fun W X=>∃ B C D,W=Sl B C D/\wpH P (aN #[136,136] 3 #[Sl i j k,Sl B C D]) (fun Z a0=>∃ a3,Z=I a3/\wpH P (aK 136 (I (B4 ((B4 ((b:Int)-(a:Int)))+1))) (I (B4 ((B4 ((b:Int)-(a:Int)))+1)))) (fun a1 a2=>∃ E F G,a1=Sl E F G/\Y4 P b a K g y z A i j k E F G a2) a0) X)) S)))))
def Oq a b c d e f(hvc:Kw prog a b c d e f h K):aC prog G7 #[Sl a b c,Sl d e f] h K:=
 fnk func297 ⟨[(13,⟨[13],[],[I 0],⟨([13,14,15,16,17,18,19]++Lrg 72 79),[]⟩⟩),(23,⟨[17,115],[],[U 0,I 0],⟨([17,18,19]++Lrg 115 23),[]⟩⟩)],[(28,⟨[14],[],[U 0],⟨([14,17,18,19]++Lrg 108 39),[]⟩⟩)],[],[],[]⟩ [] [322] hvc
def A0p(P:aE)(f:OA)(g E:Nat)(m:OA)(a F:Nat)(h:aJ)(K:VP):Prop:=
 ∃ r,Ax m r (B4 ((a:Int)-1)) a <| ∃ c,h.cell? (r.add ((B4 ((a:Int)-1)).toNat*1))=some (U c)/\∃ s,Ax m s (B4 ((a:Int)-2)) a <| ∃ t,h.cell? (s.add ((B4 ((a:Int)-2)).toNat*1))=some (U t)/\∃ u,Ax f u (a:Int) g <| ∃ v,h.cell? (u.add (((a:Int)).toNat*1))=some (U v)/\Bd (v>=c) (K (U 18446744073709551615) h)
 (∃ w,Ax f w (a:Int) g <| ∃ x,h.cell? (w.add (((a:Int)).toNat*1))=some (U x)/\∃ y,Ax f y (B4 ((a:Int)-1)) g <| ∃ z,h.cell? (y.add ((B4 ((a:Int)-1)).toNat*1))=some (U z)/\aC P Ee #[U x,U z,U c] h (fun C q=>∃ (n:Int) (o:Int),C= .tuple #[U n,U o]/\h.le q/\∃ (i:LP) (j:LN),i [U n,U o] q/\
 ∀ b d k,i [U b,U d] k->aC P Ed #[U b,U t] k (fun D e=>∃ (l:Int) (p:Int),D= .tuple #[U l,U p]/\Bd (l<d) (K (U b) e)
 (Br (l==d) (∃ A,Ax f A (B4 ((a:Int)-2)) g <| ∃ B,e.cell? (A.add ((B4 ((a:Int)-2)).toNat*1))=some (U B)/\Bd (p<=B) (K (U b) e)
 (Bd ((C0 (d+c))<c) (K (U (C0 (b-1))) e)
 (i [U (C0 (b-1)),U (C0 (d+c))] e/\j [U (C0 (b-1)),U (C0 (d+c))] e<j [U b,U d] k)))
 (Bd ((C0 (d+c))<c) (K (U (C0 (b-1))) e)
 (i [U (C0 (b-1)),U (C0 (d+c))] e/\j [U (C0 (b-1)),U (C0 (d+c))] e<j [U b,U d] k))))))
def A0o a b c d e f(hvc:A0p prog a b c d e f h K):aC prog Iq #[Sl a b c,Sl d e f] h K:=
 fnk func321 { loops:=[(6,⟨[8,9],[],[U 0,U 0],⟨([4,8,9,10,11]++Lrg 44 33),[]⟩⟩)] } [] [] hvc
def A0j(P:aE)(g:OA)(a c:Nat)(b:Int)(h:aJ)(K:VP):Prop:=
 (0<=(if (a:Int)<b then (a:Int) else b)/\(if (a:Int)<b then (a:Int) else b)<=(c:Int))/\aC P F8 #[.slice (J6 g c 0 1) ((((if (a:Int)<b then (a:Int) else b)).toNat)-0) (c-0)] h (fun i j=>∃ d e f,i=Sl d e f/\K (Sl d e f) j)
def A0i a b c d(hvc:A0j prog a b c d h K):aC prog At #[Sl a b c,I d] h K:=
 fnk func315 an0 [] [] hvc
def Uv(P:aE)(d:OA)(a c:Nat)(b:Int)(h:aJ)(K:VP):Prop:=
 (0<=(if (a:Int)<b then (a:Int) else b)/\(if (a:Int)<b then (a:Int) else b)<=(a:Int))/\K (.slice (J6 d c (((if (a:Int)<b then (a:Int) else b)).toNat) 1) (a-(((if (a:Int)<b then (a:Int) else b)).toNat)) (c-(((if (a:Int)<b then (a:Int) else b)).toNat))) h
def Xu a b c d(hvc:Uv prog a b c d h K):aC prog R5 #[Sl a b c,I d] h K:=
 fnk func316 an0 [] [] hvc
def B8v(P:aE)(j:OA)(e k:Nat)(l:OA)(m n:Nat)(a:Int)(h:aJ)(K:VP):Prop:=
 wpH P (aK 136 (I (B4 (a+(e:Int)))) (I (B4 (a+(e:Int))))) (fun o p=>∃ d b c,o=Sl d b c/\wpH P (aN #[136,136] 3 #[Sl d b c,Sl l m n]) (fun q r=>∃ w,q=I w/\(0<=a/\a<=(b:Int))/\wpH P (aN #[136,136] 3 #[.slice (J6 d c (a.toNat) 1) (b-(a.toNat)) (c-(a.toNat)),Sl j e k]) (fun s t=>∃ x,s=I x/\aC P F8 #[Sl d b c] t (fun u v=>∃ f g i,u=Sl f g i/\K (Sl f g i) v)) r) p) h
def B2k a b c d e f g(hvc:B8v prog a b c d e f g h K):aC prog Ip #[Sl a b c,Sl d e f,I g] h K:=
 fnk func318 an0 [] [] hvc
def Y5(P:aE)(c:Nat)(K:VP)(a:Int)(M:Int)(N:OA)(O Q:Nat)(R:OA)(o S:Nat)(p:OA)(i j:Nat)(T:aJ):Prop:=
 ∃ (k:LP) (q:LN),k [N0,I (B4 ((B4 (aD (B4 ((o:Int)-1)) (B4 ((B4 (aD (B4 ((B4 ((c:Int)+a))-1)) a))*a))))*(B4 ((B4 (aD (B4 ((B4 ((c:Int)+a))-1)) a))*a))))] T/\
 ∀ d e f b g,k [.slice d e f,I b] g->Bd (b>=0) (aC P R5 #[Sl R o S,I b] g (fun V W=>∃ v w x,V=Sl v w x/\aC P At #[Sl v w x,I (B4 ((B4 (aD (B4 ((B4 ((c:Int)+a))-1)) a))*a))] W (fun X Z=>∃ y z A,X=Sl y z A/\aC P Ip #[Sl d e f,Sl y z A,I (B4 ((B4 (aD (B4 ((B4 ((c:Int)+a))-1)) a))*a))] Z (fun a0 a1=>∃ B C D,a0=Sl B C D/\aC P S9 #[Sl B C D,Sl N O Q] a1 (fun a2 a3=>∃ (r:OA) (s t:Nat) (l:OA) (m n:Nat),a2= .tuple #[Sl r s t,Sl l m n]/\(0<=b/\b<=(i:Int))/\wpH P (aN #[136,136] 3 #[.slice (J6 p j (b.toNat) 1) (i-(b.toNat)) (j-(b.toNat)),Sl r s t]) (fun a4 u=>∃ a9,a4=I a9/\k [.slice l m n,I (B4 (b-(B4 ((B4 (aD (B4 ((B4 ((c:Int)+a))-1)) a))*a))))] u/\q [.slice l m n,I (B4 (b-(B4 ((B4 (aD (B4 ((B4 ((c:Int)+a))-1)) a))*a))))] u<q [.slice d e f,I b] g) a3)))))
 (aC P F8 #[Sl p i j] g (fun a5 a6=>∃ E F G,a5=Sl E F G/\aC P Aa #[Sl d e f,U (C0 (B4 ((B4 ((64:Int)*(B4 ((B4 ((B4 (aD (B4 ((B4 ((c:Int)+a))-1)) a))*a))-(c:Int)))))+M)))] a6 (fun a7 a8=>∃ H J L,a7=Sl H J L/\K (.tuple #[Sl E F G,Sl H J L]) a8)))
def Gc(P:aE)(t:OA)(u v:Nat)(g:OA)(b w:Nat)(h:aJ)(K:VP):Prop:=
 ∃ (f:LP) (i:LN),f [I 1] h/\
 ∀ a c,f [I a] c->Bd (a=0) False
 (Bd ((B4 (aD (B4 ((B4 ((b:Int)+a))-1)) a))>=80) (f [I (B4 (a*(2:Int)))] c/\i [I (B4 (a*(2:Int)))] c<i [I a] c)
 (Bd (a=0) False
 (∃ j,Ax g j (B4 ((b:Int)-1)) b <| ∃ k,c.cell? (j.add ((B4 ((b:Int)-1)).toNat*1))=some (U k)/\aC P H3 #[U k] c (fun x y=>∃ e,x=I e/\aC P R2 #[Sl g b w,U (C0 (B4 ((B4 ((64:Int)*(B4 ((B4 ((B4 (aD (B4 ((B4 ((b:Int)+a))-1)) a))*a))-(b:Int)))))+e)))] y (fun z A=>∃ l m n,z=Sl l m n/\aC P R2 #[Sl t u v,U (C0 (B4 ((B4 ((64:Int)*(B4 ((B4 ((B4 (aD (B4 ((B4 ((b:Int)+a))-1)) a))*a))-(b:Int)))))+e)))] A (fun B C=>∃ o d p,B=Sl o d p/\wpH P (aK 136 (I (B4 ((d:Int)+(B4 ((B4 (aD (B4 ((B4 ((b:Int)+a))-1)) a))*a))))) (I (B4 ((d:Int)+(B4 ((B4 (aD (B4 ((B4 ((b:Int)+a))-1)) a))*a)))))) (fun D E=>∃ q r s,D=Sl q r s/\Bd (B4 ((B4 (aD (B4 ((B4 ((b:Int)+a))-1)) a))*a)=0) False
 (Y5 P b K a e l m n o d p q r s E)) C))))))
def Ky(P:aE)(a:OA)(b c:Nat)(d:OA)(e f:Nat)(h:aJ)(K:VP):Prop:=
 Gc P a b c d e f h K
def Ou a b c d e f(hvc:Ky prog a b c d e f h K):aC prog Au #[Sl a b c,Sl d e f] h K:=
 fnk func296 { loops:=[(3,⟨[7],[],[I 0],⟨([7]++Lrg 20 9),[]⟩⟩),(11,⟨[13,14],[],[N0,I 0],⟨([13,14,15,16,17]++Lrg 67 25),[]⟩⟩)] } [] [] hvc
def Kx(P:aE)(b:OA)(c d:Nat)(e:OA)(a f:Nat)(h:aJ)(K:VP):Prop:=
 Bd ((a:Int)<80) (aC P G7 #[Sl b c d,Sl e a f] h (fun V W=>∃ (g:OA) (i j:Nat) (k:OA) (l m:Nat),V= .tuple #[Sl g i j,Sl k l m]/\K (.tuple #[Sl g i j,Sl k l m]) W))
 (Br ((aL (a:Int) (2:Int)) != 0) (aC P G7 #[Sl b c d,Sl e a f] h (fun X Z=>∃ (n:OA) (o p:Nat) (q:OA) (r s:Nat),X= .tuple #[Sl n o p,Sl q r s]/\K (.tuple #[Sl n o p,Sl q r s]) Z))
 (aC P R5 #[Sl b c d,I (B4 (aD (a:Int) (2:Int)))] h (fun a0 a1=>∃ F G H,a0=Sl F G H/\aC P S8 #[Sl F G H,Sl e a f] a1 (fun a2 a3=>∃ (t:OA) (u v:Nat) (w:OA) (x y:Nat),a2= .tuple #[Sl t u v,Sl w x y]/\aC P At #[Sl b c d,I (B4 (aD (a:Int) (2:Int)))] a3 (fun a4 a5=>∃ J L M,a4=Sl J L M/\aC P Ip #[Sl w x y,Sl J L M,I (B4 (aD (a:Int) (2:Int)))] a5 (fun a6 a7=>∃ N O Q,a6=Sl N O Q/\aC P S8 #[Sl N O Q,Sl e a f] a7 (fun a8 a9=>∃ (z:OA) (A B:Nat) (C:OA) (D E:Nat),a8= .tuple #[Sl z A B,Sl C D E]/\aC P Ip #[Sl t u v,Sl z A B,I (B4 (aD (a:Int) (2:Int)))] a9 (fun b0 b1=>∃ R S T,b0=Sl R S T/\K (.tuple #[Sl R S T,Sl C D E]) b1))))))))
def Ot a b c d e f(hvc:Kx prog a b c d e f h K):aC prog S9 #[Sl a b c,Sl d e f] h K:=
 fnk func317 an0 [] [] hvc
def Y2(P:aE)(C:OA)(D E:Nat)(K:VP)(F:OA)(G H:Nat)(p:OA)(q r:Nat)(J:OA)(L M:Nat)(N:aJ):Prop:=
 ∃ (g:LP) (s:LN),g [.slice F G H,.slice J L M] N/\
 ∀ d e f a b c i,g [.slice d e f,.slice a b c] i->aC P D8 #[Sl a b c,Sl p q r] i (fun O t=>∃ v,O=I v/\Bd (v<0) (aC P K7 #[Sl a b c,Sl C D E] t (fun Q R=>∃ j k l,Q=Sl j k l/\wpH P (aH 136 1 #[(0,U 1)]) (fun S T=>∃ w x y,S=Sl w x y/\aC P F0 #[Sl d e f,Sl w x y] T (fun V u=>∃ m n o,V=Sl m n o/\g [.slice m n o,.slice j k l] u/\s [.slice m n o,.slice j k l] u<s [.slice d e f,.slice a b c] i)) R))
 (aC P F0 #[Sl a b c,Sl p q r] t (fun W X=>∃ z A B,W=Sl z A B/\K (.tuple #[Sl d e f,Sl z A B]) X)))
def Kv(P:aE)(d:OA)(e f:Nat)(c:OA)(a b:Nat)(h:aJ)(K:VP):Prop:=
 (0<=B4 (aD (a:Int) (2:Int))/\B4 (aD (a:Int) (2:Int))<=(b:Int))/\(0<=B4 (aD (a:Int) (2:Int))/\B4 (aD (a:Int) (2:Int))<=(a:Int))/\aC P F8 #[.slice (J6 c b 0 1) (((B4 (aD (a:Int) (2:Int))).toNat)-0) (b-0)] h (fun b0 u=>∃ w x y,b0=Sl w x y/\h.le u/\aC P R5 #[Sl d e f,I (B4 (aD (a:Int) (2:Int)))] u (fun b1 b2=>∃ i j k,b1=Sl i j k/\∃ (g:LP),(aC P R5 #[Sl d e f,I (B4 ((2:Int)*(B4 (aD (a:Int) (2:Int)))))] b2 (fun b3 b4=>∃ z A B,b3=Sl z A B/\aC P D8 #[Sl z A B,.slice (J6 c b ((B4 (aD (a:Int) (2:Int))).toNat) 1) (a-((B4 (aD (a:Int) (2:Int))).toNat)) (b-((B4 (aD (a:Int) (2:Int))).toNat))] b4 (fun b5 v=>∃ C,b5=I C/\Bd (C<0) (aC P S9 #[Sl i j k,.slice (J6 c b ((B4 (aD (a:Int) (2:Int))).toNat) 1) (a-((B4 (aD (a:Int) (2:Int))).toNat)) (b-((B4 (aD (a:Int) (2:Int))).toNat))] v (fun b6 b7=>∃ (o:OA) (p q:Nat) (r:OA) (s t:Nat),b6= .tuple #[Sl o p q,Sl r s t]/\g [.slice o p q,.slice r s t] b7))
 (wpH P (aH 136 1 #[(0,U 18446744073709551615)]) (fun b8 b9=>∃ D E F,b8=Sl D E F/\aC P Qt #[Sl D E F,I (B4 (aD (a:Int) (2:Int)))] b9 (fun c0 c1=>∃ G H J,c0=Sl G H J/\aC P Ip #[.slice (J6 c b ((B4 (aD (a:Int) (2:Int))).toNat) 1) (a-((B4 (aD (a:Int) (2:Int))).toNat)) (b-((B4 (aD (a:Int) (2:Int))).toNat)),Sl none 0 0,I (B4 (aD (a:Int) (2:Int)))] c1 (fun c2 c3=>∃ L M N,c2=Sl L M N/\aC P F0 #[Sl i j k,Sl L M N] c3 (fun c4 c5=>∃ O Q R,c4=Sl O Q R/\aC P K7 #[Sl O Q R,.slice (J6 c b ((B4 (aD (a:Int) (2:Int))).toNat) 1) (a-((B4 (aD (a:Int) (2:Int))).toNat)) (b-((B4 (aD (a:Int) (2:Int))).toNat))] c5 (fun c6 c7=>∃ S T V,c6=Sl S T V/\g [.slice G H J,.slice S T V] c7))))) v))))/\
 ∀ l m n W X Z a0,g [.slice l m n,.slice W X Z] a0->aC P C5 #[Sl l m n,Sl w x y] a0 (fun c8 c9=>∃ a1 a2 a3,c8=Sl a1 a2 a3/\aC P At #[Sl d e f,I (B4 (aD (a:Int) (2:Int)))] c9 (fun d0 d1=>∃ a4 a5 a6,d0=Sl a4 a5 a6/\aC P Ip #[Sl W X Z,Sl a4 a5 a6,I (B4 (aD (a:Int) (2:Int)))] d1 (fun d2 d3=>∃ a7 a8 a9,d2=Sl a7 a8 a9/\Y2 P c a b K l m n a1 a2 a3 a7 a8 a9 d3)))))
def Oo a b c d e f(hvc:Kv prog a b c d e f h K):aC prog S8 #[Sl a b c,Sl d e f] h K:=
 fnk func327 ⟨[(11,⟨[10,11],[],[N0,N0],⟨([10,11]++Lrg 58 10),[]⟩⟩)],[(9,⟨[10,11],[],[N0,N0],⟨([10,11]++Lrg 26 23),[]⟩⟩)],[(2,([0,1,2,4,5,6,3,7,8],[]))],[],[]⟩ [] [] hvc
def A45(P:aE)(d:Int)(e:Int)(h:aJ)(K:VP):Prop:=
 Br (d==0) (K (U (bor .u64 d e)) h)
 (Br (e==0) (K (U (bor .u64 d e)) h)
 (aC P I7 #[U (bor .u64 d e)] h (fun m n=>∃ k,m=I k/\aC P I7 #[U d] n (fun o p=>∃ l,o=I l/\Bd (l<0) False
 (∃ (g:LP) (i:LN),g [U (aF d (2^(min l.toNat 64))),U e] p/\
 ∀ b a f,g [U b,U a] f->Br (a != 0) (aC P I7 #[U a] f (fun q j=>∃ c,q=I c/\Bd (c<0) False
 (Bd (b>(aF a (2^(min c.toNat 64)))) (g [U (aF a (2^(min c.toNat 64))),U (C0 (b-(aF a (2^(min c.toNat 64)))))] j/\i [U (aF a (2^(min c.toNat 64))),U (C0 (b-(aF a (2^(min c.toNat 64)))))] j<i [U b,U a] f)
 (g [U b,U (C0 ((aF a (2^(min c.toNat 64)))-b))] j/\i [U b,U (C0 ((aF a (2^(min c.toNat 64)))-b))] j<i [U b,U a] f))))
 (Bd (k<0) False
 (K (U (C0 (b*2^(min k.toNat 64)))) f)))))))
def A2r a b(hvc:A45 prog a b h K):aC prog Mc #[U a,U b] h K:=
 fnk func274 { loops:=[(5,⟨[0,1],[],[U 0,U 0],⟨([0,1]++Lrg 23 14),[]⟩⟩)] } [] [] hvc
def Ob(P:aE)(C:LP)(s:LN)(f:OA)(d g:Nat)(t:OA)(u v:Nat)(D:Int)(E:Int)(F:Int)(G:Int)(H:Bool)(J:aJ)(L:aJ):Prop:=
 ∃ (i:LP) (w:LN),i [.slice t u v] J/\
 ∀ b a c e,i [.slice b a c] e->Bd ((a:Int)<(d:Int)) (wpH P (aH 136 1 #[(0,U 0)]) (fun M N=>∃ z A B,M=Sl z A B/\wpH P (aM #[136,136] 136 #[Sl b a c,Sl z A B]) (fun O x=>∃ j k l,O=Sl j k l/\i [.slice j k l] x/\w [.slice j k l] x<w [.slice b a c] e) N) e)
 (aC P Wy #[.agg #[U D,U E,U F,U G,.bool H],.slice f d g,.slice b a c] e (fun Q R=>Q=T0/\aC P F8 #[Sl f d g] R (fun S T=>∃ m n o,S=Sl m n o/\aC P F8 #[Sl b a c] T (fun V y=>∃ p q r,V=Sl p q r/\C [.slice m n o,.slice p q r] y/\s [.slice m n o,.slice p q r] y<s [.slice f d g,.slice t u v] L))))
def Iz(P:aE)(K:VP)(L:OA)(M N:Nat)(O:OA)(Q R:Nat)(S:aJ):Prop:=
 ∃ (i:LP) (j:LN),i [.slice L M N,.slice O Q R] S/\
 ∀ d e f b a g c,i [.slice d e f,.slice b a g] c->Bd ((a:Int)>1) (aC P Io #[Sl d e f,Sl b a g] c (fun X x=>∃ (q:Int) (r:Int) (k:Int) (s:Int) (t:Bool),X= .agg #[U q,U r,U k,U s,.bool t]/\Br (k==0) (aC P L5 #[Sl d e f,Sl b a g] x (fun Z a0=>∃ (T:OA) (V W:Nat) (u:OA) (v w:Nat),Z= .tuple #[Sl T V W,Sl u v w]/\aC P Dx #[Sl u v w] a0 (fun a1 y=>∃ n o p,a1=Sl n o p/\i [.slice b a g,.slice n o p] y/\j [.slice b a g,.slice n o p] y<j [.slice d e f,.slice b a g] c)))
 (Ob P i j d e f b a g q r k s t x c)))
 (Br ((a:Int)==0) (K (Sl d e f) c)
 (∃ A,Ax b A (0:Int) a <| ∃ B,c.cell? (A.add (((0:Int)).toNat*1))=some (U B)/\∃ C,Ax b C (0:Int) a <| ∃ D,c.cell? (C.add (((0:Int)).toNat*1))=some (U D)/\aC P X8 #[Sl d e f,U D] c (fun a2 l=>∃ E,a2=U E/\c.le l/\aC P Mc #[U B,U E] l (fun a3 m=>∃ F,a3=U F/\l.le m/\aC P U7 #[U F] m (fun a4 z=>∃ G H J,a4=Sl G H J/\m.le z/\K (Sl G H J) z)))))
def A0l(P:aE)(a:OA)(b c:Nat)(d:OA)(e f:Nat)(h:aJ)(K:VP):Prop:=
 ∃ (g:LP),(aC P D8 #[Sl a b c,Sl d e f] h (fun x n=>∃ o,x=I o/\Bd (o<0) (g [.slice d e f,.slice a b c] n)
 (g [.slice a b c,.slice d e f] n)))/\
 ∀ j k l p i q m,g [.slice j k l,.slice p i q] m->Br ((i:Int)==0) (K (Sl j k l) m)
 (aC P Dx #[Sl j k l] m (fun y z=>∃ r s t,y=Sl r s t/\aC P Dx #[Sl p i q] z (fun A B=>∃ u v w,A=Sl u v w/\Iz P K r s t u v w B)))
def A0k a b c d e f(hvc:A0l prog a b c d e f h K):aC prog Dv #[Sl a b c,Sl d e f] h K:=
 fnk func231 ⟨[(6,⟨[5,6],[],[N0,N0],⟨([5,6,7,8,9]++Lrg 24 34),[7]⟩⟩),(11,⟨[6],[],[N0],⟨([6]++Lrg 42 8),[]⟩⟩)],[(3,⟨[0,1],[],[N0,N0],⟨[0,1,10,11,12,13,14,15],[]⟩⟩)],[],[],[]⟩ [7] [273] hvc
def Gb(P:aE)(K:VP)(m:Int)(o:Int)(p:Int)(q:Int)(r:aJ):Prop:=
 ∃ (l:LP) (n:LN),l [U (bor .u64 (C0 (o*2^(min (C0 m).toNat 64))) (aF p (2^(min (C0 ((64:Int)-(C0 m))).toNat 64)))),U q,U 0,U 1,U 0,U 1,U 0,U 0,.bool false] r/\
 ∀ b a f d j e k c g i,l [U b,U a,U f,U d,U j,U e,U k,U c,.bool g] i->Bd (a>=d) (Bd ((C0 (b-a))>=(C0 (c+d))) (Bd (a=0) False
 (Bd (a=0) False
 (l [U a,U (aL b a),U (C0 (e+(C0 ((C0 (aD b a))*f)))),U (C0 (c+(C0 ((C0 (aD b a))*d)))),U e,U f,U c,U d,.bool (!g)] i/\n [U a,U (aL b a),U (C0 (e+(C0 ((C0 (aD b a))*f)))),U (C0 (c+(C0 ((C0 (aD b a))*d)))),U e,U f,U c,U d,.bool (!g)] i<n [U b,U a,U f,U d,U j,U e,U k,U c,.bool g] i)))
 (K (.agg #[U j,U e,U k,U c,.bool g]) i))
 (K (.agg #[U j,U e,U k,U c,.bool g]) i)
def A0h(P:aE)(f:OA)(a x:Nat)(g:OA)(d y:Nat)(h:aJ)(K:VP):Prop:=
 ∃ i,Ax f i (B4 ((a:Int)-1)) a <| ∃ j,h.cell? (i.add ((B4 ((a:Int)-1)).toNat*1))=some (U j)/\aC P H3 #[U j] h (fun w c=>∃ b,w=I b/\∃ k,Ax f k (B4 ((a:Int)-1)) a <| ∃ l,c.cell? (k.add ((B4 ((a:Int)-1)).toNat*1))=some (U l)/\Bd (C0 b<0) False
 (∃ m,Ax f m (B4 ((a:Int)-2)) a <| ∃ n,c.cell? (m.add ((B4 ((a:Int)-2)).toNat*1))=some (U n)/\Bd (C0 ((64:Int)-(C0 b))<0) False
 (∃ (e:LP),(Br ((d:Int)==(a:Int)) (∃ o,Ax g o (B4 ((a:Int)-1)) d <| ∃ p,c.cell? (o.add ((B4 ((a:Int)-1)).toNat*1))=some (U p)/\Bd (C0 b<0) False
 (∃ q,Ax g q (B4 ((a:Int)-2)) d <| ∃ r,c.cell? (q.add ((B4 ((a:Int)-2)).toNat*1))=some (U r)/\Bd (C0 ((64:Int)-(C0 b))<0) False
 (e [U (bor .u64 (C0 (p*2^(min (C0 b).toNat 64))) (aF r (2^(min (C0 ((64:Int)-(C0 b))).toNat 64))))] c)))
 (Br ((d:Int)==(B4 ((a:Int)-1))) (∃ s,Ax g s (B4 ((a:Int)-2)) d <| ∃ t,c.cell? (s.add ((B4 ((a:Int)-2)).toNat*1))=some (U t)/\Bd (C0 ((64:Int)-(C0 b))<0) False
 (e [U (aF t (2^(min (C0 ((64:Int)-(C0 b))).toNat 64)))] c))
 (e [U 0] c)))/\
 ∀ u v,e [U u] v->Gb P K b l n u v)))
def A0g a b c d e f(hvc:A0h prog a b c d e f h K):aC prog Io #[Sl a b c,Sl d e f] h K:=
 fnk func271 ⟨[(13,⟨[7,8,10,11],[(9,5)],[U 0,U 0,U 0,U 0,U 0,U 0,U 0,U 0,.bool false],⟨([7,8,10,11,12]++Lrg 72 46),[9]⟩⟩)],[(10,⟨[8],[],[U 0],⟨([8]++Lrg 38 33),[]⟩⟩)],[],[],[]⟩ [4,9] [] hvc
def Oa(P:aE)(e:Int)(f:Int)(g:Int)(h:aJ)(K:VP):Prop:=
 aC P Ed #[U e,U f] h (fun i j=>∃ (a:Int) (b:Int),i= .tuple #[U a,U b]/\aP P Q6 #[U b,U g,U 0] j (fun k l=>∃ (c:Int) (d:Int),k= .tuple #[U c,U d]/\K (.tuple #[U c,U (C0 (a+d))]) l))
def Rx a b c(hvc:Oa prog a b c h K):aC prog J1 #[U a,U b,U c] h K:=
 fnk func298 an0 [] [] hvc
def A9b(P:aE)(d:Bool)(b:OA)(a c:Nat)(h:aJ)(K:VP):Prop:=
 Br d (K (.agg #[.bool (decide ((a:Int)>0)),Sl b a c]) h)
 (K (Zv false b a c) h)
def A5k a b c d(hvc:A9b prog a b c d h K):aC prog J4 #[.bool a,Sl b c d] h K:=
 fnk func239 an0 [4] [] hvc
def C28(P:aE)(a:Int)(h:aJ)(K:VP):Prop:=
 Bd (a<0) (aC P U7 #[U (C0 (0-(C0 a)))] h (fun i j=>∃ b c d,i=Sl b c d/\K (Zv true b c d) j))
 (aC P U7 #[U (C0 a)] h (fun k l=>∃ e f g,k=Sl e f g/\K (Zv false e f g) l))
def B62 a(hvc:C28 prog a h K):aC prog A03 #[I a] h K:=
 fnk func164 an0 [2] [] hvc
def B3r(P:aE)(d:ByteArray)(h:aJ)(K:VP):Prop:=
 aC P Du #[.string d] h (fun e f=>∃ a b c,e=Sl a b c/\K (Zv false a b c) f)
def A9d a(hvc:B3r prog a h K):aC prog He #[.string a] h K:=
 fnk func150 an0 [2] [] hvc
def Ru(P:aE)(d:ByteArray)(h:aJ)(K:VP):Prop:=
 Bd (((aG d:Nat):Int)>570) (wpH P (aH 136 1 #[(0,U 10000000000000000000)]) (fun N O=>∃ p q r,N=Sl p q r/\wpH P (aH 316 1 #[(0,Sl p q r)]) (fun Q R=>∃ s t u,Q=Sl s t u/\wpH P (aM #[316,316] 316 #[Sl none 0 0,Sl s t u]) (fun S T=>∃ v w x,S=Sl v w x/\∃ (f:LP) (n:LN),f [.slice v w x] T/\
 ∀ b a e c,f [.slice b a e] c->Bd ((a:Int)<0) False
 (Bd ((B4 ((19:Int)*2^(min ((a:Int)).toNat 64)))<((aG d:Nat):Int)) (∃ y,Ax b y (B4 ((a:Int)-1)) a <| ∃ g i j,Hd c (y.add ((B4 ((a:Int)-1)).toNat*1)) g i j<|aC P C5 #[Sl g i j,Sl g i j] c (fun V W=>∃ z A B,V=Sl z A B/\wpH P (aH 316 1 #[(0,Sl z A B)]) (fun X Z=>∃ C D E,X=Sl C D E/\wpH P (aM #[316,316] 316 #[Sl b a e,Sl C D E]) (fun a0 o=>∃ k l m,a0=Sl k l m/\f [.slice k l m] o/\n [.slice k l m] o<n [.slice b a e] c) Z) W))
 (aC P I6 #[.string d,Sl b a e] c (fun a1 a2=>∃ F G H,a1=Sl F G H/\K (Sl F G H) a2)))) R) O) h)
 (aC P I6 #[.string d,Sl none 0 0] h (fun a3 a4=>∃ J L M,a3=Sl J L M/\K (Sl J L M) a4))
def Td a(hvc:Ru prog a h K):aC prog Du #[.string a] h K:=
 fnk func230 { loops:=[(4,⟨[3],[],[N0],⟨([3,4]++Lrg 12 18),[]⟩⟩)] } [] [] hvc
def Rv(P:aE)(b:ByteArray)(e:OA)(f d:Nat)(h:aJ)(K:VP):Prop:=
 ∃ (g:LP) (o:LN),g [I (B4 ((f:Int)-1))] h/\
 ∀ a c,g [I a] c->Bd (a>=0) (Bd (a<0) False
 (Bd ((B4 ((19:Int)*2^(min a.toNat 64)))>=((aG b:Nat):Int)) (g [I (B4 (a-1))] c/\o [I (B4 (a-1))] c<o [I a] c)
 (Bd (a<0) (aC P J0 #[.string b] c (fun b4 b5=>∃ r s t,b4=Sl r s t/\K (Sl r s t) b5))
 (Bd (((aG b:Nat):Int)<=570) (aC P J0 #[.string b] c (fun b6 b7=>∃ u v w,b6=Sl u v w/\K (Sl u v w) b7))
 (Bd (a<0) False
 ((0<=B4 (((aG b:Nat):Int)-(B4 ((19:Int)*2^(min a.toNat 64))))/\B4 (((aG b:Nat):Int)-(B4 ((19:Int)*2^(min a.toNat 64))))<=(((b).size:Nat):Int))/\(0<=a/\a<=(d:Int))/\∃ x,Ax e x a f <| ∃ y z A,Hd c (x.add (a.toNat*1)) y z A<|aC P I6 #[.string ((b).extract 0 ((B4 (((aG b:Nat):Int)-(B4 ((19:Int)*2^(min a.toNat 64))))).toNat)),.slice (J6 e d 0 1) ((a.toNat)-0) (d-0)] c (fun b8 i=>∃ B C D,b8=Sl B C D/\c.le i/\aC P C5 #[Sl B C D,Sl y z A] i (fun b9 j=>∃ E F G,b9=Sl E F G/\i.le j/\(0<=B4 (((aG b:Nat):Int)-(B4 ((19:Int)*2^(min a.toNat 64))))/\B4 (((aG b:Nat):Int)-(B4 ((19:Int)*2^(min a.toNat 64))))<=(((b).size:Nat):Int))/\(0<=a/\a<=(d:Int))/\aC P I6 #[.string ((b).extract ((B4 (((aG b:Nat):Int)-(B4 ((19:Int)*2^(min a.toNat 64))))).toNat) ((b).size)),.slice (J6 e d 0 1) ((a.toNat)-0) (d-0)] j (fun c0 k=>∃ H J L,c0=Sl H J L/\j.le k/\aC P K7 #[Sl E F G,Sl H J L] k (fun c1 p=>∃ M N O,c1=Sl M N O/\k.le p/\K (Sl M N O) p))))))))))
 (Bd (a<0) (aC P J0 #[.string b] c (fun c2 c3=>∃ Q R S,c2=Sl Q R S/\K (Sl Q R S) c3))
 (Bd (((aG b:Nat):Int)<=570) (aC P J0 #[.string b] c (fun c4 c5=>∃ T V W,c4=Sl T V W/\K (Sl T V W) c5))
 (Bd (a<0) False
 ((0<=B4 (((aG b:Nat):Int)-(B4 ((19:Int)*2^(min a.toNat 64))))/\B4 (((aG b:Nat):Int)-(B4 ((19:Int)*2^(min a.toNat 64))))<=(((b).size:Nat):Int))/\(0<=a/\a<=(d:Int))/\∃ X,Ax e X a f <| ∃ Z a0 a1,Hd c (X.add (a.toNat*1)) Z a0 a1<|aC P I6 #[.string ((b).extract 0 ((B4 (((aG b:Nat):Int)-(B4 ((19:Int)*2^(min a.toNat 64))))).toNat)),.slice (J6 e d 0 1) ((a.toNat)-0) (d-0)] c (fun c6 l=>∃ a2 a3 a4,c6=Sl a2 a3 a4/\c.le l/\aC P C5 #[Sl a2 a3 a4,Sl Z a0 a1] l (fun c7 m=>∃ a5 a6 a7,c7=Sl a5 a6 a7/\l.le m/\(0<=B4 (((aG b:Nat):Int)-(B4 ((19:Int)*2^(min a.toNat 64))))/\B4 (((aG b:Nat):Int)-(B4 ((19:Int)*2^(min a.toNat 64))))<=(((b).size:Nat):Int))/\(0<=a/\a<=(d:Int))/\aC P I6 #[.string ((b).extract ((B4 (((aG b:Nat):Int)-(B4 ((19:Int)*2^(min a.toNat 64))))).toNat) ((b).size)),.slice (J6 e d 0 1) ((a.toNat)-0) (d-0)] m (fun c8 n=>∃ a8 a9 b0,c8=Sl a8 a9 b0/\m.le n/\aC P K7 #[Sl a5 a6 a7,Sl a8 a9 b0] n (fun c9 q=>∃ b1 b2 b3,c9=Sl b1 b2 b3/\n.le q/\K (Sl b1 b2 b3) q))))))))
def Te a b c d(hvc:Rv prog a b c d h K):aC prog I6 #[.string a,Sl b c d] h K:=
 fnk func269 ⟨[(2,⟨[5],[],[I 0],⟨([5]++Lrg 11 11),[]⟩⟩)],[],[(7,([0,1,2,3,4,5,7,8,9,10,6,11,12],[]))],[],[]⟩ [] [] hvc
def T5(P:aE)(o:LP)(i:LN)(a:ByteArray)(d:OA)(c f:Nat)(A:Int)(B:Int)(p:aJ)(C:aJ):Prop:=
 ∃ (j:LP) (q:LN),j [U A,I 0] C/\
 ∀ g b e,j [U g,I b] e->Bd (b<(c:Int)) (∃ u,Ax d u b c <| ∃ v,e.cell? (u.add (b.toNat*1))=some (U v)/\aC P J1 #[U v,U B,U g] e (fun D E=>∃ (r:Int) (k:Int),D= .tuple #[U r,U k]/\∃ w,Ax d w b c<|wpH P (aI 270 (Pt (w.add (b.toNat*1))) (U r)) (fun _ s=>j [U k,I (B4 (b+1))] s/\q [U k,I (B4 (b+1))] s<q [U g,I b] e) E))
 (Br (g != 0) (wpH P (aH 136 1 #[(0,U g)]) (fun F G=>∃ x y z,F=Sl x y z/\wpH P (aM #[136,136] 136 #[Sl d c f,Sl x y z]) (fun H t=>∃ l m n,H=Sl l m n/\o [.string ((a).extract ((B4 ((aL (B4 (((aG a:Nat):Int)-1)) (19:Int))+1)).toNat) ((a).size)),.slice l m n] t/\i [.string ((a).extract ((B4 ((aL (B4 (((aG a:Nat):Int)-1)) (19:Int))+1)).toNat) ((a).size)),.slice l m n] t<i [.string a,.slice d c f] p) G) e)
 (o [.string ((a).extract ((B4 ((aL (B4 (((aG a:Nat):Int)-1)) (19:Int))+1)).toNat) ((a).size)),.slice d c f] e/\i [.string ((a).extract ((B4 ((aL (B4 (((aG a:Nat):Int)-1)) (19:Int))+1)).toNat) ((a).size)),.slice d c f] e<i [.string a,.slice d c f] p))
def Cd(P:aE)(l:LP)(m:LN)(e:ByteArray)(n:OA)(o p:Nat)(q:OA)(i:Nat)(r:aJ)(s:aJ):Prop:=
 ∃ (f:LP) (j:LN),f [U 0,U 1,I 0] r/\
 ∀ c d a b,f [U c,U d,I a] b->Bd (a<(i:Int)) (∃ k,Ax q k a i <| ∃ g,b.cell? (k.add (a.toNat*1))=some (Y g)/\f [U (C0 ((C0 ((10:Int)*c))+(C0 (wu8 (g-48))))),U (C0 (d*(10:Int))),I (B4 (a+1))] b/\j [U (C0 ((C0 ((10:Int)*c))+(C0 (wu8 (g-48))))),U (C0 (d*(10:Int))),I (B4 (a+1))] b<j [U c,U d,I a] b)
 ((0<=B4 ((aL (B4 (((aG e:Nat):Int)-1)) (19:Int))+1)/\B4 ((aL (B4 (((aG e:Nat):Int)-1)) (19:Int))+1)<=(((e).size:Nat):Int))/\T5 P l m e n o p c d s b)
def Ia(P:aE)(j:ByteArray)(h:aJ)(K:VP):Prop:=
 ∃ (c:LP) (k:LN),c [.string j,N0] h/\
 ∀ a d e f b,c [.string a,.slice d e f] b->Bd (((aG a:Nat):Int)>0) ((0<=B4 ((aL (B4 (((aG a:Nat):Int)-1)) (19:Int))+1)/\B4 ((aL (B4 (((aG a:Nat):Int)-1)) (19:Int))+1)<=(((a).size:Nat):Int))/\wpH P (convert 9 248 (.string ((a).extract 0 ((B4 ((aL (B4 (((aG a:Nat):Int)-1)) (19:Int))+1)).toNat)))) (fun l m=>∃ g i n,l=Sl g i n/\Cd P c k a d e f g i m b) b)
 (K (Sl d e f) b)
def Nz(P:aE)(a:ByteArray)(h:aJ)(K:VP):Prop:=
 Ia P a h K
def Rw a(hvc:Nz prog a h K):aC prog J0 #[.string a] h K:=
 fnk func294 { loops:=[(2,⟨[0,3],[],[.string ⟨#[]⟩,N0],⟨([0,3,4,5,6]++Lrg 8 58),[]⟩⟩),(6,⟨[5,6,25],[],[U 0,U 0,I 0],⟨([5,6,8]++Lrg 25 13),[]⟩⟩),(14,⟨[9,44],[],[U 0,I 0],⟨([9,10,11]++Lrg 44 16),[]⟩⟩)] } [] [] hvc
def Od(P:aE)(f:OA)(g i:Nat)(j:OA)(b r:Nat)(h:aJ)(K:VP):Prop:=
 Br ((b:Int)==0) (wpH P (aH 248 1 #[(0,Y (48:Int))]) (fun a5 a6=>∃ v w x,a5=Sl v w x/\wpH P (aM #[248,248] 248 #[Sl f g i,Sl v w x]) (fun a7 a8=>∃ y z A,a7=Sl y z A/\K (Sl y z A) a8) a6) h)
 (Br ((b:Int)==1) (∃ B,Ax j B (0:Int) b <| ∃ C,h.cell? (B.add (((0:Int)).toNat*1))=some (U C)/\aC P 286 #[Sl f g i,U C,I 10] h (fun a9 b0=>∃ D E F,a9=Sl D E F/\K (Sl D E F) b0))
 (wpH P (aH 136 1 #[(0,U 10000000000000000000)]) (fun b1 b2=>∃ G H J,b1=Sl G H J/\wpH P (aH 316 1 #[(0,Sl G H J)]) (fun b3 b4=>∃ L M N,b3=Sl L M N/\∃ (k:LP) (s:LN),k [.slice L M N] b4/\
 ∀ c a e d,k [.slice c a e] d->Bd ((b:Int)>30) (∃ O,Ax c O (B4 ((a:Int)-1)) a <| ∃ c4 t c5,Hd d (O.add ((B4 ((a:Int)-1)).toNat*1)) c4 t c5<|Bd ((B4 ((2:Int)*(t:Int)))<=(b:Int)) (∃ Q,Ax c Q (B4 ((a:Int)-1)) a <| ∃ l m n,Hd d (Q.add ((B4 ((a:Int)-1)).toNat*1)) l m n<|aC P C5 #[Sl l m n,Sl l m n] d (fun b5 b6=>∃ R S T,b5=Sl R S T/\wpH P (aH 316 1 #[(0,Sl R S T)]) (fun b7 b8=>∃ V W X,b7=Sl V W X/\wpH P (aM #[316,316] 316 #[Sl c a e,Sl V W X]) (fun b9 u=>∃ o p q,b9=Sl o p q/\k [.slice o p q] u/\s [.slice o p q] u<s [.slice c a e] d) b8) b6))
 (aC P F2 #[Sl f g i,Sl j b r,I 0,Sl c a e] d (fun c0 c1=>∃ Z a0 a1,c0=Sl Z a0 a1/\K (Sl Z a0 a1) c1)))
 (aC P F2 #[Sl f g i,Sl j b r,I 0,Sl c a e] d (fun c2 c3=>∃ a2 a3 a4,c2=Sl a2 a3 a4/\K (Sl a2 a3 a4) c3))) b2) h))
def Sa a b c d e f(hvc:Od prog a b c d e f h K):aC prog V7 #[Sl a b c,Sl d e f] h K:=
 fnk func251 { loops:=[(6,⟨[5],[],[N0],⟨([5,6]++Lrg 23 28),[]⟩⟩)] } [] [] hvc
def Gf(P:aE)(e:OA)(f g:Nat)(n:OA)(i o:Nat)(c:Int)(d:OA)(a b:Nat)(h:aJ)(K:VP):Prop:=
 Bd ((B4 ((a:Int)-1))<0) (aC P T1 #[Sl e f g,Sl n i o,I c] h (fun V W=>∃ s t u,V=Sl s t u/\K (Sl s t u) W))
 (Bd ((i:Int)<=30) (aC P T1 #[Sl e f g,Sl n i o,I c] h (fun X Z=>∃ v w x,X=Sl v w x/\K (Sl v w x) Z))
 (∃ y,Ax d y (B4 ((a:Int)-1)) a <| ∃ z A B,Hd h (y.add ((B4 ((a:Int)-1)).toNat*1)) z A B<|aC P L5 #[Sl n i o,Sl z A B] h (fun a0 r=>∃ (p:OA) (j q:Nat) (k:OA) (l m:Nat),a0= .tuple #[Sl p j q,Sl k l m]/\Bd (B4 ((a:Int)-1)<0) False
 (Br ((j:Int)==0) (Br (c==0) ((0<=B4 ((a:Int)-1)/\B4 ((a:Int)-1)<=(b:Int))/\aC P F2 #[Sl e f g,Sl k l m,I 0,.slice (J6 d b 0 1) (((B4 ((a:Int)-1)).toNat)-0) (b-0)] r (fun a1 a2=>∃ C D E,a1=Sl C D E/\K (Sl C D E) a2))
 ((0<=B4 ((a:Int)-1)/\B4 ((a:Int)-1)<=(b:Int))/\aC P F2 #[Sl e f g,Sl p j q,I (if (0:Int)>(B4 (c-(B4 ((19:Int)*2^(min (B4 ((a:Int)-1)).toNat 64))))) then (0:Int) else B4 (c-(B4 ((19:Int)*2^(min (B4 ((a:Int)-1)).toNat 64))))),.slice (J6 d b 0 1) (((B4 ((a:Int)-1)).toNat)-0) (b-0)] r (fun a3 a4=>∃ F G H,a3=Sl F G H/\(0<=B4 ((a:Int)-1)/\B4 ((a:Int)-1)<=(b:Int))/\aC P F2 #[Sl F G H,Sl k l m,I (B4 ((19:Int)*2^(min (B4 ((a:Int)-1)).toNat 64))),.slice (J6 d b 0 1) (((B4 ((a:Int)-1)).toNat)-0) (b-0)] a4 (fun a5 a6=>∃ J L M,a5=Sl J L M/\K (Sl J L M) a6))))
 ((0<=B4 ((a:Int)-1)/\B4 ((a:Int)-1)<=(b:Int))/\aC P F2 #[Sl e f g,Sl p j q,I (if (0:Int)>(B4 (c-(B4 ((19:Int)*2^(min (B4 ((a:Int)-1)).toNat 64))))) then (0:Int) else B4 (c-(B4 ((19:Int)*2^(min (B4 ((a:Int)-1)).toNat 64))))),.slice (J6 d b 0 1) (((B4 ((a:Int)-1)).toNat)-0) (b-0)] r (fun a7 a8=>∃ N O Q,a7=Sl N O Q/\(0<=B4 ((a:Int)-1)/\B4 ((a:Int)-1)<=(b:Int))/\aC P F2 #[Sl N O Q,Sl k l m,I (B4 ((19:Int)*2^(min (B4 ((a:Int)-1)).toNat 64))),.slice (J6 d b 0 1) (((B4 ((a:Int)-1)).toNat)-0) (b-0)] a8 (fun a9 b0=>∃ R S T,a9=Sl R S T/\K (Sl R S T) b0)))))))
def Ge a b c d e f g i j k(hvc:Gf prog a b c d e f g i j k h K):aC prog F2 #[Sl a b c,Sl d e f,I g,Sl i j k] h K:=
 fnk func287 an0 [] [] hvc
def Cf(P:aE)(H:Nat)(J:LP)(p:LN)(q:OA)(r s:Nat)(j:Int)(L:Int)(M:aJ)(N:aJ):Prop:=
 ∃ (k:LP) (l:LN),k [.slice q r s,U L,I (B4 (j+(H:Int)))] M/\
 ∀ c b d f a e,k [.slice c b d,U f,I a] e->Br (f != 0) (Br (a==(b:Int)) (wpH P (aH 136 1 #[(0,U 0)]) (fun O Q=>∃ y z A,O=Sl y z A/\wpH P (aM #[136,136] 136 #[Sl c b d,Sl y z A]) (fun R v=>∃ g i o,R=Sl g i o/\∃ B,Ax g B a i <| ∃ C,v.cell? (B.add (a.toNat*1))=some (U C)/\aP P Q6 #[U C,U f,U 0] v (fun S T=>∃ (t:Int) (m:Int),S= .tuple #[U t,U m]/\∃ D,Ax g D a i<|wpH P (aI 270 (Pt (D.add (a.toNat*1))) (U t)) (fun _ w=>k [.slice g i o,U m,I (B4 (a+1))] w/\l [.slice g i o,U m,I (B4 (a+1))] w<l [.slice c b d,U f,I a] e) T)) Q) e)
 (∃ E,Ax c E a b <| ∃ F,e.cell? (E.add (a.toNat*1))=some (U F)/\aP P Q6 #[U F,U f,U 0] e (fun V W=>∃ (u:Int) (n:Int),V= .tuple #[U u,U n]/\∃ G,Ax c G a b<|wpH P (aI 270 (Pt (G.add (a.toNat*1))) (U u)) (fun _ x=>k [.slice c b d,U n,I (B4 (a+1))] x/\l [.slice c b d,U n,I (B4 (a+1))] x<l [.slice c b d,U f,I a] e) W)))
 (J [.slice c b d,I (B4 (j+1))] e/\p [.slice c b d,I (B4 (j+1))] e<p [.slice q r s,I j] N)
def Eh(P:aE)(K:VP)(m:OA)(b n:Nat)(o:OA)(i:Nat)(p:OA)(q r:Nat)(s:aJ):Prop:=
 ∃ (f:LP) (t:LN),f [.slice p q r,I 0] s/\
 ∀ e g c a d,f [.slice e g c,I a] d->Bd (a<(i:Int)) (∃ j,Ax o j a i <| ∃ k,d.cell? (j.add (a.toNat*1))=some (U k)/\(0<=B4 (a+(b:Int))/\B4 (a+(b:Int))<=(c:Int))/\(0<=a/\a<=(((B4 (a+(b:Int))).toNat:Nat):Int))/\aC P Ac #[.slice (J6 e c (a.toNat) 1) (((B4 (a+(b:Int))).toNat)-(a.toNat)) (c-(a.toNat)),Sl m b n,U k] d (fun u v=>∃ l,u=U l/\Cf P b f t e g c a l v d))
 (K (Sl e g c) d)
def Lb(P:aE)(q:OA)(r s:Nat)(K:VP)(t:OA)(j u:Nat)(v:OA)(k:Nat)(w:aJ):Prop:=
 ∃ (e:LP) (l:LN),e [.slice q r s] w/\
 ∀ b a c d,e [.slice b a c] d->Bd ((a:Int)<(B4 ((j:Int)+(k:Int)))) (wpH P (aH 136 1 #[(0,U 0)]) (fun x y=>∃ n o p,x=Sl n o p/\wpH P (aM #[136,136] 136 #[Sl b a c,Sl n o p]) (fun z m=>∃ f g i,z=Sl f g i/\e [.slice f g i] m/\l [.slice f g i] m<l [.slice b a c] d) y) d)
 (Eh P K t j u v k b a c d)
def Sc(P:aE)(C:OA)(D E:Nat)(m:OA)(b n:Nat)(o:OA)(c p:Nat)(h:aJ)(K:VP):Prop:=
 ∃ (d:LP),(Bd ((b:Int)<(c:Int)) (d [.slice o c p,.slice m b n] h)
 (d [.slice m b n,.slice o c p] h))/\
 ∀ f g i j a k l,d [.slice f g i,.slice j a k] l->∃ (e:LP),(Bd ((a:Int)>=40) (aC P C5 #[Sl f g i,Sl j a k] l (fun F G=>∃ q r s,F=Sl q r s/\wpH P (aH 136 1 #[(0,U 1)]) (fun H J=>∃ t u v,H=Sl t u v/\e [.slice q r s,.slice t u v] J) G))
 (e [.slice f g i,.slice j a k] l))/\
 ∀ w x y z A L B,e [.slice w x y,.slice z A L] B->Lb P C D E K w x y z A B
def Th a b c d e f g i j(hvc:Sc prog a b c d e f g i j h K):aC prog Ad #[Sl a b c,Sl d e f,Sl g i j] h K:=
 fnk func282 ⟨[(5,⟨[0],[],[N0],⟨([0]++Lrg 25 11),[]⟩⟩),(8,⟨[0,38],[],[N0,I 0],⟨([0,7,8,9,10]++Lrg 38 43),[]⟩⟩),(12,⟨[0,9,10],[],[N0,U 0,I 0],⟨([0,9,10]++Lrg 57 23),[]⟩⟩)],[(3,⟨[1,2],[],[N0,N0],⟨[1,2,11,12,13,14,15,16,17],[]⟩⟩),(5,⟨[1,2],[],[N0,N0],⟨[1,2,18,19,20,21,22,23,24],[]⟩⟩)],[],[],[]⟩ [] [283] hvc
def Gd(P:aE)(i:OA)(d j:Nat)(k:OA)(l m:Nat)(h:aJ)(K:VP):Prop:=
 wpH P (aK 136 (I (d:Int)) (I (d:Int))) (fun n o=>∃ a b c,n=Sl a b c/\wpH P (aN #[136,136] 3 #[Sl a b c,Sl i d j]) (fun p q=>∃ v,p=I v/\aC P S7 #[Sl a b c,Sl k l m] q (fun r s=>r=T0/\aC P F8 #[Sl a b c] s (fun t u=>∃ e f g,t=Sl e f g/\K (Sl e f g) u))) o) h
def Kz a b c d e f(hvc:Gd prog a b c d e f h K):aC prog O7 #[Sl a b c,Sl d e f] h K:=
 fnk func262 an0 [] [281] hvc
def B3p(P:aE)(b:Bool)(e:OA)(c f:Nat)(h:aJ)(K:VP):Prop:=
 Br ((c:Int)==0) (K (.tuple #[I 0,.bool true]) h)
 (∃ d,Ax e d (0:Int) c <| ∃ a,h.cell? (d.add (((0:Int)).toNat*1))=some (U a)/\Bd ((c:Int)>1) (K (.tuple #[I 0,.bool false]) h)
 (Br b (Bd (a<=9223372036854775808) (K (.tuple #[I (B4 (C0 (0-a))),.bool true]) h)
 (Br (!b) (Bd (a<=9223372036854775807) (K (.tuple #[I (B4 a),.bool true]) h)
 (K (.tuple #[I 0,.bool false]) h))
 (K (.tuple #[I 0,.bool false]) h)))
 (Br (!b) (Bd (a<=9223372036854775807) (K (.tuple #[I (B4 a),.bool true]) h)
 (K (.tuple #[I 0,.bool false]) h))
 (K (.tuple #[I 0,.bool false]) h))))
def A98 a b c d(hvc:B3p prog a b c d h K):aC prog Ww #[Zv a b c d] h K:=
 fnk func188 an0 [1] [] hvc
def A9a(P:aE)(t:Bool)(a:OA)(b c:Nat)(d:OA)(e f:Nat)(h:aJ)(K:VP):Prop:=
 Br t (wpH P (aH 248 1 #[(0,Y (45:Int))]) (fun u v=>∃ g i j,u=Sl g i j/\wpH P (aM #[248,248] 248 #[Sl d e f,Sl g i j]) (fun w x=>∃ k l m,w=Sl k l m/\aC P V7 #[Sl k l m,Sl a b c] x (fun y z=>∃ n o p,y=Sl n o p/\K (Sl n o p) z)) v) h)
 (aC P V7 #[Sl d e f,Sl a b c] h (fun A B=>∃ q r s,A=Sl q r s/\K (Sl q r s) B))
def A5j a b c d e f g(hvc:A9a prog a b c d e f g h K):aC prog Fq #[Zv a b c d,Sl e f g] h K:=
 fnk func191 an0 [2] [] hvc
def A94(P:aE)(e:Bool)(f:OA)(g i:Nat)(h:aJ)(K:VP):Prop:=
 aC P Fq #[Zv e f g i,Sl none 0 0] h (fun j k=>∃ b c d,j=Sl b c d/\wpH P (convert 248 9 (.slice b c d)) (fun l m=>∃ (a:ByteArray),l= .string a/\K (.string a) m) k)
def A5g a b c d(hvc:A94 prog a b c d h K):aC prog Fo #[Zv a b c d] h K:=
 fnk func190 an0 [1] [] hvc
def B8t(P:aE)(a:Bool)(c:OA)(b d:Nat)(h:aJ)(K:VP):Prop:=
 Br ((b:Int)==0) (K (I 0) h)
 (Br a (K (I (-1:Int)) h)
 (K (I 1) h))
def B2i a b c d(hvc:B8t prog a b c d h K):aC prog Im #[Zv a b c d] h K:=
 fnk func171 an0 [1] [] hvc
def A96(P:aE)(b:Bool)(c:OA)(a d:Nat)(h:aJ)(K:VP):Prop:=
 K (.bool ((a:Int)==0)) h
def A5i a b c d(hvc:A96 prog a b c d h K):aC prog E4 #[Zv a b c d] h K:=
 fnk func166 an0 [1] [] hvc
def B3o(P:aE)(d:Bool)(e:OA)(a f:Nat)(h:aJ)(K:VP):Prop:=
 Br (!d) (Br ((a:Int)==1) (∃ b,Ax e b (0:Int) a <| ∃ c,h.cell? (b.add (((0:Int)).toNat*1))=some (U c)/\K (.bool (c==1)) h)
 (K (.bool false) h))
 (K (.bool false) h)
def A97 a b c d(hvc:B3o prog a b c d h K):aC prog V6 #[Zv a b c d] h K:=
 fnk func152 an0 [1] [] hvc
def A44(P:aE)(a:Bool)(b:OA)(c d:Nat)(e:Bool)(f:OA)(g i:Nat)(h:aJ)(K:VP):Prop:=
 Br a (Br e (aC P D8 #[Sl f g i,Sl b c d] h (fun m n=>∃ j,m=I j/\K (I j) n))
 (Br a (K (I (-1:Int)) h)
 (Br e (K (I 1) h)
 (aC P D8 #[Sl b c d,Sl f g i] h (fun o p=>∃ k,o=I k/\K (I k) p)))))
 (Br a (K (I (-1:Int)) h)
 (Br e (K (I 1) h)
 (aC P D8 #[Sl b c d,Sl f g i] h (fun q r=>∃ l,q=I l/\K (I l) r))))
def A2q a b c d e f g i(hvc:A44 prog a b c d e f g i h K):aC prog Hc #[Zv a b c d,Zv e f g i] h K:=
 fnk func255 an0 [2,3] [] hvc
def B3q(P:aE)(b:Bool)(c:OA)(d e:Nat)(f:Bool)(g:OA)(i j:Nat)(h:aJ)(K:VP):Prop:=
 Br (b==f) (aC P D8 #[Sl c d e,Sl g i j] h (fun k l=>∃ a,k=I a/\K (.bool (a==0)) l))
 (K (.bool false) h)
def A99 a b c d e f g i(hvc:B3q prog a b c d e f g i h K):aC prog Wx #[Zv a b c d,Zv e f g i] h K:=
 fnk func277 an0 [2,3] [] hvc
def C23(P:aE)(e:Bool)(f:OA)(g i:Nat)(h:aJ)(K:VP):Prop:=
 aC P J4 #[.bool (!e),Sl f g i] h (fun j k=>∃ a b c d,j=Zv a b c d/\K (Zv a b c d) k)
def B5x a b c d(hvc:C23 prog a b c d h K):aC prog Ht #[Zv a b c d] h K:=
 fnk func243 an0 [1,2] [] hvc
def C27(P:aE)(i:Bool)(a:OA)(b c:Nat)(m:Bool)(d:OA)(e f:Nat)(h:aJ)(K:VP):Prop:=
 Br (i==m) (aC P K7 #[Sl a b c,Sl d e f] h (fun O j=>∃ q r s,O=Sl q r s/\h.le j/\aC P J4 #[.bool i,Sl q r s] j (fun Q n=>∃ t u v w,Q=Zv t u v w/\j.le n/\K (Zv t u v w) n)))
 (aC P D8 #[Sl a b c,Sl d e f] h (fun R g=>∃ x,R=I x/\Bd (x>=0) (aC P F0 #[Sl a b c,Sl d e f] g (fun S k=>∃ y z A,S=Sl y z A/\g.le k/\aC P J4 #[.bool i,Sl y z A] k (fun T o=>∃ B C D E,T=Zv B C D E/\k.le o/\K (Zv B C D E) o)))
 (aC P F0 #[Sl d e f,Sl a b c] g (fun V l=>∃ F G H,V=Sl F G H/\g.le l/\aC P J4 #[.bool m,Sl F G H] l (fun W p=>∃ J L M N,W=Zv J L M N/\l.le p/\K (Zv J L M N) p)))))
def B61 a b c d e f g i(hvc:C27 prog a b c d e f g i h K):aC prog Qs #[Zv a b c d,Zv e f g i] h K:=
 fnk func169 an0 [2,3,4] [] hvc
def C20(P:aE)(l:Bool)(m:OA)(n o:Nat)(p:Bool)(q:OA)(r s:Nat)(h:aJ)(K:VP):Prop:=
 aC P Ht #[Zv p q r s] h (fun t a=>∃ c d e f,t=Zv c d e f/\h.le a/\aC P Qs #[Zv l m n o,Zv c d e f] a (fun u b=>∃ g i j k,u=Zv g i j k/\a.le b/\K (Zv g i j k) b))
def B5u a b c d e f g i(hvc:C20 prog a b c d e f g i h K):aC prog A82 #[Zv a b c d,Zv e f g i] h K:=
 fnk func292 an0 [2,3,4] [] hvc
def C24(P:aE)(k:Bool)(l:OA)(m n:Nat)(o:Bool)(p:OA)(q r:Nat)(h:aJ)(K:VP):Prop:=
 aC P C5 #[Sl l m n,Sl p q r] h (fun s a=>∃ c d e,s=Sl c d e/\h.le a/\aC P J4 #[.bool (!(k==o)),Sl c d e] a (fun t b=>∃ f g i j,t=Zv f g i j/\a.le b/\K (Zv f g i j) b))
def B5y a b c d e f g i(hvc:C24 prog a b c d e f g i h K):aC prog T7 #[Zv a b c d,Zv e f g i] h K:=
 fnk func183 an0 [2,3,4] [] hvc
def A95(P:aE)(b:Bool)(u:OA)(v w:Nat)(x:Bool)(y:OA)(c z:Nat)(h:aJ)(K:VP):Prop:=
 Br ((c:Int)==0) (K (.tuple #[Zv false none 0 0,Zv false none 0 0]) h)
 (aC P L5 #[Sl u v w,Sl y c z] h (fun A k=>∃ (d:OA) (e f:Nat) (g:OA) (i j:Nat),A= .tuple #[Sl d e f,Sl g i j]/\aC P J4 #[.bool (!(b==x)),Sl d e f] k (fun B a=>∃ m n o p,B=Zv m n o p/\k.le a/\aC P J4 #[.bool b,Sl g i j] a (fun C l=>∃ q r s t,C=Zv q r s t/\a.le l/\K (.tuple #[Zv m n o p,Zv q r s t]) l))))
def A5h a b c d e f g i(hvc:A95 prog a b c d e f g i h K):aC prog Kd #[Zv a b c d,Zv e f g i] h K:=
 fnk func249 { orders:=[(4,([0,1,2,3,4,5,7,8,9,6,10,11,12],[]))] } [2,3,4,5] [] hvc
def C21(P:aE)(a:Bool)(b:OA)(c d:Nat)(e:Bool)(f:OA)(g i:Nat)(h:aJ)(K:VP):Prop:=
 aC P V6 #[Zv e f g i] h (fun t o=>∃ (j:Bool),t= .bool j/\Br j (K (Zv a b c d) o)
 (aC P Kd #[Zv a b c d,Zv e f g i] o (fun u v=>∃ (k:Bool) (l:OA) (m n:Nat) (p:Bool) (q:OA) (r s:Nat),u= .tuple #[Zv k l m n,Zv p q r s]/\K (Zv k l m n) v)))
def B5v a b c d e f g i(hvc:C21 prog a b c d e f g i h K):aC prog Fp #[Zv a b c d,Zv e f g i] h K:=
 fnk func184 an0 [2,3,4,5,6] [] hvc
def A0f(P:aE)(C:Bool)(D:OA)(E F:Nat)(i:Bool)(j:OA)(k l:Nat)(h:aJ)(K:VP):Prop:=
 aC P Kd #[Zv C D E F,Zv i j k l] h (fun G q=>∃ (b:Bool) (c:OA) (d e:Nat) (m:Bool) (n:OA) (o p:Nat),G= .tuple #[Zv b c d e,Zv m n o p]/\aC P Im #[Zv m n o p] q (fun H f=>∃ s,H=I s/\q.le f/\aC P Im #[Zv i j k l] f (fun J a=>∃ t,J=I t/\f.le a/\Bd ((B4 (s*t))<0) (aC P A03 #[I 1] a (fun L g=>∃ u v w x,L=Zv u v w x/\a.le g/\aC P A82 #[Zv b c d e,Zv u v w x] g (fun M r=>∃ y z A B,M=Zv y z A B/\g.le r/\K (Zv y z A B) r)))
 (K (Zv b c d e) a))))
def A0e a b c d e f g i(hvc:A0f prog a b c d e f g i h K):aC prog In #[Zv a b c d,Zv e f g i] h K:=
 fnk func267 { orders:=[(2,([0,2,1,3,4,5],[]))] } [2,3,4,5,6] [] hvc
def C26(P:aE)(m:Bool)(d:OA)(e f:Nat)(n:Bool)(g:OA)(i j:Nat)(h:aJ)(K:VP):Prop:=
 aC P Dv #[Sl d e f,Sl g i j] h (fun k l=>∃ a b c,k=Sl a b c/\K (Zv false a b c) l)
def B60 a b c d e f g i(hvc:C26 prog a b c d e f g i h K):aC prog Ns #[Zv a b c d,Zv e f g i] h K:=
 fnk func151 an0 [2,3,4] [] hvc
def C25(P:aE)(z:Bool)(d:OA)(a e:Nat)(A:Bool)(f:OA)(b g:Nat)(h:aJ)(K:VP):Prop:=
 Br ((a:Int)==0) (K (Zv false none 0 0) h)
 (Br ((b:Int)==0) (K (Zv false none 0 0) h)
 (aC P Dv #[Sl d a e,Sl f b g] h (fun v c=>∃ m n o,v=Sl m n o/\h.le c/\aC P L5 #[Sl f b g,Sl m n o] c (fun w l=>∃ (i:OA) (j k:Nat) (s:OA) (t u:Nat),w= .tuple #[Sl i j k,Sl s t u]/\c.le l/\aC P C5 #[Sl d a e,Sl i j k] l (fun x y=>∃ p q r,x=Sl p q r/\K (Zv false p q r) y)))))
def B5z a b c d e f g i(hvc:C25 prog a b c d e f g i h K):aC prog A83 #[Zv a b c d,Zv e f g i] h K:=
 fnk func238 an0 [2,3,4] [] hvc
def C22(P:aE)(t:Bool)(b:OA)(c d:Nat)(a:Int)(h:aJ)(K:VP):Prop:=
 Br t (aC P Ab #[Sl b c d,U a] h (fun u v=>∃ e f g,u=Sl e f g/\aC P J4 #[.bool ((So .u64 a (1:Int))==1),Sl e f g] v (fun w x=>∃ i j k l,w=Zv i j k l/\K (Zv i j k l) x)))
 (aC P Ab #[Sl b c d,U a] h (fun y z=>∃ m n o,y=Sl m n o/\aC P J4 #[.bool false,Sl m n o] z (fun A B=>∃ p q r s,A=Zv p q r s/\K (Zv p q r s) B)))
def B5w a b c d e(hvc:C22 prog a b c d e h K):aC prog Nr #[Zv a b c d,U e] h K:=
 fnk func203 an0 [2,4] [] hvc
def C2e(P:aE)(d:OA)(e:Bool)(f:OA)(g i:Nat)(h:aJ)(K:VP):Prop:=
 wpH P (aH 136 1 #[(0,U 1)]) (fun j k=>∃ a b c,j=Sl a b c/\aC P Dz #[.pointer d,Zv e f g i,Zv false a b c] k (fun l m=>l=T0/\K (T0) m)) h
def B69 a b c d e(hvc:C2e prog a b c d e h K):aC prog A84 #[.pointer a,Zv b c d e] h K:=
 fnk func204 an0 [3] [244] hvc
def B3y(P:aE)(i:OA)(h:aJ)(K:VP):Prop:=
 ∃ l,i=some l/\∃ m n o,Hd h (l.add 0) m n o <| ∃ p,i=some p/\∃ q r s,Hd h (p.add 1) q r s<|aC P F8 #[Sl m n o] h (fun J g=>∃ a b c,J=Sl a b c/\h.le g/\aC P F8 #[Sl q r s] g (fun L j=>∃ d e f,L=Sl d e f/\g.le j/\aC P D8 #[Sl a b c,Sl d e f] j (fun M k=>∃ t,M=I t/\Bd (t>=0) (aC P O7 #[Sl a b c,Sl d e f] k (fun N O=>∃ u v w,N=Sl u v w/\aC P J4 #[.bool false,Sl u v w] O (fun Q R=>∃ x y z A,Q=Zv x y z A/\K (Zv x y z A) R)))
 (aC P O7 #[Sl d e f,Sl a b c] k (fun S T=>∃ B C D,S=Sl B C D/\aC P J4 #[.bool true,Sl B C D] T (fun V W=>∃ E F G H,V=Zv E F G H/\K (Zv E F G H) W))))))
def A9n a(hvc:B3y prog a h K):aC prog Xb #[.pointer a] h K:=
 fnk func205 { orders:=[(1,([0,1,2,3,5,6,7,8,4,9,10,11],[]))] } [2] [] hvc
def B3t(P:aE)(T:Int)(V:Int)(W:Int)(X:Int)(Z:Bool)(q:OA)(j b7:Nat)(r:OA)(s b8:Nat)(h:aJ)(K:VP):Prop:=
 ∃ (k:LP) (l:LN),k [U 0,U 0,U 0,U 0,U 0,U 0,I 0] h/\
 ∀ m n o p g i a b,k [U m,U n,U o,U p,U g,U i,I a] b->Bd (a<(j:Int)) (∃ M,Ax q M a j <| ∃ B,b.cell? (M.add (a.toNat*1))=some (U B)/\∃ N,Ax r N a s <| ∃ C,b.cell? (N.add (a.toNat*1))=some (U C)/\aC P J1 #[U B,U T,U m] b (fun a0 a1=>∃ (t:Int) (c:Int),a0= .tuple #[U t,U c]/\aC P J1 #[U C,U W,U n] a1 (fun a2 a3=>∃ (u:Int) (d:Int),a2= .tuple #[U u,U d]/\aC P J1 #[U C,U X,U o] a3 (fun a4 a5=>∃ (v:Int) (e:Int),a4= .tuple #[U v,U e]/\aC P J1 #[U B,U V,U p] a5 (fun a6 H=>∃ (w:Int) (f:Int),a6= .tuple #[U w,U f]/\Br Z (aP P Af #[U t,U u,U g] H (fun a7 a8=>∃ (D:Int) (x:Int),a7= .tuple #[U D,U x]/\∃ O,Ax q O a j<|wpH P (aI 270 (Pt (O.add (a.toNat*1))) (U D)) (fun _ a9=>aP P Af #[U v,U w,U i] a9 (fun b0 b1=>∃ (E:Int) (y:Int),b0= .tuple #[U E,U y]/\∃ Q,Ax r Q a s<|wpH P (aI 270 (Pt (Q.add (a.toNat*1))) (U E)) (fun _ J=>k [U c,U d,U e,U f,U x,U y,I (B4 (a+1))] J/\l [U c,U d,U e,U f,U x,U y,I (B4 (a+1))] J<l [U m,U n,U o,U p,U g,U i,I a] b) b1)) a8))
 (aP P Af #[U u,U t,U g] H (fun b2 b3=>∃ (F:Int) (z:Int),b2= .tuple #[U F,U z]/\∃ R,Ax q R a j<|wpH P (aI 270 (Pt (R.add (a.toNat*1))) (U F)) (fun _ b4=>aP P Af #[U w,U v,U i] b4 (fun b5 b6=>∃ (G:Int) (A:Int),b5= .tuple #[U G,U A]/\∃ S,Ax r S a s<|wpH P (aI 270 (Pt (S.add (a.toNat*1))) (U G)) (fun _ L=>k [U c,U d,U e,U f,U z,U A,I (B4 (a+1))] L/\l [U c,U d,U e,U f,U z,U A,I (B4 (a+1))] L<l [U m,U n,U o,U p,U g,U i,I a] b) b6)) b3)))))))
 (K (T0) b)
def A9f a b c d e f g i j k l(hvc:B3t prog a b c d e f g i j k l h K):aC prog Wy #[.agg #[U a,U b,U c,U d,.bool e],.slice f g i,.slice j k l] h K:=
 fnk func273 { loops:=[(4,⟨[6,7,8,9,10,11,21],[],[U 0,U 0,U 0,U 0,U 0,U 0,I 0],⟨(Lrg 6 13++Lrg 21 68),[]⟩⟩)] } [3] [] hvc
def A13(P:aE)(i:Int)(f:Int)(c:Int)(a:Int)(l:LP)(n:aJ):Prop:=
 ∃ (j:LP) (m:LN),j [U (C0 (aD (bor .u64 (C0 (i*2^(min (C0 a).toNat 64))) (aF f (2^(min (C0 ((64:Int)-(C0 a))).toNat 64)))) (aF (C0 (c*2^(min (C0 a).toNat 64))) (2^(min ((32:Int)).toNat 64))))),U (C0 ((bor .u64 (C0 (i*2^(min (C0 a).toNat 64))) (aF f (2^(min (C0 ((64:Int)-(C0 a))).toNat 64))))-(C0 ((C0 (aD (bor .u64 (C0 (i*2^(min (C0 a).toNat 64))) (aF f (2^(min (C0 ((64:Int)-(C0 a))).toNat 64)))) (aF (C0 (c*2^(min (C0 a).toNat 64))) (2^(min ((32:Int)).toNat 64)))))*(aF (C0 (c*2^(min (C0 a).toNat 64))) (2^(min ((32:Int)).toNat 64)))))))] n/\
 ∀ b d e,j [U b,U d] e->∃ (k:LP),(Bd (b>=4294967296) (k [] e)
 (Bd ((C0 (b*(So .u64 (C0 (c*2^(min (C0 a).toNat 64))) (4294967295:Int))))>(C0 ((C0 ((4294967296:Int)*d))+(aF (C0 (f*2^(min (C0 a).toNat 64))) (2^(min ((32:Int)).toNat 64)))))) (k [] e)
 (l [U b] e)))/\
 ∀ g,k [] g->Bd ((C0 (d+(aF (C0 (c*2^(min (C0 a).toNat 64))) (2^(min ((32:Int)).toNat 64)))))>=4294967296) (l [U (C0 (b-1))] g)
 (j [U (C0 (b-1)),U (C0 (d+(aF (C0 (c*2^(min (C0 a).toNat 64))) (2^(min ((32:Int)).toNat 64)))))] g/\m [U (C0 (b-1)),U (C0 (d+(aF (C0 (c*2^(min (C0 a).toNat 64))) (2^(min ((32:Int)).toNat 64)))))] g<m [U b,U d] e)
def A12(P:aE)(i:Int)(d:Int)(b:Int)(a:Int)(j:Int)(m:LP)(o:aJ):Prop:=
 ∃ (k:LP) (n:LN),k [U (C0 ((C0 ((C0 ((C0 ((bor .u64 (C0 (i*2^(min (C0 a).toNat 64))) (aF d (2^(min (C0 ((64:Int)-(C0 a))).toNat 64))))*(4294967296:Int)))+(aF (C0 (d*2^(min (C0 a).toNat 64))) (2^(min ((32:Int)).toNat 64)))))-(C0 (j*(C0 (b*2^(min (C0 a).toNat 64)))))))-(C0 ((C0 (aD (C0 ((C0 ((C0 ((bor .u64 (C0 (i*2^(min (C0 a).toNat 64))) (aF d (2^(min (C0 ((64:Int)-(C0 a))).toNat 64))))*(4294967296:Int)))+(aF (C0 (d*2^(min (C0 a).toNat 64))) (2^(min ((32:Int)).toNat 64)))))-(C0 (j*(C0 (b*2^(min (C0 a).toNat 64))))))) (aF (C0 (b*2^(min (C0 a).toNat 64))) (2^(min ((32:Int)).toNat 64)))))*(aF (C0 (b*2^(min (C0 a).toNat 64))) (2^(min ((32:Int)).toNat 64))))))),U (C0 (aD (C0 ((C0 ((C0 ((bor .u64 (C0 (i*2^(min (C0 a).toNat 64))) (aF d (2^(min (C0 ((64:Int)-(C0 a))).toNat 64))))*(4294967296:Int)))+(aF (C0 (d*2^(min (C0 a).toNat 64))) (2^(min ((32:Int)).toNat 64)))))-(C0 (j*(C0 (b*2^(min (C0 a).toNat 64))))))) (aF (C0 (b*2^(min (C0 a).toNat 64))) (2^(min ((32:Int)).toNat 64)))))] o/\
 ∀ e c f,k [U e,U c] f->∃ (l:LP),(Bd (c>=4294967296) (l [] f)
 (Bd ((C0 (c*(So .u64 (C0 (b*2^(min (C0 a).toNat 64))) (4294967295:Int))))>(C0 ((C0 ((4294967296:Int)*e))+(So .u64 (C0 (d*2^(min (C0 a).toNat 64))) (4294967295:Int))))) (l [] f)
 (m [U c] f)))/\
 ∀ g,l [] g->Bd ((C0 (e+(aF (C0 (b*2^(min (C0 a).toNat 64))) (2^(min ((32:Int)).toNat 64)))))>=4294967296) (m [U (C0 (c-1))] g)
 (k [U (C0 (e+(aF (C0 (b*2^(min (C0 a).toNat 64))) (2^(min ((32:Int)).toNat 64))))),U (C0 (c-1))] g/\n [U (C0 (e+(aF (C0 (b*2^(min (C0 a).toNat 64))) (2^(min ((32:Int)).toNat 64))))),U (C0 (c-1))] g<n [U e,U c] f)
def A14(P:aE)(f:Int)(b:Int)(c:Int)(K:VP)(a:Int)(d:Int)(e:Int)(g:aJ):Prop:=
 Bd (C0 a<0) False
 (K (.tuple #[U (C0 ((C0 (d*(4294967296:Int)))+e)),U (aF (C0 ((C0 ((C0 ((C0 ((C0 ((C0 ((bor .u64 (C0 (f*2^(min (C0 a).toNat 64))) (aF b (2^(min (C0 ((64:Int)-(C0 a))).toNat 64))))*(4294967296:Int)))+(aF (C0 (b*2^(min (C0 a).toNat 64))) (2^(min ((32:Int)).toNat 64)))))-(C0 (d*(C0 (c*2^(min (C0 a).toNat 64)))))))*(4294967296:Int)))+(So .u64 (C0 (b*2^(min (C0 a).toNat 64))) (4294967295:Int))))-(C0 (e*(C0 (c*2^(min (C0 a).toNat 64))))))) (2^(min (C0 a).toNat 64)))]) g)
def A15(P:aE)(c:Int)(d:Int)(a:Int)(K:VP)(b:Int)(e:Int)(j:aJ):Prop:=
 Bd (aF (C0 (a*2^(min (C0 b).toNat 64))) (2^(min ((32:Int)).toNat 64))=0) False
 (∃ (f:LP),(A12 P c d a b e f j)/\
 ∀ g i,f [U g] i->A14 P c d a K b e g i)
def B4g(P:aE)(c:Int)(d:Int)(a:Int)(h:aJ)(K:VP):Prop:=
 Br (a==0) (∃ (i:Value),h.cell? (⟨1,0,none⟩)=some (i)/\False)
 (Bd (a<=c) (∃ (j:Value),h.cell? (⟨2,0,none⟩)=some (j)/\False)
 (Br (c==0) (Bd (a=0) False
 (Bd (a=0) False
 (K (.tuple #[U (C0 (aD d a)),U (aL d a)]) h)))
 (aC P H3 #[U a] h (fun k l=>∃ b,k=I b/\Bd (C0 b<0) False
 (Bd (C0 b<0) False
 (Bd (C0 ((64:Int)-(C0 b))<0) False
 (Bd (C0 b<0) False
 (Bd (aF (C0 (a*2^(min (C0 b).toNat 64))) (2^(min ((32:Int)).toNat 64))=0) False
 (∃ (e:LP),(A13 P c d a b e l)/\
 ∀ f g,e [U f] g->A15 P c d a K b f g)))))))))
def B0i a b c(hvc:B4g prog a b c h K):aC prog Ee #[U a,U b,U c] h K:=
 fnk func301 ⟨[(17,⟨[15,16],[],[U 0,U 0],⟨([15,16]++Lrg 67 19),[]⟩⟩),(24,⟨[16,18],[],[U 0,U 0],⟨([16,18]++Lrg 102 19),[]⟩⟩)],[(18,⟨[],[],[],⟨(Lrg 67 12),[]⟩⟩),(21,⟨[15],[],[U 0],⟨([15,16]++Lrg 67 19),[]⟩⟩),(25,⟨[],[],[],⟨(Lrg 102 12),[]⟩⟩),(28,⟨[18],[],[U 0],⟨([16,18]++Lrg 102 19),[]⟩⟩)],[],[],[]⟩ [] [] hvc
def B4e(P:aE)(a:Int)(b:Int)(h:aJ)(K:VP):Prop:=
 K (.tuple #[U (C0 ((C0 ((C0 ((aF a (2^(min ((32:Int)).toNat 64)))*(aF b (2^(min ((32:Int)).toNat 64)))))+(aF (C0 ((C0 ((aF a (2^(min ((32:Int)).toNat 64)))*(So .u64 b (4294967295:Int))))+(aF (C0 ((So .u64 a (4294967295:Int))*(So .u64 b (4294967295:Int)))) (2^(min ((32:Int)).toNat 64))))) (2^(min ((32:Int)).toNat 64)))))+(aF (C0 ((So .u64 (C0 ((C0 ((aF a (2^(min ((32:Int)).toNat 64)))*(So .u64 b (4294967295:Int))))+(aF (C0 ((So .u64 a (4294967295:Int))*(So .u64 b (4294967295:Int)))) (2^(min ((32:Int)).toNat 64))))) (4294967295:Int))+(C0 ((So .u64 a (4294967295:Int))*(aF b (2^(min ((32:Int)).toNat 64))))))) (2^(min ((32:Int)).toNat 64))))),U (C0 (a*b))]) h
def B0g a b(hvc:B4e prog a b h K):aC prog Ed #[U a,U b] h K:=
 fnk func305 an0 [] [] hvc
def Gm(P:aE)(b:Int)(h:aJ)(K:VP):Prop:=
 aC P Kk #[U b] h (fun c d=>∃ a,c=I a/\K (I (B4 ((64:Int)-a))) d)
def Li a(hvc:Gm prog a h K):aC prog H3 #[U a] h K:=
 fnk func295 an0 [] [] hvc
def Ep(P:aE)(a:Int)(h:aJ)(K:VP):Prop:=
 Br (a==0) (K (I 64) h)
 ((0<=aF (C0 ((So .u64 a (C0 (0-a)))*(285870213051353865:Int))) (2^(min ((58:Int)).toNat 64))/\aF (C0 ((So .u64 a (C0 (0-a)))*(285870213051353865:Int))) (2^(min ((58:Int)).toNat 64))<(64:Int))/\∃ b,h.cell? (Addr.add (⟨0,0,none⟩) ((aF (C0 ((So .u64 a (C0 (0-a)))*(285870213051353865:Int))) (2^(min ((58:Int)).toNat 64))).toNat*1))=some (Y b)/\K (I (B4 b)) h)
def Ja a(hvc:Ep prog a h K):aC prog I7 #[U a] h K:=
 fnk func300 an0 [] [] hvc
def A3l:ByteArray:={ data:=#[0,1,2,2,3,3,3,3,4,4,4,4,4,4,4,4,5,5,5,5,5,5,5,5,5,5,5,5,5,5,5,5,6,6,6,6,6,6,6,6,6,6,6,6,6,6,6,6,6,6,6,6,6,6,6,6,6,6,6,6,6,6,6,6,7,7,7,7,7,7,7,7,7,7,7,7,7,7,7,7,7,7,7,7,7,7,7,7,7,7,7,7,7,7,7,7,7,7,7,7,7,7,7,7,7,7,7,7,7,7,7,7,7,7,7,7,7,7,7,7,7,7,7,7,7,7,7,7,8,8,8,8,8,8,8,8,8,8,8,8,8,8,8,8,8,8,8,8,8,8,8,8,8,8,8,8,8,8,8,8,8,8,8,8,8,8,8,8,8,8,8,8,8,8,8,8,8,8,8,8,8,8,8,8,8,8,8,8,8,8,8,8,8,8,8,8,8,8,8,8,8,8,8,8,8,8,8,8,8,8,8,8,8,8,8,8,8,8,8,8,8,8,8,8,8,8,8,8,8,8,8,8,8,8,8,8,8,8,8,8,8,8,8,8,8,8,8,8,8,8,8,8,8,8,8,8] }
def B4f(P:aE)(c:Int)(h:aJ)(K:VP):Prop:=
 ∃ (d:LP),(Bd (c>=4294967296) (d [U (aF c (2^(min ((32:Int)).toNat 64))),I 32] h)
 (d [U c,I 0] h))/\
 ∀ a g i,d [U a,I g] i->∃ (e:LP),(Bd (a>=65536) (e [U (aF a (2^(min ((16:Int)).toNat 64))),I (B4 (g+16))] i)
 (e [U a,I g] i))/\
 ∀ b j k,e [U b,I j] k->∃ (f:LP),(Bd (b>=256) (f [U (aF b (2^(min ((8:Int)).toNat 64))),I (B4 (j+8))] k)
 (f [U b,I j] k))/\
 ∀ l n o,f [U l,I n] o->∃ (m:UInt8),(0<=wu8 l/\((A3l:ByteArray))[(wu8 l).toNat]? = some m)/\K (I (B4 (n+(B4 ((m.toNat:Nat):Int))))) o
def B0h a(hvc:B4f prog a h K):aC prog Kk #[U a] h K:=
 fnk func313 { cuts:=[(4,⟨[0,2],[],[U 0,I 0],⟨[0,2,3,4,5,6],[]⟩⟩),(7,⟨[0,2],[],[U 0,I 0],⟨[0,2,7,8,9,10,11,12],[]⟩⟩),(10,⟨[0,2],[],[U 0,I 0],⟨[0,2,13,14,15,16,17,18],[]⟩⟩)] } [] [] hvc
def C2p(P:aE)(b:Int)(h:aJ)(K:VP):Prop:=
 aC P Kk #[U b] h (fun c d=>∃ a,c=I a/\K (I a) d)
def B6k a(hvc:C2p prog a h K):aC prog A8b #[U a] h K:=
 fnk func290 an0 [] [] hvc
def A62:C1k prog Q6 (fun a=>do
 let (x,y,c)<-aQ "Add64" a
 pure (aR ((x+y+c)%aO) ((x+y+c)/aO))):=⟨f302,func302,by kernel_rfl,by kernel_rfl,by kernel_rfl,by kernel_rfl⟩
def A61:C1k prog Af (fun a=>do
 let (x,y,c)<-aQ "Sub64" a
 pure (aR ((x+aO-y-c)%aO) (if x<y+c then 1 else 0))):=⟨f299,func299,by kernel_rfl,by kernel_rfl,by kernel_rfl,by kernel_rfl⟩
def C2o(P:aE)(c:Int)(d:Int)(h:aJ)(K:VP):Prop:=
 aC P Ed #[U c,U d] h (fun e f=>∃ (a:Int) (b:Int),e= .tuple #[U a,U b]/\K (.tuple #[U a,U b]) f)
def B6j a b(hvc:C2o prog a b h K):aC prog A8a #[U a,U b] h K:=
 fnk func330 an0 [] [] hvc
def B3s(P:aE)(a:OA)(i j:Nat)(h:aJ)(K:VP):Prop:=
 Br (Option.isNone a) (K (Sl none 0 0) h)
 (wpH P (aH 136 0 #[]) (fun k l=>∃ b c d,k=Sl b c d/\wpH P (aM #[136,136] 136 #[Sl b c d,Sl a i j]) (fun m n=>∃ e f g,m=Sl e f g/\K (Sl e f g) n) l) h)
def A9e a b c(hvc:B3s prog a b c h K):aC prog Dx #[Sl a b c] h K:=
 fnk func270 an0 [] [] hvc
def A9c(P:aE)(p:OA)(j q:Nat)(k:Int)(h:aJ)(K:VP):Prop:=
 Bd (k<0) (False)
 (aC P A8a #[U (C0 (j:Int)),U (C0 k)] h (fun r s=>∃ (l:Int) (e:Int),r= .tuple #[U l,U e]/\Bd (l>0) (False)
 (Bd (e>9223372036854775807) (False)
 (wpH P (aK 136 (I (B4 e)) (I (B4 e))) (fun t u=>∃ d c b,t=Sl d c b/\wpH P (aN #[136,136] 3 #[Sl d c b,Sl p j q]) (fun v w=>∃ o,v=I o/\∃ (g:LP) (m:LN),g [I o] w/\
 ∀ a f,g [I a] f->Bd (a<(c:Int)) ((0<=a/\a<=(c:Int))/\(0<=a/\a<=(b:Int))/\wpH P (aN #[136,136] 3 #[.slice (J6 d b (a.toNat) 1) (c-(a.toNat)) (b-(a.toNat)),.slice (J6 d b 0 1) ((a.toNat)-0) (b-0)]) (fun x n=>∃ i,x=I i/\g [I (B4 (a+i))] n/\m [I (B4 (a+i))] n<m [I a] f) f)
 (K (Sl d c b) f)) u) s))))
def A5l a b c d(hvc:A9c prog a b c d h K):aC prog Qt #[Sl a b c,I d] h K:=
 fnk func329 { loops:=[(8,⟨[8],[],[I 0],⟨([8]++Lrg 34 13),[]⟩⟩)] } [] [] hvc
def B4d(P:aE)(b:Int)(c:Int)(h:aJ)(K:VP):Prop:=
 aC P Hg #[I b] h (fun f g=>∃ (e:Bool),f= .bool e/\aC P Hg #[I c] g (fun i a=>∃ (d:Bool),i= .bool d/\Br e (Br d (K (I 0) a)
 (K (I (-1:Int)) a))
 (Br d (K (I 1) a)
 (Bd (b<c) (K (I (-1:Int)) a)
 (Bd (b>c) (K (I 1) a)
 (K (I 0) a))))))
def B0f a b(hvc:B4d prog a b h K):aC prog Kj #[I a,I b] h K:=
 fnk func279 an0 [] [] hvc
def A4g(P:aE)(a:Int)(h:aJ)(K:VP):Prop:=
 K (.bool (a != a)) h
def A34 a(hvc:A4g prog a h K):aC prog Hg #[I a] h K:=
 fnk func303 an0 [] [] hvc
def A11(P:aE)(b:Int)(c:Int)(h:aJ)(K:VP):Prop:=
 aC P Ae #[U b] h (fun f g=>∃ (e:Bool),f= .bool e/\aC P Ae #[U c] g (fun i a=>∃ (d:Bool),i= .bool d/\Br e (Br d (K (I 0) a)
 (K (I (-1:Int)) a))
 (Br d (K (I 1) a)
 (Bd (b<c) (K (I (-1:Int)) a)
 (Bd (b>c) (K (I 1) a)
 (K (I 0) a))))))
def A0z a b(hvc:A11 prog a b h K):aC prog Is #[U a,U b] h K:=
 fnk func280 an0 [] [] hvc
def Sm(P:aE)(a:Int)(h:aJ)(K:VP):Prop:=
 K (.bool (a != a)) h
def Tm a(hvc:Sm prog a h K):aC prog Ae #[U a] h K:=
 fnk func304 an0 [] [] hvc
def A4h(P:aE)(b:Int)(c:Int)(h:aJ)(K:VP):Prop:=
 aC P Bp #[I b] h (fun f g=>∃ (e:Bool),f= .bool e/\aC P Bp #[I c] g (fun i a=>∃ (d:Bool),i= .bool d/\Br e (Br d (K (I 0) a)
 (K (I (-1:Int)) a))
 (Br d (K (I 1) a)
 (Bd (b<c) (K (I (-1:Int)) a)
 (Bd (b>c) (K (I 1) a)
 (K (I 0) a))))))
def A35 a b(hvc:A4h prog a b h K):aC prog Mj #[I a,I b] h K:=
 fnk func254 an0 [] [] hvc
def Vj(P:aE)(a:Int)(h:aJ)(K:VP):Prop:=
 K (.bool (a != a)) h
def Yi a(hvc:Vj prog a h K):aC prog Bp #[I a] h K:=
 fnk func289 an0 [] [] hvc
