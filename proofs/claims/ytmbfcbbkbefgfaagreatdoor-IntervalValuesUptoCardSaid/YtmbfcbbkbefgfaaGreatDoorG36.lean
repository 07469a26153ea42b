/- A part. -/
import Derived.Test.YtmbfcbbkbefgfaaGreatDoorG30
open Go.Proofs.Tryz
set_option linter.all false
open _root_.Go.Addr renaming add->aC
open _root_.Go.Builtin renaming append_->aI
open _root_.Go.Instr renaming storeAt->aE,buildSlice->aG,makeSlice->aH
open _root_.Go renaming Program->aF
open _root_.Go.Proofs.YtmbfcbbkbefgfaaGreatDoor renaming FCall->aD,Heap->aJ
namespace Go.Proofs.YtmbfcbbkbefgfaaGreatDoor
open Go
set_option maxRecDepth 100000
variable {h:aJ} {K:VP}
abbrev Xc:Nat:=38
abbrev O1:Nat:=200
abbrev X9:Nat:=259
abbrev Qy:Nat:=111
abbrev Ea:Nat:=36
abbrev Cv:Nat:=6
def B43(P:aF)(b:Int)(v:OA)(w x:Nat)(y:OA)(c z:Nat)(h:aJ)(K:VP):Prop:=
 aD P Pf #[.agg #[I b,Sl v w x]] h (fun A B=>∃ (d:OA) (e f:Nat) (g:Bool),A= .tuple #[Sl d e f,.bool g]/\aD P Md #[Sl y c z] B (fun C a=>∃ (i:OA) (j k:Nat) (l:Bool),C= .tuple #[Sl i j k,.bool l]/\Br (!g) (K (.tuple #[.string ({ data:=#[] }:ByteArray),I 1]) a)
 (Br (!l) (K (.tuple #[.string ({ data:=#[] }:ByteArray),I 1]) a)
 (Br ((c:Int) != b) (K (.tuple #[.string ({ data:=#[] }:ByteArray),I 4]) a)
 (aD P Qy #[Sl d e f,Sl i j k] a (fun D E=>∃ n o p q r s t u,D=Qv n o p q r s t u/\aD P T2 #[Qv n o p q r s t u] E (fun F G=>∃ (m:ByteArray),F= .string m/\K (.tuple #[.string m,I 0]) G)))))))
def A9w a b c d e f g(hvc:B43 prog a b c d e f g h K):aD prog Xc #[.agg #[I a,Sl b c d],.slice e f g] h K:=
 fnk func38 an0 [2] [] hvc
def Be(P:aF)(i:OA)(j k:Nat)(h:aJ)(K:VP):Prop:=
 aD P X9 #[Sl i j k] h (fun l m=>∃ a b c,l=Sl a b c/\aD P P7 #[Sl a b c] m (fun n o=>∃ d e f g,n=Zv d e f g/\K (Zv d e f g) o))
def Es a b c(hvc:Be prog a b c h K):aD prog O1 #[Sl a b c] h K:=
 fnk func200 an0 [2] [] hvc
def Ib(P:aF)(u:OA)(d D:Nat)(h:aJ)(K:VP):Prop:=
 wpH P (aH 128 (I (d:Int)) (I (d:Int))) (fun B C=>∃ f g s,B=Sl f g s/\∃ (e:LP) (i:LN),e [I 0] C/\
 ∀ a b,e [I a] b->Bd (a<(d:Int)) (∃ c,Ax u c a d <| ∃ (v:Int) (w:Int) (x:Int) (y:Int) (z:Int) (A:Int) (j:Bool) (k:OA) (l m:Nat) (n:Bool) (o:OA) (p q:Nat),b.cell? (aC (c.add (a.toNat*10)) 0)=some (I v)/\b.cell? (aC (c.add (a.toNat*10)) 1)=some (I w)/\b.cell? (aC (c.add (a.toNat*10)) 2)=some (I x)/\b.cell? (aC (c.add (a.toNat*10)) 3)=some (I y)/\b.cell? (aC (c.add (a.toNat*10)) 4)=some (I z)/\b.cell? (aC (c.add (a.toNat*10)) 5)=some (I A)/\b.cell? (aC (c.add (a.toNat*10)) 6)=some (.bool j)/\b.cell? (aC (c.add (a.toNat*10)) 7)=some (.slice k l m)/\b.cell? (aC (c.add (a.toNat*10)) 8)=some (.bool n)/\b.cell? (aC (c.add (a.toNat*10)) 9)=some (.slice o p q)/\∃ t,Ax f t a g<|wpH P (aE 145 (Pt (t.add (a.toNat*4))) (Qv j k l m n o p q)) (fun _ r=>e [I (B4 (a+1))] r/\i [I (B4 (a+1))] r<i [I a] b) b)
 (K (Sl f g s) b)) h
def Nf a b c(hvc:Ib prog a b c h K):aD prog X9 #[Sl a b c] h K:=
 fnk func259 { loops:=[(3,⟨[11],[],[I 0],⟨([4,5]++Lrg 11 11),[5]⟩⟩)] } [5] [] hvc
def Nb(P:aF)(b7:OA)(q:Nat)(r:OA)(s:Nat)(b8:LP)(t:LN)(d:Int)(u:Bool)(v:OA)(w x:Nat)(b9:Bool)(c0:OA)(c1 c2:Nat)(c3:Bool)(c4:OA)(c5 c6:Nat)(c7:Int)(c8:OA)(c9:Nat)(d0:aJ)(d1:aJ):Prop:=
 ∃ (f:LP) (y:LN),f [I 0] d1/\
 ∀ a b,f [I a] b->Bd (a<(q:Int)) (∃ c,Ax b7 c a q <| ∃ (z:Int) (A:Int) (B:Int) (C:Int) (D:Int) (E:Int) (F:Bool) (G:OA) (H J:Nat) (L:Bool) (M:OA) (N O:Nat),b.cell? (aC (c.add (a.toNat*10)) 0)=some (I z)/\b.cell? (aC (c.add (a.toNat*10)) 1)=some (I A)/\b.cell? (aC (c.add (a.toNat*10)) 2)=some (I B)/\b.cell? (aC (c.add (a.toNat*10)) 3)=some (I C)/\b.cell? (aC (c.add (a.toNat*10)) 4)=some (I D)/\b.cell? (aC (c.add (a.toNat*10)) 5)=some (I E)/\b.cell? (aC (c.add (a.toNat*10)) 6)=some (.bool F)/\b.cell? (aC (c.add (a.toNat*10)) 7)=some (.slice G H J)/\b.cell? (aC (c.add (a.toNat*10)) 8)=some (.bool L)/\b.cell? (aC (c.add (a.toNat*10)) 9)=some (.slice M N O)/\wpH P (Instr.alloc 261 true (T0)) (fun d2 d3=>∃ (g:Addr),d2=Pt g/\wpH P (aE 261 (Pt g) (.agg #[I z,I A,I B,I C,I D,I E,.bool F,Sl G H J,.bool L,Sl M N O])) (fun _ e=>∃ S,Ax r S a s <| ∃ T V W X,Lz e (S.add (a.toNat*2)) T V W X<|(0<=d/\d<(6:Int))/\∃ l,e.cell? (aC (g.add 0) (d.toNat*1))=some (I l)/\∃ Z,Ax c8 Z l c9 <| ∃ a0 a1 a2 a3,Lz e (Z.add (l.toNat*2)) a0 a1 a2 a3<|aD P T7 #[Zv T V W X,Zv a0 a1 a2 a3] e (fun d4 Q=>∃ a4 a5 a6 a7,d4=Zv a4 a5 a6 a7/\e.le Q/\∃ a8,Ax r a8 a s<|wpH P (aE 138 (Pt (a8.add (a.toNat*2))) (Zv a4 a5 a6 a7)) (fun _ R=>f [I (B4 (a+1))] R/\y [I (B4 (a+1))] R<y [I a] b) Q)) d3) b)
 (aD P Hv #[Qv b9 c0 c1 c2 c3 c4 c5 c6] b (fun d5 i=>∃ a9 b0 b1 b2,d5=Zv a9 b0 b1 b2/\b.le i/\aD P Nr #[Zv a9 b0 b1 b2,U (C0 c7)] i (fun d6 j=>∃ b3 b4 b5 b6,d6=Zv b3 b4 b5 b6/\i.le j/\aD P T7 #[Zv u v w x,Zv b3 b4 b5 b6] j (fun d7 k=>∃ m n o p,d7=Zv m n o p/\j.le k/\b8 [I (B4 (d+1)),.bool m,.slice n o p] k/\t [I (B4 (d+1)),.bool m,.slice n o p] k<t [I d,.bool u,.slice v w x] d0))))
def Nc(P:aF)(V:OA)(W:Nat)(X:OA)(Z:Nat)(a0:LP)(a1:LN)(a2:Int)(a3:Bool)(a4:OA)(a5 a6:Nat)(c:Bool)(d:OA)(e f:Nat)(g:Bool)(i:OA)(j k:Nat)(r:Int)(s:OA)(l:Nat)(a7:aJ)(a8:aJ):Prop:=
 ∃ (m:LP) (t:LN),m [I 0] a7/\
 ∀ a b,m [I a] b->Bd (a<(l:Int)) (aD P A85 #[Qv c d e f g i j k] b (fun a9 n=>∃ w x y z,a9=Zv w x y z/\b.le n/\aD P Nr #[Zv w x y z,U (C0 a)] n (fun b0 o=>∃ A B C D,b0=Zv A B C D/\n.le o/\aD P Hv #[Qv c d e f g i j k] o (fun b1 p=>∃ E F G H,b1=Zv E F G H/\o.le p/\aD P Nr #[Zv E F G H,U (C0 (B4 (r-a)))] p (fun b2 q=>∃ J L M N,b2=Zv J L M N/\p.le q/\aD P T7 #[Zv A B C D,Zv J L M N] q (fun b3 u=>∃ O Q R S,b3=Zv O Q R S/\q.le u/\∃ T,Ax s T a l<|wpH P (aE 138 (Pt (T.add (a.toNat*2))) (Zv O Q R S)) (fun _ v=>m [I (B4 (a+1))] v/\t [I (B4 (a+1))] v<t [I a] b) u))))))
 (Nb P V W X Z a0 a1 a2 a3 a4 a5 a6 c d e f g i j k r s l a8 b)
def Nd(P:aF)(l:OA)(g:Nat)(E:OA)(F:Nat)(G:LP)(H:LN)(f:Int)(J:Bool)(L:OA)(M N:Nat)(O:Bool)(Q:OA)(R S:Nat)(T:Bool)(V:OA)(W X:Nat)(m:aJ):Prop:=
 ∃ (i:LP) (n:LN),i [I 0,I 0] m/\
 ∀ d a b,i [I d,I a] b->Bd (a<(g:Int)) (∃ c,Ax l c a g <| ∃ (o:Int) (p:Int) (q:Int) (r:Int) (s:Int) (t:Int) (u:Bool) (v:OA) (w x:Nat) (y:Bool) (z:OA) (A B:Nat),b.cell? (aC (c.add (a.toNat*10)) 0)=some (I o)/\b.cell? (aC (c.add (a.toNat*10)) 1)=some (I p)/\b.cell? (aC (c.add (a.toNat*10)) 2)=some (I q)/\b.cell? (aC (c.add (a.toNat*10)) 3)=some (I r)/\b.cell? (aC (c.add (a.toNat*10)) 4)=some (I s)/\b.cell? (aC (c.add (a.toNat*10)) 5)=some (I t)/\b.cell? (aC (c.add (a.toNat*10)) 6)=some (.bool u)/\b.cell? (aC (c.add (a.toNat*10)) 7)=some (.slice v w x)/\b.cell? (aC (c.add (a.toNat*10)) 8)=some (.bool y)/\b.cell? (aC (c.add (a.toNat*10)) 9)=some (.slice z A B)/\wpH P (Instr.alloc 261 true (T0)) (fun Z a0=>∃ (j:Addr),Z=Pt j/\wpH P (aE 261 (Pt j) (.agg #[I o,I p,I q,I r,I s,I t,.bool u,Sl v w x,.bool y,Sl z A B])) (fun _ k=>(0<=f/\f<(6:Int))/\∃ e,k.cell? (aC (j.add 0) (f.toNat*1))=some (I e)/\i [I (if e>d then e else d),I (B4 (a+1))] k/\n [I (if e>d then e else d),I (B4 (a+1))] k<n [I d,I a] b) a0) b)
 (wpH P (aH 220 (I (B4 (d+1))) (I (B4 (d+1)))) (fun a1 a2=>∃ C D a3,a1=Sl C D a3/\Nc P l g E F G H f J L M N O Q R S T V W X d C D a2 m) b)
def Na(P:aF)(K:VP)(B:OA)(e:Nat)(C:Bool)(D:OA)(E F:Nat)(f:Addr)(G:aJ):Prop:=
 ∃ (c:LP) (g:LN),c [I 0] G/\
 ∀ a b,c [I a] b->Bd (a<(e:Int)) (∃ k,Ax B k a e <| ∃ l m n o,Lz b (k.add (a.toNat*2)) l m n o<|aD P A84 #[Pt f,Zv l m n o] b (fun H i=>H=T0/\c [I (B4 (a+1))] i/\g [I (B4 (a+1))] i<g [I a] b))
 (aD P Xb #[Pt f] b (fun J d=>∃ p q r s,J=Zv p q r s/\b.le d/\aD P Ir #[Zv p q r s,Zv C D E F] d (fun L j=>∃ t u v w x y z A,L=Qv t u v w x y z A/\d.le j/\K (Qv t u v w x y z A) j)))
def Si(P:aF)(v:OA)(w:Nat)(x:OA)(i:Nat)(K:VP)(y:Bool)(z:OA)(A B:Nat)(j:OA)(k:Nat)(C:aJ):Prop:=
 ∃ (c:LP) (D:LN),c [I 0,.bool y,.slice z A B] C/\
 ∀ a d e f g b,c [I a,.bool d,.slice e f g] b->Bd (a<(i:Int)) (∃ m,Ax x m a i <| ∃ n o p q r s t u,Lq b (m.add (a.toNat*4)) n o p q r s t u<|Nd P v w j k c D a d e f g n o p q r s t u b)
 (wpH P (Instr.alloc 265 true (T0)) (fun E F=>∃ (l:Addr),E=Pt l/\Na P K j k d e f g l F) b)
def A9x(P:aF)(e:OA)(d C:Nat)(D:OA)(E W:Nat)(h:aJ)(K:VP):Prop:=
 aD P O1 #[Sl e d C] h (fun N O=>∃ g i j k,N=Zv g i j k/\wpH P (aH 220 (I (d:Int)) (I (d:Int))) (fun Q R=>∃ l m V,Q=Sl l m V/\∃ (f:LP) (n:LN),f [I 0] R/\
 ∀ a b,f [I a] b->Bd (a<(d:Int)) (∃ c,Ax e c a d <| ∃ (F:Int) (G:Int) (H:Int) (J:Int) (L:Int) (M:Int) (o:Bool) (p:OA) (q r:Nat) (s:Bool) (t:OA) (u v:Nat),b.cell? (aC (c.add (a.toNat*10)) 0)=some (I F)/\b.cell? (aC (c.add (a.toNat*10)) 1)=some (I G)/\b.cell? (aC (c.add (a.toNat*10)) 2)=some (I H)/\b.cell? (aC (c.add (a.toNat*10)) 3)=some (I J)/\b.cell? (aC (c.add (a.toNat*10)) 4)=some (I L)/\b.cell? (aC (c.add (a.toNat*10)) 5)=some (I M)/\b.cell? (aC (c.add (a.toNat*10)) 6)=some (.bool o)/\b.cell? (aC (c.add (a.toNat*10)) 7)=some (.slice p q r)/\b.cell? (aC (c.add (a.toNat*10)) 8)=some (.bool s)/\b.cell? (aC (c.add (a.toNat*10)) 9)=some (.slice t u v)/\aD P Qw #[Qv o p q r s t u v,Zv g i j k] b (fun S T=>∃ x y z A,S=Zv x y z A/\∃ B,Ax l B a m<|wpH P (aE 138 (Pt (B.add (a.toNat*2))) (Zv x y z A)) (fun _ w=>f [I (B4 (a+1))] w/\n [I (B4 (a+1))] w<n [I a] b) T))
 (Si P e d D E K g i j k l m b)) O)
def A5s a b c d e f(hvc:A9x prog a b c d e f h K):aD prog Qy #[Sl a b c,Sl d e f] h K:=
 fnk func111 ⟨[(4,⟨[28],[],[I 0],⟨([7,8]++Lrg 28 13),[8]⟩⟩),(9,⟨[43],[(5,2)],[I 0,.bool false,N0],⟨([9,10,11,13,14,15,16,17]++Lrg 43 74),[5,10]⟩⟩),(13,⟨[11,50],[],[I 0,I 0],⟨([11,13]++Lrg 50 11),[]⟩⟩),(19,⟨[66],[],[I 0],⟨([15]++Lrg 66 20),[]⟩⟩),(24,⟨[88],[],[I 0],⟨([16,17]++Lrg 88 21),[]⟩⟩),(32,⟨[119],[],[I 0],⟨[20,119,120,121,122,123,124,125],[20]⟩⟩)],[],[(21,([0,1,2,4,5,7,9,10,11,12,3,6,8,13,14,15,16],[])),(28,([0,1,3,4,2,5,6,7],[])),(36,([1,0,2,3],[]))],[],[]⟩ [4,5,8,10,20] [204] hvc
def Sj(P:aF)(v:OA)(l B:Nat)(h:aJ)(K:VP):Prop:=
 ∃ (f:LP) (m:LN),f [N0,I 0] h/\
 ∀ c d e a b,f [.slice c d e,I a] b->Bd (a<(l:Int)) (∃ g,Ax v g a l <| ∃ (n o:ByteArray),b.cell? (aC (g.add (a.toNat*2)) 0)=some (.string n)/\b.cell? (aC (g.add (a.toNat*2)) 1)=some (.string o)/\aD P Mi #[.agg #[.string n,.string o]] b (fun w x=>∃ (p q:ByteArray),w= .agg #[.string p,.string q]/\wpH P (aG 25 1 #[(0,.agg #[.string p,.string q])]) (fun y z=>∃ s t u,y=Sl s t u/\wpH P (aI #[25,25] 25 #[Sl c d e,Sl s t u]) (fun A r=>∃ i j k,A=Sl i j k/\f [.slice i j k,I (B4 (a+1))] r/\m [.slice i j k,I (B4 (a+1))] r<m [.slice c d e,I a] b) z) x))
 (K (Sl c d e) b)
def Tk a b c(hvc:Sj prog a b c h K):aD prog Ea #[Sl a b c] h K:=
 fnk func36 { loops:=[(3,⟨[3,4],[],[N0,I 0],⟨(Lrg 3 16),[]⟩⟩)] } [] [] hvc
def Gk(P:aF)(d:Int)(g:OA)(i j:Nat)(e6:OA)(e7 e8:Nat)(G:OA)(m e9:Nat)(f0:Int)(h:aJ)(K:VP):Prop:=
 aD P Ea #[Sl e6 e7 e8] h (fun f1 f2=>∃ k b u,f1=Sl k b u/\aD P Eb #[.agg #[I d,Sl g i j],I 5,I 8] f2 (fun f3 d1=>∃ (H:Bool),f3= .bool H/\Br (!H) (aD P O8 #[] d1 (fun f4 f5=>∃ (J:Bool),f4= .bool J/\K (.bool J) f5))
 (aD P A2f #[.agg #[I d,Sl g i j],I 6,I 5] d1 (fun f6 r=>∃ (L:Bool),f6= .bool L/\Br (!L) (aD P O8 #[] r (fun f7 f8=>∃ (M:Bool),f7= .bool M/\K (.bool M) f8))
 (Bd ((b:Int)>6) (aD P O8 #[] r (fun f9 g0=>∃ (N:Bool),f9= .bool N/\K (.bool N) g0))
 (Br ((b:Int) != d) (aD P O8 #[] r (fun g1 g2=>∃ (O:Bool),g1= .bool O/\K (.bool O) g2))
 (aD P Xd #[Sl k b u] r (fun g3 w=>∃ (Q:Bool),g3= .bool Q/\Br (!Q) (aD P O8 #[] w (fun g4 g5=>∃ (R:Bool),g4= .bool R/\K (.bool R) g5))
 (Bd ((m:Int)>8) (aD P O8 #[] w (fun g6 g7=>∃ (S:Bool),g6= .bool S/\K (.bool S) g7))
 (aD P Xf #[I 8,Sl G m e9] w (fun g8 d2=>∃ (T:Bool),g8= .bool T/\Br (!T) (aD P O8 #[] d2 (fun g9 h0=>∃ (V:Bool),g9= .bool V/\K (.bool V) h0))
 (aD P X5 #[.agg #[I d,Sl g i j],.slice k b u] d2 (fun h1 x=>∃ (n o:ByteArray) (W:Int),h1= .tuple #[.agg #[.string n,.string o],I W]/\Br (W != 0) (aD P O8 #[] x (fun h2 h3=>∃ (X:Bool),h2= .bool X/\K (.bool X) h3))
 (Br ((b:Int)==0) (aD P O8 #[] x (fun h4 h5=>∃ (Z:Bool),h4= .bool Z/\K (.bool Z) h5))
 (∃ (p:LP) (q:LN),p [N0,I 0] x/\
 ∀ e f l a c,p [.slice e f l,I a] c->Bd (a<(b:Int)) (Bd (a<(m:Int)) (∃ d8,Ax G d8 a m <| ∃ (a0:ByteArray),c.cell? (d8.add (a.toNat*1))=some (.string a0)/\∃ y,Ax k y a b <| ∃ (a1 a2:ByteArray),c.cell? (aC (y.add (a.toNat*2)) 0)=some (.string a1)/\c.cell? (aC (y.add (a.toNat*2)) 1)=some (.string a2)/\aD P Xe #[.agg #[.string a1,.string a2],.string a0] c (fun h6 h7=>∃ (a3:ByteArray),h6= .string a3/\wpH P (aG 38 1 #[(0,.string a3)]) (fun h8 h9=>∃ d9 e0 e1,h8=Sl d9 e0 e1/\wpH P (aI #[38,38] 38 #[Sl e f l,Sl d9 e0 e1]) (fun i0 d3=>∃ z A B,i0=Sl z A B/\p [.slice z A B,I (B4 (a+1))] d3/\q [.slice z A B,I (B4 (a+1))] d3<q [.slice e f l,I a] c) h9) h7))
 (∃ C,Ax k C a b <| ∃ (a4 a5:ByteArray),c.cell? (aC (C.add (a.toNat*2)) 0)=some (.string a4)/\c.cell? (aC (C.add (a.toNat*2)) 1)=some (.string a5)/\aD P Xe #[.agg #[.string a4,.string a5],.string ({ data:=#[48] }:ByteArray)] c (fun i1 i2=>∃ (a6:ByteArray),i1= .string a6/\wpH P (aG 38 1 #[(0,.string a6)]) (fun i3 i4=>∃ e2 e3 e4,i3=Sl e2 e3 e4/\wpH P (aI #[38,38] 38 #[Sl e f l,Sl e2 e3 e4]) (fun i5 d4=>∃ D E F,i5=Sl D E F/\p [.slice D E F,I (B4 (a+1))] d4/\q [.slice D E F,I (B4 (a+1))] d4<q [.slice e f l,I a] c) i4) i2)))
 (aD P Xc #[.agg #[I d,Sl g i j],.slice e f l] c (fun i6 d5=>∃ (a7:ByteArray) (a8:Int),i6= .tuple #[.string a7,I a8]/\Br (a8 != 0) (K (.bool false) d5)
 (aD P R8 #[.agg #[.string n,.string o],.string a7] d5 (fun i7 d6=>∃ (a9:Bool),i7= .bool a9/\Br (!a9) (K (.bool false) d6)
 (aD P A89 #[I f0,I (b:Int)] d6 (fun i8 d7=>∃ v,i8=I v/\∃ e5,Ax e e5 v f <| ∃ (b0:ByteArray),d7.cell? (e5.add (v.toNat*1))=some (.string b0)/\aD P Rc #[Sl k b u,I v,.string b0] d7 (fun i9 j0=>∃ (b1:OA) (b2 b3:Nat) (b4:OA) (b5 b6:Nat) (b7:Int),i9= .tuple #[Sl b1 b2 b3,Sl b4 b5 b6,I b7]/\aD P X5 #[.agg #[I d,Sl g i j],.slice b1 b2 b3] j0 (fun j1 j2=>∃ (b8 b9:ByteArray) (c0:Int),j1= .tuple #[.agg #[.string b8,.string b9],I c0]/\aD P X5 #[.agg #[I d,Sl g i j],.slice b4 b5 b6] j2 (fun j3 s=>∃ (c1 c2:ByteArray) (c3:Int),j3= .tuple #[.agg #[.string c1,.string c2],I c3]/\Br (b7 != 0) (K (.bool false) s)
 (Br (c0 != 0) (K (.bool false) s)
 (Br (c3 != 0) (K (.bool false) s)
 (aD P Pi #[.agg #[.string b8,.string b9],.agg #[.string c1,.string c2]] s (fun j4 j5=>∃ (c4 c5:ByteArray) (c6:Int),j4= .tuple #[.agg #[.string c4,.string c5],I c6]/\aD P Pi #[.agg #[.string c4,.string c5],.agg #[.string n,.string o]] j5 (fun j6 t=>∃ (c7 c8:ByteArray) (c9:Int),j6= .tuple #[.agg #[.string c7,.string c8],I c9]/\Br (c6==0) (Br (c9==0) (Br ((c7.toList==n.toList)&&((c8.toList==o.toList)&&true)) (aD P O8 #[] t (fun j7 j8=>∃ (d0:Bool),j7= .bool d0/\K (.bool d0) j8))
 (K (.bool false) t))
 (K (.bool false) t))
 (K (.bool false) t))))))))))))))))))))))))))))))
def Lg a b c d e f g i j k l(hvc:Gk prog a b c d e f g i j k l h K):aD prog Cv #[.agg #[I a,Sl b c d],.slice e f g,.slice i j k,I l] h K:=
 fnk func6 { loops:=[(9,⟨[11,12],[],[N0,I 0],⟨([11,12,13]++Lrg 76 23),[]⟩⟩)] } [4,9,18,20,22,23] [] hvc
