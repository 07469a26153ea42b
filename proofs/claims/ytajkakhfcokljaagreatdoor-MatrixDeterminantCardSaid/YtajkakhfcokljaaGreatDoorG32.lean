/-
  Texts of this proof, merged by a program of ours.
-/
import Derived.Test.YtajkakhfcokljaaGreatDoorProg
import Derived.Test.YtajkakhfcokljaaGreatDoorG05
import Derived.Test.YtajkakhfcokljaaGreatDoorG06
import Derived.Test.YtajkakhfcokljaaGreatDoorG13
import Derived.Test.YtajkakhfcokljaaGreatDoorG07
import Derived.Test.YtajkakhfcokljaaGreatDoorG10
import Derived.Test.YtajkakhfcokljaaGreatDoorG27
import Derived.Test.YtajkakhfcokljaaGreatDoorG09
import Derived.Test.YtajkakhfcokljaaGreatDoorG29
open Go.Proofs.Tryz
set_option linter.all false
open _root_.Go.Instr renaming storeAt->B8h
open Int renaming tmod->B8g
namespace Go.Proofs.YtajkakhfcokljaaGreatDoor
open Go
set_option maxRecDepth 100000
variable {h:Heap} {K:VP}
abbrev Bq:Nat:=82
abbrev Lk:Nat:=28
abbrev Xq:Nat:=30
abbrev Kj:Nat:=162
abbrev Up:Nat:=161
abbrev Iv:Nat:=87
abbrev B0q:Nat:=31
abbrev Uq:Nat:=88
abbrev Hd:Nat:=90
abbrev El:Nat:=89
abbrev Wg:Nat:=44
abbrev Ci:Nat:=45
theorem B44:SliceT prog Wg Ci (.slice none 0 0) 1 24:=⟨by kernel_rfl,by kernel_rfl,rfl,by decide⟩
def A2c(P:Program)(b:Int)(h:Heap)(K:VP):Prop:=
 Br (decide (b<(2:Int))) (K (.bool false) h)
 (Br (decide (b>(2147483647:Int))) (K (.bool false) h)
 (Br ((B8g b (2:Int))==(0:Int)) (K (.bool (b==(2:Int))) h)
 (∃ (d:LP) (e:LN),d [I 3] h/\
 ∀ a c,d [I a] c->Br (decide ((B5 (a*a))<=b)) (Br (decide (a=0)) False
 (Br ((B8g b a)==(0:Int)) (K (.bool false) c)
 (d [I (B5 (a+2))] c/\e [I (B5 (a+2))] c<e [I a] c)))
 (K (.bool true) c))))
theorem A13 a(hvc:A2c prog a h K):FCall prog Bq #[I a] h K:=
 C6 bod func82 [.tmp 2] { loops:=[(6,⟨[3],[],[.int .i64 0],⟨([2,3]++Lrg 15 11),[]⟩⟩)] } 26 [] [] [] (by kernel_rfl) hvc
def St(P:Program)(e:Int)(h:Heap)(K:VP):Prop:=
 ∃ (c:LP) (f:LN),c [I (if (1:Int)>e then (1:Int) else e)] h/\
 ∀ a b,c [I a] b->Br (decide (a<(2147483647:Int))) (FCall P Bq #[I (B5 (a+1))] b (fun i d=>∃ (g:Bool),i= .bool g/\Br g (K (.tuple #[I (B5 (a+1)),.bool true]) d)
 (c [I (B5 (a+1))] d/\f [I (B5 (a+1))] d<f [I a] b)))
 (K (.tuple #[I 0,.bool false]) b)
theorem Vq a(hvc:St prog a h K):FCall prog Lk #[I a] h K:=
 C6 bod func28 [.tmp 2,.tmp 3] { loops:=[(2,⟨[4],[],[.int .i64 0],⟨[2,3,4,7,8,9,10,11,12,13],[]⟩⟩)] } 14 [] [82] [] (by kernel_rfl) hvc
def A7n(P:Program)(A:ByteArray)(a:Int)(h:Heap)(K:VP):Prop:=
 FCall P Bq #[I a] h (fun B v=>∃ (l:Bool),B= .bool l/\Br (!l) (K (.tuple #[I 0,.bool false]) v)
 (FCall P Oy #[.string A] v (fun C w=>∃ (b:Bool) (c:OA) (d e:Nat) (f:Bool) (g:OA) (i j:Nat) (m:Bool),C= .tuple #[.agg #[.bool b,.slice c d e,.bool f,.slice g i j],.bool m]/\Br (!m) (K (.tuple #[I 0,.bool false]) w)
 (FCall P Oz #[.agg #[.bool b,.slice c d e,.bool f,.slice g i j]] w (fun D E=>∃ (n:Bool) (o:OA) (p q:Nat),D= .agg #[.bool n,.slice o p q]/\FCall P Fv #[.agg #[.bool n,.slice o p q],U (C3 a)] E (fun F x=>∃ k,F=U k/\Br (k==(0:Int)) (K (.tuple #[I 0,.bool false]) x)
 (FCall P B0p #[.agg #[.bool b,.slice c d e,.bool f,.slice g i j]] x (fun G H=>∃ (r:Bool) (s:OA) (t u:Nat),G= .agg #[.bool r,.slice s t u]/\FCall P Fv #[.agg #[.bool r,.slice s t u],U (C3 a)] H (fun J L=>∃ y,J=U y/\FCall P Iv #[U k,U (C3 a)] L (fun M N=>∃ z,M=U z/\Br (decide (C3 a=0)) False
 (K (.tuple #[I (B5 (B8g (C3 (y*z)) (C3 a))),.bool true]) N)))))))))))
theorem A3o a b(hvc:A7n prog a b h K):FCall prog Xq #[.string a,I b] h K:=
 C6 bod func30 [.tmp 4,.tmp 5] an0 39 [6] [82,83,84,85,86,87] [] (by kernel_rfl) hvc
def A2b(P:Program)(b:Int)(a:Int)(h:Heap)(K:VP):Prop:=
 Br (decide (a=0)) False
 (Br (decide ((B8g b a)<(0:Int))) (K (U (C3 (B5 ((B8g b a)+a)))) h)
 (K (U (C3 (B8g b a))) h))
theorem A12 a b(hvc:A2b prog a b h K):FCall prog Kj #[I a,I b] h K:=
 C6 bod func162 [.tmp 4] an0 16 [] [] [] (by kernel_rfl) hvc
def B1f(P:Program)(i:Int)(j:Int)(b:Int)(h:Heap)(K:VP):Prop:=
 ∃ (f:LP) (g:LN),f [U i,U j,U 1] h/\
 ∀ a c d e,f [U a,U c,U d] e->Br (decide (c>(0:Int))) (Br ((Qo .u64 c (1:Int))==(1:Int)) (Br (decide (b=0)) False
 (Br (decide (b=0)) False
 (f [U (B8g (C3 (a*a)) b),U (Int.fdiv c (2^(min ((1:Int)).toNat 64))),U (B8g (C3 (d*a)) b)] e/\g [U (B8g (C3 (a*a)) b),U (Int.fdiv c (2^(min ((1:Int)).toNat 64))),U (B8g (C3 (d*a)) b)] e<g [U a,U c,U d] e)))
 (Br (decide (b=0)) False
 (f [U (B8g (C3 (a*a)) b),U (Int.fdiv c (2^(min ((1:Int)).toNat 64))),U d] e/\g [U (B8g (C3 (a*a)) b),U (Int.fdiv c (2^(min ((1:Int)).toNat 64))),U d] e<g [U a,U c,U d] e)))
 (K (U d) e)
theorem A7o a b c(hvc:B1f prog a b c h K):FCall prog Up #[U a,U b,U c] h K:=
 C6 bod func161 [.tmp 6] { loops:=[(2,⟨[0,1,7],[],[.int .u64 0,.int .u64 0,.int .u64 0],⟨([0,1]++Lrg 7 18),[]⟩⟩)] } 26 [] [] [] (by kernel_rfl) hvc
def A7p(P:Program)(c:Int)(a:Int)(h:Heap)(K:VP):Prop:=
 FCall P Up #[U c,U (C3 (a-2)),U a] h (fun d e=>∃ b,d=U b/\K (U b) e)
theorem A3p a b(hvc:A7p prog a b h K):FCall prog Iv #[U a,U b] h K:=
 C6 bod func87 [.tmp 4] an0 10 [] [161] [] (by kernel_rfl) hvc
def B84(P:Program)(d:OA)(a e:Nat)(b:Int)(h:Heap)(K:VP):Prop:=
 FCall P Uq #[.slice d a e,I b,.bool true] h (fun n l=>∃ c,n=I c/\Br (c != (0:Int)) (K (.tuple #[I 0,I c]) l)
 (FCall P Hd #[.slice d a e,I b] l (fun o p=>∃ (f:OA) (g i:Nat),o= .slice f g i/\FCall P El #[.slice f g i,I (a:Int),U (C3 b)] p (fun q m=>∃ (j:Int) (k:Int),q= .tuple #[I j,U k]/\Br (decide (j<(a:Int))) (K (.tuple #[I 0,I 0]) m)
 (K (.tuple #[I (B5 k),I 0]) m)))))
theorem B3h a b c d(hvc:B84 prog a b c d h K):FCall prog B0q #[.slice a b c,I d] h K:=
 C6 bod func31 [.tmp 4,.tmp 5] an0 32 [] [88,89,90] [89] (by kernel_rfl) hvc
def B1g(P:Program)(i:OA)(a C:Nat)(t:Int)(u:Bool)(h:Heap)(K:VP):Prop:=
 FCall P Bq #[I t] h (fun B g=>∃ (l:Bool),B= .bool l/\Br (!l) (K (I 1) g)
 (Br ((a:Int)==(0:Int)) (K (I 4) g)
 (∃ q,i=some q/\0<=(0:Int)/\(0:Int)<(a:Int)/\∃ (v:OA) (f w:Nat),g.cell? (q.add (((0:Int)).toNat*1))=some (.slice v f w)/\Br ((f:Int)==(0:Int)) (K (I 4) g)
 (Br u (Br ((f:Int) != (a:Int)) (K (I 4) g)
 (∃ (j:LP) (m:LN),j [I 0] g/\
 ∀ d b,j [I d] b->Br (decide (d<(a:Int))) (∃ r,i=some r/\0<=d/\d<(a:Int)/\∃ (x:OA) (n y:Nat),b.cell? (r.add (d.toNat*1))=some (.slice x n y)/\Br ((n:Int) != (f:Int)) (K (I 4) b)
 (j [I (B5 (d+1))] b/\m [I (B5 (d+1))] b<m [I d] b))
 (Br (decide ((a:Int)>(64:Int))) (K (I 2) b)
 (Br (decide ((f:Int)>(64:Int))) (K (I 2) b)
 (K (I 0) b)))))
 (∃ (k:LP) (o:LN),k [I 0] g/\
 ∀ e c,k [I e] c->Br (decide (e<(a:Int))) (∃ s,i=some s/\0<=e/\e<(a:Int)/\∃ (z:OA) (p A:Nat),c.cell? (s.add (e.toNat*1))=some (.slice z p A)/\Br ((p:Int) != (f:Int)) (K (I 4) c)
 (k [I (B5 (e+1))] c/\o [I (B5 (e+1))] c<o [I e] c))
 (Br (decide ((a:Int)>(64:Int))) (K (I 2) c)
 (Br (decide ((f:Int)>(64:Int))) (K (I 2) c)
 (K (I 0) c))))))))
theorem A7q a b c d e(hvc:B1g prog a b c d e h K):FCall prog Uq #[.slice a b c,I d,.bool e] h K:=
 C6 bod func88 [.tmp 6] { loops:=[(9,⟨[33],[],[.int .i64 0],⟨([6,9]++Lrg 33 9),[]⟩⟩)] } 49 [] [82] [] (by kernel_rfl) hvc
def Ys(P:Program)(N:OA)(g a2:Nat)(O:Int)(h:Heap)(K:VP):Prop:=
 wpH P (Instr.makeSlice 137 (I (g:Int)) (I (g:Int))) (fun R S=>∃ (d:OA) (e m:Nat),R= .slice d e m/\∃ (j:LP) (n:LN),j [I 0] S/\
 ∀ a f,j [I a] f->Br (decide (a<(g:Int))) (∃ E,N=some E/\0<=a/\a<(g:Int)/\∃ (o:OA) (i Q:Nat),f.cell? (E.add (a.toNat*1))=some (.slice o i Q)/\wpH P (Instr.makeSlice 100 (I 0) (I (B5 ((i:Int)+1)))) (fun T V=>∃ (p:OA) (q r:Nat),T= .slice p q r/\∃ F,d=some F/\0<=a/\a<(e:Int)/\wpH P (B8h 100 (.pointer (some (F.add (a.toNat*1)))) (.slice p q r)) (fun _ W=>∃ (k:LP) (s:LN),k [I 0] W/\
 ∀ b c,k [I b] c->Br (decide (b<(i:Int))) (∃ G,o=some G/\0<=b/\b<(i:Int)/\∃ H,c.cell? (G.add (b.toNat*1))=some (I H)/\∃ J,d=some J/\0<=a/\a<(e:Int)/\∃ (t:OA) (u v:Nat),c.cell? (J.add (a.toNat*1))=some (.slice t u v)/\FCall P Kj #[I H,I O] c (fun X l=>∃ L,X=U L/\Heap.le c l/\wpH P (Instr.buildSlice 100 1 #[(0,U L)]) (fun Z C=>∃ (w:OA) (x y:Nat),Z= .slice w x y/\Heap.le l C/\wpH P (Builtin.append_ #[100,100] 100 #[.slice t u v,.slice w x y]) (fun a0 a1=>∃ (z:OA) (A B:Nat),a0= .slice z A B/\∃ M,d=some M/\0<=a/\a<(e:Int)/\wpH P (B8h 100 (.pointer (some (M.add (a.toNat*1)))) (.slice z A B)) (fun _ D=>k [I (B5 (b+1))] D/\s [I (B5 (b+1))] D<s [I b] c) a1) C) l))
 (j [I (B5 (a+1))] c/\n [I (B5 (a+1))] c<n [I a] f)) V) f)
 (K (.slice d e m) f)) h
theorem Yr a b c d(hvc:Ys prog a b c d h K):FCall prog Hd #[.slice a b c,I d] h K:=
 C6 bod func90 [.tmp 4] { loops:=[(3,⟨[15],[],[.int .i64 0],⟨([6,7,9]++Lrg 15 32),[]⟩⟩),(7,⟨[29],[],[.int .i64 0],⟨([9]++Lrg 29 17),[]⟩⟩)] } 48 [] [162] [1000000000] (by kernel_rfl) hvc
def Su(P:Program)(n:OA)(j c0:Nat)(c1:Int)(c:Int)(h:Heap)(K:VP):Prop:=
 ∃ (u:LP) (v:LN),u [I 0,U 1,I 0] h/\
 ∀ a l b r,u [I a,U l,I b] r->Br (decide (b<c1)) (∃ (z:LP) (G:LN),z [I a] r/\
 ∀ d f,z [I d] f->Br (decide (d>=(j:Int))) (u [I a,U l,I (B5 (b+1))] f/\v [I a,U l,I (B5 (b+1))] f<v [I a,U l,I b] r)
 (∃ X,n=some X/\0<=d/\d<(j:Int)/\∃ (H:OA) (J c2:Nat),f.cell? (X.add (d.toNat*1))=some (.slice H J c2)/\∃ Z,H=some Z/\0<=b/\b<(J:Int)/\∃ a0,f.cell? (Z.add (b.toNat*1))=some (U a0)/\Br (a0 != (0:Int)) (∃ (A:LP),(Br (d != a) (∃ a1,n=some a1/\0<=d/\d<(j:Int)/\∃ (L:OA) (M N:Nat),f.cell? (a1.add (d.toNat*1))=some (.slice L M N)/\∃ a2,n=some a2/\0<=a/\a<(j:Int)/\∃ (O:OA) (Q R:Nat),f.cell? (a2.add (a.toNat*1))=some (.slice O Q R)/\∃ a3,n=some a3/\0<=a/\a<(j:Int)/\wpH P (B8h 100 (.pointer (some (a3.add (a.toNat*1)))) (.slice L M N)) (fun _ c5=>∃ a4,n=some a4/\0<=d/\d<(j:Int)/\wpH P (B8h 100 (.pointer (some (a4.add (d.toNat*1)))) (.slice O Q R)) (fun _ c6=>Br (decide (c=0)) False
 (A [U (B8g (C3 (c-l)) c)] c6)) c5) f)
 (A [U l] f))/\
 ∀ D s,A [U D] s->∃ a5,n=some a5/\0<=a/\a<(j:Int)/\∃ (p:OA) (o c3:Nat),s.cell? (a5.add (a.toNat*1))=some (.slice p o c3)/\∃ a6,p=some a6/\0<=b/\b<(o:Int)/\∃ E,s.cell? (a6.add (b.toNat*1))=some (U E)/\Br (decide (c=0)) False
 (∃ a7,p=some a7/\0<=b/\b<(o:Int)/\∃ a8,s.cell? (a7.add (b.toNat*1))=some (U a8)/\FCall P Iv #[U a8,U c] s (fun c7 c8=>∃ a9,c7=U a9/\∃ (B:LP) (S:LN),B [I b] c8/\
 ∀ g t,B [I g] t->Br (decide (g<(o:Int))) (∃ b0,p=some b0/\0<=g/\g<(o:Int)/\∃ b1,t.cell? (b0.add (g.toNat*1))=some (U b1)/\Br (decide (c=0)) False
 (∃ b2,p=some b2/\0<=g/\g<(o:Int)/\wpH P (B8h 130 (.pointer (some (b2.add (g.toNat*1)))) (U (B8g (C3 (b1*a9)) c))) (fun _ V=>B [I (B5 (g+1))] V/\S [I (B5 (g+1))] V<S [I g] t) t))
 ((0<=B5 (a+1)/\B5 (a+1)<=(j:Int))/\∃ (w:LP) (x:LN),w [I 0] t/\
 ∀ i m,w [I i] m->Br (decide (i<((j-((B5 (a+1)).toNat):Nat):Int))) (∃ b3,J1 n c0 ((B5 (a+1)).toNat) 1=some b3/\0<=i/\i<((j-((B5 (a+1)).toNat):Nat):Int)/\∃ (y:OA) (q c4:Nat),m.cell? (b3.add (i.toNat*1))=some (.slice y q c4)/\∃ b4,y=some b4/\0<=b/\b<(q:Int)/\∃ F,m.cell? (b4.add (b.toNat*1))=some (U F)/\Br (decide (c=0)) False
 (∃ (C:LP) (T:LN),C [I b] m/\
 ∀ e k,C [I e] k->Br (decide (e<(q:Int))) (Br ((B8g (C3 (c-F)) c) != (0:Int)) (∃ b5,y=some b5/\0<=e/\e<(q:Int)/\∃ b6,k.cell? (b5.add (e.toNat*1))=some (U b6)/\∃ b7,p=some b7/\0<=e/\e<(o:Int)/\∃ b8,k.cell? (b7.add (e.toNat*1))=some (U b8)/\Br (decide (c=0)) False
 (∃ b9,y=some b9/\0<=e/\e<(q:Int)/\wpH P (B8h 130 (.pointer (some (b9.add (e.toNat*1)))) (U (B8g (C3 (b6+(C3 ((B8g (C3 (c-F)) c)*b8)))) c))) (fun _ W=>C [I (B5 (e+1))] W/\T [I (B5 (e+1))] W<T [I e] k) k))
 (w [I (B5 (i+1))] k/\x [I (B5 (i+1))] k<x [I i] m))
 (w [I (B5 (i+1))] k/\x [I (B5 (i+1))] k<x [I i] m)))
 (u [I (B5 (a+1)),U (B8g (C3 (D*E)) c),I (B5 (b+1))] m/\v [I (B5 (a+1)),U (B8g (C3 (D*E)) c),I (B5 (b+1))] m<v [I a,U l,I b] r)))))
 (z [I (B5 (d+1))] f/\G [I (B5 (d+1))] f<G [I d] f)))
 (K (.tuple #[I a,U l]) r)
theorem Vr a b c d e(hvc:Su prog a b c d e h K):FCall prog El #[.slice a b c,I d,U e] h K:=
 C6 bod func89 [.tmp 6,.tmp 7] ⟨[(3,⟨[8,9,20],[],[.int .i64 0,.int .u64 0,.int .i64 0],⟨([8,9,10,11,12,13,14,16,17,18]++Lrg 20 124),[]⟩⟩),(7,⟨[11],[],[.int .i64 0],⟨([11]++Lrg 24 14),[]⟩⟩),(16,⟨[14],[],[.int .i64 0],⟨([14]++Lrg 79 17),[]⟩⟩),(20,⟨[101],[],[.int .i64 0],⟨([16,17,18]++Lrg 101 40),[]⟩⟩),(24,⟨[18],[],[.int .i64 0],⟨([18]++Lrg 114 26),[]⟩⟩)],[(12,⟨[9],[],[.int .u64 0],⟨([9]++Lrg 38 22),[]⟩⟩)],[],[],[]⟩ 146 [] [87] [] (by kernel_rfl) hvc
end Go.Proofs.YtajkakhfcokljaaGreatDoor
