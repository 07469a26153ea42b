/-
  Texts of this proof, merged by a program of ours.
-/
import Derived.Test.YthilnfgnpdeofaaGreatDoorProg
import Derived.Test.YthilnfgnpdeofaaGreatDoorG05
import Derived.Test.YthilnfgnpdeofaaGreatDoorG12
import Derived.Test.YthilnfgnpdeofaaGreatDoorG06
import Derived.Test.YthilnfgnpdeofaaGreatDoorG09
import Derived.Test.YthilnfgnpdeofaaGreatDoorG26
import Derived.Test.YthilnfgnpdeofaaGreatDoorG08
namespace Go.Proofs.YthilnfgnpdeofaaGreatDoor
open Go
set_option maxRecDepth 100000
set_option linter.unusedVariables false
variable {h:Heap} {K:Value->Heap->Prop}
abbrev Gv:Nat:=79
abbrev Co:Nat:=81
abbrev Q4:Nat:=132
abbrev Wj:Nat:=96
abbrev Qs:Nat:=133
abbrev B91:Nat:=43
abbrev If:Nat:=108
abbrev Qv:Nat:=67
abbrev Ws:Nat:=71
abbrev C0f:Nat:=49
abbrev B5m:Nat:=51
abbrev C19:Nat:=54
abbrev B3l:Nat:=45
abbrev C0h:Nat:=57
abbrev C0e:Nat:=60
abbrev B6v:Nat:=116
abbrev B93:Nat:=46
abbrev C0g:Nat:=33
abbrev B95:Nat:=35
abbrev B3m:Nat:=94
abbrev B6t:Nat:=91
abbrev Qu:Nat:=15
abbrev B9p:Nat:=17
abbrev A8b:Nat:=37
abbrev B6u:Nat:=39
abbrev Wt:Nat:=23
abbrev B7l:Nat:=18
abbrev C18:Nat:=41
abbrev Kn:Nat:=80
abbrev B1w:Nat:=111
abbrev Dv:Nat:=82
abbrev B92:Nat:=92
abbrev U2:Nat:=68
abbrev Ko:Nat:=76
abbrev A2c:Nat:=102
abbrev Xa:Nat:=101
abbrev Xb:Nat:=104
abbrev Cp:Nat:=69
abbrev B9b:Nat:=270
abbrev Wu:Nat:=131
abbrev Fo:Nat:=174
abbrev B5n:Nat:=74
abbrev B94:Nat:=141
abbrev B7m:Nat:=113
abbrev B7k:Nat:=114
abbrev B9q:Nat:=164
abbrev B97:Nat:=53
abbrev Wx:Nat:=27
abbrev B9s:Nat:=73
abbrev Wy:Nat:=89
abbrev B9r:Nat:=115
abbrev A2b:Nat:=105
abbrev A2a:Nat:=31
abbrev B98:Nat:=93
abbrev A3s:Nat:=29
abbrev A8e:Nat:=30
abbrev Mm:Nat:=72
abbrev C0k:Nat:=50
abbrev B5p:Nat:=52
abbrev C1b:Nat:=55
abbrev B3q:Nat:=56
abbrev B6x:Nat:=58
abbrev B99:Nat:=61
abbrev C0l:Nat:=34
abbrev B9a:Nat:=36
abbrev B7n:Nat:=16
abbrev C0m:Nat:=38
abbrev B7p:Nat:=99
abbrev B6w:Nat:=40
abbrev B9t:Nat:=78
abbrev B7o:Nat:=19
abbrev Ig:Nat:=83
abbrev Ww:Nat:=24
abbrev C1a:Nat:=42
abbrev Pe:Nat:=22
abbrev Bw:Nat:=48
abbrev Gx:Nat:=25
abbrev A29:Nat:=21
abbrev B5o:Nat:=20
abbrev B3p:Nat:=44
abbrev C0i:Nat:=110
abbrev B96:Nat:=47
abbrev C0j:Nat:=64
abbrev Bm:Nat:=14
abbrev Wv:Nat:=13
abbrev B3o:Nat:=9
abbrev A8d:Nat:=10
abbrev A56:Nat:=5
abbrev A8c:Nat:=3
abbrev A6b:Nat:=6
abbrev Hj:Nat:=4
abbrev B1x:Nat:=8
abbrev A11:Nat:=12
abbrev A6c:Nat:=11
abbrev B3n:Nat:=7
abbrev Uy:Nat:=185
abbrev Pm:Nat:=99
abbrev Lm:Nat:=90
abbrev B9f:Nat:=24
abbrev B9e:Nat:=126
abbrev De:Nat:=27
abbrev F1:Nat:=3
theorem B50:SliceT Tryz.prog De F1 (I 0) 1 8:=⟨by kernel_rfl,by kernel_rfl,rfl,by decide⟩
abbrev W8:Nat:=87
abbrev L3:Nat:=101
theorem B16:SliceT Tryz.prog W8 L3 (.agg #[.bool false,.slice none 0 0,.bool false,.slice none 0 0]) 4 64:=⟨by kernel_rfl,by kernel_rfl,rfl,by decide⟩
theorem Jf:Tryz.prog.cellsOf L3=4/\(Tryz.prog.info? L3).isSome=true:=⟨by kernel_rfl,by kernel_rfl⟩
abbrev Nm:Nat:=97
abbrev Ja:Nat:=94
theorem tZs:SliceT Tryz.prog Nm Ja (.agg #[.bool false,.slice none 0 0]) 2 32:=⟨by kernel_rfl,by kernel_rfl,rfl,by decide⟩
theorem A6w:Tryz.prog.cellsOf Ja=2/\(Tryz.prog.info? Ja).isSome=true:=⟨by kernel_rfl,by kernel_rfl⟩
abbrev Hp:Nat:=46
abbrev I8:Nat:=43
theorem B8x:SliceT Tryz.prog Hp I8 (.slice none 0 0) 1 24:=⟨by kernel_rfl,by kernel_rfl,rfl,by decide⟩
theorem Vb:Tryz.prog.cellsOf I8=1/\(Tryz.prog.info? I8).isSome=true:=⟨by kernel_rfl,by kernel_rfl⟩
abbrev B8v:Nat:=123
abbrev B6p:Nat:=126
abbrev B72:Nat:=71
abbrev B4u:Nat:=22
def A44(P:Program)(x:OA)(c B:Nat)(h:Heap)(K:Value->Heap->Prop):Prop:=
 wpH P (Instr.makeSlice 87 (I (c:Int)) (I (c:Int))) (fun y z=>∃ (d:OA) (e g:Nat),y= .slice d e g/\∃ (f:List Value->Heap->Prop) (i:List Value->Heap->Nat),f [I 0] z/\
 ∀ (a:Int),∀ b,f [I a] b->Br (decide (a<(c:Int))) (∃ v,x=some v/\0<=a/\a<(c:Int)/\∃ (j:ByteArray),b.cell? (v.add (a.toNat*1))=some (.string j)/\FCall P A25 #[.string j] b (fun A t=>∃ (k:Bool) (l:OA) (m n:Nat) (o:Bool) (p:OA) (q r:Nat) (s:Bool),A= .tuple #[.agg #[.bool k,.slice l m n,.bool o,.slice p q r],.bool s]/\Br (!s) (K (.tuple #[.slice none 0 0,.bool false]) t)
 (∃ w,d=some w/\0<=a/\a<(e:Int)/\wpH P (Instr.storeAt 101 (.pointer (some (w.add (a.toNat*4)))) (.agg #[.bool k,.slice l m n,.bool o,.slice p q r])) (fun _ u=>f [I (B4 (a+1))] u/\i [I (B4 (a+1))] u<i [I a] b) t)))
 (K (.tuple #[.slice d e g,.bool true]) b)) h
theorem A2r(a:OA)(b d:Nat)(hvc:A44 Tryz.prog a b d h K):FCall Tryz.prog Gv #[.slice a b d] h K:=
 B8 Tryz.func79 (c:=C2 Tryz.f79) (by kernel_rfl) (rs:=[.tmp 2,.tmp 3]) (by kernel_rfl) (fa:=⟨[(3,⟨[14],[],[.int .i64 0],⟨([2,3,5,6,7,8]++Lrg 14 17),[7]⟩⟩)],[],[],[],[]⟩)
  (cfg:=⟨32,[7],none,[112],[],false⟩) (args:=[.slice a b d]) (by kernel_rfl) (B0 Tryz.call112 Bodies.nil) (Eq.mp (by kernel_rfl) hvc)
def A43(P:Program)(v:OA)(d A:Nat)(h:Heap)(K:Value->Heap->Prop):Prop:=
 wpH P (Instr.makeSlice 22 (I (d:Int)) (I (d:Int))) (fun w x=>∃ (e:OA) (f i:Nat),w= .slice e f i/\∃ (g:List Value->Heap->Prop) (j:List Value->Heap->Nat),g [I 0] x/\
 ∀ (a:Int),∀ b,g [I a] b->Br (decide (a<(d:Int))) (∃ c,v=some c/\0<=a/\a<(d:Int)/\∃ (k:Bool) (l:OA) (m n:Nat) (o:Bool) (p:OA) (q r:Nat),b.cell? (Addr.add (c.add (a.toNat*4)) 0)=some (.bool k)/\b.cell? (Addr.add (c.add (a.toNat*4)) 1)=some (.slice l m n)/\b.cell? (Addr.add (c.add (a.toNat*4)) 2)=some (.bool o)/\b.cell? (Addr.add (c.add (a.toNat*4)) 3)=some (.slice p q r)/\FCall P Kf #[.agg #[.bool k,.slice l m n,.bool o,.slice p q r]] b (fun y z=>∃ (s:ByteArray),y= .string s/\∃ u,e=some u/\0<=a/\a<(f:Int)/\wpH P (Instr.storeAt 9 (.pointer (some (u.add (a.toNat*1)))) (.string s)) (fun _ t=>g [I (B4 (a+1))] t/\j [I (B4 (a+1))] t<j [I a] b) z))
 (K (.slice e f i) b)) h
theorem A2q(a:OA)(b d:Nat)(hvc:A43 Tryz.prog a b d h K):FCall Tryz.prog Co #[.slice a b d] h K:=
 B8 Tryz.func81 (c:=C2 Tryz.f81) (by kernel_rfl) (rs:=[.tmp 2]) (by kernel_rfl) (fa:=⟨[(3,⟨[11],[],[.int .i64 0],⟨([4,5]++Lrg 11 11),[5]⟩⟩)],[],[],[],[]⟩)
  (cfg:=⟨23,[5],none,[95],[],false⟩) (args:=[.slice a b d]) (by kernel_rfl) (B0 Tryz.call95 Bodies.nil) (Eq.mp (by kernel_rfl) hvc)
def Bq(P:Program)(C:OA)(u O:Nat)(h:Heap)(K:Value->Heap->Prop):Prop:=
 FCall P Qr #[I 1] h (fun H J=>∃ (v:Bool) (w:OA) (x y:Nat),H= .agg #[.bool v,.slice w x y]/\∃ (i:List Value->Heap->Prop) (g:List Value->Heap->Nat),i [I 0,.bool v,.slice w x y] J/\
 ∀ (a:Int) (b:Bool) (c:OA) (d e:Nat),∀ f,i [I a,.bool b,.slice c d e] f->Br (decide (a<(u:Int))) (∃ j,C=some j/\0<=a/\a<(u:Int)/\∃ (D:Bool) (E:OA) (F G:Nat) (k:Bool) (l:OA) (m n:Nat),f.cell? (Addr.add (j.add (a.toNat*4)) 0)=some (.bool D)/\f.cell? (Addr.add (j.add (a.toNat*4)) 1)=some (.slice E F G)/\f.cell? (Addr.add (j.add (a.toNat*4)) 2)=some (.bool k)/\f.cell? (Addr.add (j.add (a.toNat*4)) 3)=some (.slice l m n)/\FCall P H8 #[.agg #[.bool k,.slice l m n]] f (fun L s=>∃ (z:Bool),L= .bool z/\Br (!z) (FCall P Wg #[.agg #[.bool k,.slice l m n],.agg #[.bool b,.slice c d e]] s (fun M t=>∃ (A:Bool),M= .bool A/\Br (!A) (FCall P A86 #[.agg #[.bool b,.slice c d e],.agg #[.bool k,.slice l m n]] t (fun N B=>∃ (o:Bool) (p:OA) (q r:Nat),N= .agg #[.bool o,.slice p q r]/\i [I (B4 (a+1)),.bool o,.slice p q r] B/\g [I (B4 (a+1)),.bool o,.slice p q r] B<g [I a,.bool b,.slice c d e] f))
 (i [I (B4 (a+1)),.bool b,.slice c d e] t/\g [I (B4 (a+1)),.bool b,.slice c d e] t<g [I a,.bool b,.slice c d e] f)))
 (i [I (B4 (a+1)),.bool b,.slice c d e] s/\g [I (B4 (a+1)),.bool b,.slice c d e] s<g [I a,.bool b,.slice c d e] f)))
 (K (.agg #[.bool b,.slice c d e]) f))
theorem Gf(a:OA)(b d:Nat)(hvc:Bq Tryz.prog a b d h K):FCall Tryz.prog Q4 #[.slice a b d] h K:=
 B8 Tryz.func132 (c:=C2 Tryz.f132) (by kernel_rfl) (rs:=[.cell 2 94]) (by kernel_rfl) (fa:=⟨[(3,⟨[9],[(3,2)],[.int .i64 0,.bool false,.slice none 0 0],⟨([5]++Lrg 9 20),[3,5]⟩⟩)],[],[],[],[]⟩)
  (cfg:=⟨30,[2,3,5],none,[100,135,175,176],[],false⟩) (args:=[.slice a b d]) (by kernel_rfl) (B0 Tryz.call100 (B0 Tryz.call135 (B0 Tryz.call175 (B0 Tryz.call176 Bodies.nil)))) (Eq.mp (by kernel_rfl) hvc)
def B46(P:Program)(a:Bool)(b:OA)(c d:Nat)(h:Heap)(K:Value->Heap->Prop):Prop:=
 K (.agg #[.bool a,.slice b c d,.bool false,.slice none 0 0]) h
theorem A9j(a:Bool)(b:OA)(d e:Nat)(hvc:B46 Tryz.prog a b d e h K):FCall Tryz.prog Wj #[.agg #[.bool a,.slice b d e]] h K:=
 B8 Tryz.func96 (c:=C2 Tryz.f96) (by kernel_rfl) (rs:=[.cell 2 101]) (by kernel_rfl) (fa:=⟨[],[],[],[],[]⟩)
  (cfg:=⟨5,[1,2],none,[],[],false⟩) (args:=[.agg #[.bool a,.slice b d e]]) (by kernel_rfl) Bodies.nil (Eq.mp (by kernel_rfl) hvc)
def A9r(P:Program)(c:Bool)(d:OA)(e f:Nat)(g:Bool)(i:OA)(j k:Nat)(l:Bool)(m:OA)(n o:Nat)(h:Heap)(K:Value->Heap->Prop):Prop:=
 FCall P H8 #[.agg #[.bool g,.slice i j k]] h (fun D a=>∃ (p:Bool),D= .bool p/\Br p (FCall P Qp #[.agg #[.bool c,.slice d e f],.agg #[.bool l,.slice m n o]] a (fun E F=>∃ (q:Bool) (r:OA) (s t:Nat),E= .agg #[.bool q,.slice r s t]/\K (.agg #[.bool q,.slice r s t]) F))
 (FCall P Kc #[.agg #[.bool l,.slice m n o],.agg #[.bool g,.slice i j k]] a (fun G b=>∃ (u:Bool) (v:OA) (w x:Nat),G= .agg #[.bool u,.slice v w x]/\Heap.le a b/\FCall P Qp #[.agg #[.bool c,.slice d e f],.agg #[.bool u,.slice v w x]] b (fun H C=>∃ (y:Bool) (z:OA) (A B:Nat),H= .agg #[.bool y,.slice z A B]/\Heap.le b C/\K (.agg #[.bool y,.slice z A B]) C))))
theorem A5s(a:Bool)(b:OA)(d e:Nat)(f:Bool)(g:OA)(i j:Nat)(k:Bool)(l:OA)(m n:Nat)(hvc:A9r Tryz.prog a b d e f g i j k l m n h K):FCall Tryz.prog Qs #[.agg #[.bool a,.slice b d e,.bool f,.slice g i j],.agg #[.bool k,.slice l m n]] h K:=
 B8 Tryz.func133 (c:=C2 Tryz.f133) (by kernel_rfl) (rs:=[.cell 4 94]) (by kernel_rfl) (fa:=⟨[],[],[(3,((Lrg 0 8),[[],[0],[],[],[3],[2,3,4],[0,1,2,3,4,5],[0,1,2,3,4,5,6]]))],[],[]⟩)
  (cfg:=⟨19,[2,3,4],none,[135,136,152],[],false⟩) (args:=[.agg #[.bool a,.slice b d e,.bool f,.slice g i j],.agg #[.bool k,.slice l m n]]) (by kernel_rfl) (B0 Tryz.call135 (B0 Tryz.call136 (B0 Tryz.call152 Bodies.nil))) (Eq.mp (by kernel_rfl) hvc)
def A0q(P:Program)(a:Int)(b:Int)(d:OA)(c e:Nat)(h:Heap)(K:Value->Heap->Prop):Prop:=
 Br (decide ((1:Int)<=a)) (Br (decide (a<=(64:Int))) (Br (decide ((1:Int)<=b)) (Br (decide (b<=(64:Int))) (K (.bool ((c:Int)==(B4 (a*b)))) h)
 (K (.bool false) h))
 (K (.bool false) h))
 (K (.bool false) h))
 (K (.bool false) h)
theorem A0p(a:Int)(b:Int)(d:OA)(e f:Nat)(hvc:A0q Tryz.prog a b d e f h K):FCall Tryz.prog If #[.agg #[I a,I b,.slice d e f]] h K:=
 B8 Tryz.func108 (c:=C2 Tryz.f108) (by kernel_rfl) (rs:=[.tmp 2]) (by kernel_rfl) (fa:=⟨[],[],[],[],[]⟩)
  (cfg:=⟨32,[1],none,[],[],false⟩) (args:=[.agg #[I a,I b,.slice d e f]]) (by kernel_rfl) Bodies.nil (Eq.mp (by kernel_rfl) hvc)
def B8m(P:Program)(k:Int)(l:Int)(a:OA)(b c:Nat)(h:Heap)(K:Value->Heap->Prop):Prop:=
 FCall P If #[.agg #[I k,I l,.slice a b c]] h (fun m j=>∃ (d:Bool),m= .bool d/\Br (!d) (K (.tuple #[.slice none 0 0,.bool false]) j)
 (FCall P Gv #[.slice a b c] j (fun n o=>∃ (e:OA) (f g:Nat) (i:Bool),n= .tuple #[.slice e f g,.bool i]/\K (.tuple #[.slice e f g,.bool i]) o)))
theorem B2y(a:Int)(b:Int)(d:OA)(e f:Nat)(hvc:B8m Tryz.prog a b d e f h K):FCall Tryz.prog Qv #[.agg #[I a,I b,.slice d e f]] h K:=
 B8 Tryz.func67 (c:=C2 Tryz.f67) (by kernel_rfl) (rs:=[.tmp 2,.tmp 3]) (by kernel_rfl) (fa:=⟨[],[],[],[],[]⟩)
  (cfg:=⟨12,[1],none,[79,108],[],false⟩) (args:=[.agg #[I a,I b,.slice d e f]]) (by kernel_rfl) (B0 Tryz.call79 (B0 Tryz.call108 Bodies.nil)) (Eq.mp (by kernel_rfl) hvc)
def B4f(P:Program)(d:Int)(e:Int)(f:OA)(g i:Nat)(h:Heap)(K:Value->Heap->Prop):Prop:=
 FCall P Co #[.slice f g i] h (fun j k=>∃ (a:OA) (b c:Nat),j= .slice a b c/\K (.agg #[I d,I e,.slice a b c]) k)
theorem B05(a:Int)(b:Int)(d:OA)(e f:Nat)(hvc:B4f Tryz.prog a b d e f h K):FCall Tryz.prog Ws #[I a,I b,.slice d e f] h K:=
 B8 Tryz.func71 (c:=C2 Tryz.f71) (by kernel_rfl) (rs:=[.cell 6 24]) (by kernel_rfl) (fa:=⟨[],[],[],[],[]⟩)
  (cfg:=⟨12,[6],none,[81],[],false⟩) (args:=[I a,I b,.slice d e f]) (by kernel_rfl) (B0 Tryz.call81 Bodies.nil) (Eq.mp (by kernel_rfl) hvc)
def B08(P:Program)(l:Int)(c:Int)(W:OA)(X Z:Nat)(h:Heap)(K:Value->Heap->Prop):Prop:=
 FCall P Qv #[.agg #[I l,I c,.slice W X Z]] h (fun a2 Q=>∃ (d:OA) (e f:Nat) (m:Bool),a2= .tuple #[.slice d e f,.bool m]/\Br (!m) (K (.tuple #[.agg #[I 0,I 0,.slice none 0 0],.slice none 0 0,I 1]) Q)
 (FCall P U2 #[.slice d e f,I c] Q (fun a3 a4=>∃ (g:OA),a3= .pointer g/\FCall P Cp #[.pointer g,I c] a4 (fun a5 R=>∃ (n:OA) (o p:Nat) (q:Bool) (r:OA) (s t:Nat) (a0:Int),a5= .tuple #[.slice n o p,.agg #[.bool q,.slice r s t],I a0]/\∃ T,g=some T/\∃ (u:OA) (i a1:Nat),R.cell? (T.add 1)=some (.slice u i a1)/\∃ (j:List Value->Heap->Prop) (v:List Value->Heap->Nat),j [I 0] R/\
 ∀ (a:Int),∀ b,j [I a] b->Br (decide (a<(i:Int))) (∃ k,u=some k/\0<=a/\a<(i:Int)/\∃ (w:Bool) (x:OA) (y z:Nat),b.cell? (Addr.add (k.add (a.toNat*2)) 0)=some (.bool w)/\b.cell? (Addr.add (k.add (a.toNat*2)) 1)=some (.slice x y z)/\FCall P U1 #[.agg #[.bool w,.slice x y z],.agg #[.bool q,.slice r s t]] b (fun a6 a7=>∃ (A:Bool) (B:OA) (C D:Nat) (E:Bool) (F:OA) (G H:Nat),a6= .agg #[.bool A,.slice B C D,.bool E,.slice F G H]/\∃ V,d=some V/\0<=a/\a<(e:Int)/\wpH P (Instr.storeAt 101 (.pointer (some (V.add (a.toNat*4)))) (.agg #[.bool A,.slice B C D,.bool E,.slice F G H])) (fun _ S=>j [I (B4 (a+1))] S/\v [I (B4 (a+1))] S<v [I a] b) a7))
 (FCall P Ws #[I l,I c,.slice d e f] b (fun a8 a9=>∃ (J:Int) (L:Int) (M:OA) (N O:Nat),a8= .agg #[I J,I L,.slice M N O]/\K (.tuple #[.agg #[I J,I L,.slice M N O],.slice n o p,I 0]) a9))))))
theorem A62(a:Int)(b:Int)(d:OA)(e f:Nat)(hvc:B08 Tryz.prog a b d e f h K):FCall Tryz.prog Qu #[.agg #[I a,I b,.slice d e f]] h K:=
 B8 Tryz.func15 (c:=C2 Tryz.f15) (by kernel_rfl) (rs:=[.cell 2 24,.tmp 3,.tmp 4]) (by kernel_rfl) (fa:=⟨[(7,⟨[38],[],[.int .i64 0],⟨([11,12]++Lrg 38 12),[12]⟩⟩)],[],[],[],[]⟩)
  (cfg:=⟨57,[1,2,9,12],none,[67,68,69,70,71],[69],false⟩) (args:=[.agg #[I a,I b,.slice d e f]]) (by kernel_rfl) (B0 Tryz.call67 (B0 Tryz.call68 (B0 Tryz.call69 (B0 Tryz.call70 (B0 Tryz.call71 Bodies.nil))))) (Eq.mp (by kernel_rfl) hvc)
def C11(P:Program)(n:Int)(d:Int)(d0:OA)(d1 d2:Nat)(h:Heap)(K:Value->Heap->Prop):Prop:=
 FCall P Qv #[.agg #[I n,I d,.slice d0 d1 d2]] h (fun d6 J=>∃ (M:OA) (N O:Nat) (Q:Bool),d6= .tuple #[.slice M N O,.bool Q]/\Br (!Q) (K (.tuple #[.string ({ data:=#[] }:ByteArray),I 1]) J)
 (Br (n != d) (K (.tuple #[.string ({ data:=#[] }:ByteArray),I 4]) J)
 (FCall P U2 #[.slice M N O,I d] J (fun d7 d8=>∃ (o:OA),d7= .pointer o/\FCall P Cp #[.pointer o,I d] d8 (fun d9 c6=>∃ (d3:OA) (R d4:Nat) (S:Bool) (T:OA) (V W:Nat) (X:Int),d9= .tuple #[.slice d3 R d4,.agg #[.bool S,.slice T V W],I X]/\Br (decide ((R:Int)<n)) (K (.tuple #[.string ({ data:=#[48] }:ByteArray),I 0]) c6)
 (FCall P Wj #[.agg #[.bool S,.slice T V W]] c6 (fun e0 c7=>∃ (p:Bool) (q:OA) (r s:Nat) (t:Bool) (u:OA) (v w:Nat),e0= .agg #[.bool p,.slice q r s,.bool t,.slice u v w]/\∃ (x:List Value->Heap->Prop),(Br (decide (X<(0:Int))) (FCall P A87 #[.agg #[.bool p,.slice q r s,.bool t,.slice u v w]] c7 (fun e1 e2=>∃ (Z:Bool) (a0:OA) (a1 a2:Nat) (a3:Bool) (a4:OA) (a5 a6:Nat),e1= .agg #[.bool Z,.slice a0 a1 a2,.bool a3,.slice a4 a5 a6]/\x [.bool Z,.slice a0 a1 a2,.bool a3,.slice a4 a5 a6] e2))
 (x [.bool p,.slice q r s,.bool t,.slice u v w] c7))/\
 ∀ (a7:Bool) (a8:OA) (a9 b0:Nat) (b1:Bool) (b2:OA) (b3 b4:Nat),∀ L,x [.bool a7,.slice a8 a9 b0,.bool b1,.slice b2 b3 b4] L->∃ c9,o=some c9/\∃ (b5:OA) (y d5:Nat),L.cell? (c9.add 2)=some (.slice b5 y d5)/\∃ (z:List Value->Heap->Prop) (b6:List Value->Heap->Nat),z [I 0,.bool a7,.slice a8 a9 b0,.bool b1,.slice b2 b3 b4] L/\
 ∀ (a:Int) (e:Bool) (f:OA) (g i:Nat) (j:Bool) (k:OA) (l m:Nat),∀ b,z [I a,.bool e,.slice f g i,.bool j,.slice k l m] b->Br (decide (a<(y:Int))) (∃ c,b5=some c/\0<=a/\a<(y:Int)/\∃ (b7:Bool) (b8:OA) (b9 c0:Nat) (c1:Bool) (c2:OA) (c3 c4:Nat),b.cell? (Addr.add (c.add (a.toNat*4)) 0)=some (.bool b7)/\b.cell? (Addr.add (c.add (a.toNat*4)) 1)=some (.slice b8 b9 c0)/\b.cell? (Addr.add (c.add (a.toNat*4)) 2)=some (.bool c1)/\b.cell? (Addr.add (c.add (a.toNat*4)) 3)=some (.slice c2 c3 c4)/\FCall P A89 #[.agg #[.bool e,.slice f g i,.bool j,.slice k l m],.agg #[.bool b7,.slice b8 b9 c0,.bool c1,.slice c2 c3 c4]] b (fun e3 c8=>∃ (A:Bool) (B:OA) (C D:Nat) (E:Bool) (F:OA) (G H:Nat),e3= .agg #[.bool A,.slice B C D,.bool E,.slice F G H]/\z [I (B4 (a+1)),.bool A,.slice B C D,.bool E,.slice F G H] c8/\b6 [I (B4 (a+1)),.bool A,.slice B C D,.bool E,.slice F G H] c8<b6 [I a,.bool e,.slice f g i,.bool j,.slice k l m] b))
 (FCall P Kf #[.agg #[.bool e,.slice f g i,.bool j,.slice k l m]] b (fun e4 e5=>∃ (c5:ByteArray),e4= .string c5/\K (.tuple #[.string c5,I 0]) e5)))))))))
theorem B6j(a:Int)(b:Int)(d:OA)(e f:Nat)(hvc:C11 Tryz.prog a b d e f h K):FCall Tryz.prog A8b #[.agg #[I a,I b,.slice d e f]] h K:=
 B8 Tryz.func37 (c:=C2 Tryz.f37) (by kernel_rfl) (rs:=[.tmp 2,.tmp 3]) (by kernel_rfl) (fa:=⟨[(14,⟨[53],[(10,4)],[.int .i64 0,.bool false,.slice none 0 0,.bool false,.slice none 0 0],⟨([12]++Lrg 53 8),[10,12]⟩⟩)],[(13,⟨[],[(10,4)],[.bool false,.slice none 0 0,.bool false,.slice none 0 0],⟨[44,45,46,47],[10]⟩⟩)],[],[],[]⟩)
  (cfg:=⟨63,[1,8,10,12],none,[67,68,69,95,96,97,98],[69],false⟩) (args:=[.agg #[I a,I b,.slice d e f]]) (by kernel_rfl) (B0 Tryz.call67 (B0 Tryz.call68 (B0 Tryz.call69 (B0 Tryz.call95 (B0 Tryz.call96 (B0 Tryz.call97 (B0 Tryz.call98 Bodies.nil))))))) (Eq.mp (by kernel_rfl) hvc)
def B4g(P:Program)(b:Int)(a:Int)(a0:OA)(a1 a2:Nat)(a3:OA)(m a4:Nat)(h:Heap)(K:Value->Heap->Prop):Prop:=
 FCall P Qv #[.agg #[I b,I a,.slice a0 a1 a2]] h (fun a6 a7=>∃ (d:OA) (e f:Nat) (n:Bool),a6= .tuple #[.slice d e f,.bool n]/\FCall P Gv #[.slice a3 m a4] a7 (fun a8 c=>∃ (g:OA) (i j:Nat) (o:Bool),a8= .tuple #[.slice g i j,.bool o]/\Br (!n) (K (.tuple #[.slice none 0 0,.slice none 0 0,I 1]) c)
 (Br (!o) (K (.tuple #[.slice none 0 0,.slice none 0 0,I 1]) c)
 (Br ((m:Int) != b) (K (.tuple #[.slice none 0 0,.slice none 0 0,I 4]) c)
 (FCall P Kn #[.slice d e f,I b,I a,.slice g i j] c (fun a9 V=>∃ (p:OA) (q r:Nat) (s:Bool),a9= .tuple #[.slice p q r,.bool s]/\Br s (FCall P Co #[.slice p q r] V (fun b0 b1=>∃ (t:OA) (u v:Nat),b0= .slice t u v/\K (.tuple #[.slice t u v,.slice none 0 0,I 0]) b1))
 (FCall P Dv #[.slice d e f,I b,I a] V (fun b2 b3=>∃ (w:OA) (x y:Nat),b2= .slice w x y/\wpH P (Builtin.append_ #[87,87] 87 #[.slice w x y,.slice g i j]) (fun b4 b5=>∃ (z:OA) (A B:Nat),b4= .slice z A B/\wpH P (Instr.makeSlice 87 (I (B4 (a+1))) (I (B4 (a+1)))) (fun b6 W=>∃ (k:OA) (l C:Nat),b6= .slice k l C/\FCall P Wl #[I 1] W (fun b7 X=>∃ (D:Bool) (E:OA) (F G:Nat) (H:Bool) (J:OA) (L M:Nat),b7= .agg #[.bool D,.slice E F G,.bool H,.slice J L M]/\Heap.le W X/\∃ Z,k=some Z/\0<=a/\a<(l:Int)/\wpH P (Instr.storeAt 101 (.pointer (some (Z.add (a.toNat*4)))) (.agg #[.bool D,.slice E F G,.bool H,.slice J L M])) (fun _ b8=>FCall P Kn #[.slice z A B,I (B4 (a+1)),I b,.slice k l C] b8 (fun b9 c0=>∃ (N:OA) (O Q:Nat) (a5:Bool),b9= .tuple #[.slice N O Q,.bool a5]/\FCall P Co #[.slice N O Q] c0 (fun c1 c2=>∃ (R:OA) (S T:Nat),c1= .slice R S T/\K (.tuple #[.slice none 0 0,.slice R S T,I 8]) c2))) X)) b5) b3))))))))
theorem B06(a:Int)(b:Int)(d:OA)(e f:Nat)(g:OA)(i j:Nat)(hvc:B4g Tryz.prog a b d e f g i j h K):FCall Tryz.prog Wt #[.agg #[I a,I b,.slice d e f],.slice g i j] h K:=
 B8 Tryz.func23 (c:=C2 Tryz.f23) (by kernel_rfl) (rs:=[.tmp 4,.tmp 5,.tmp 6]) (by kernel_rfl) (fa:=⟨[],[],[(12,([0,1,2,3,4,5],[[],[],[1],[],[0,1,2,3],[0,1,2,3,4]]))],[],[]⟩)
  (cfg:=⟨81,[2],none,[67,75,79,80,81,82],[],false⟩) (args:=[.agg #[I a,I b,.slice d e f],.slice g i j]) (by kernel_rfl) (B0 Tryz.call67 (B0 Tryz.call75 (B0 Tryz.call79 (B0 Tryz.call80 (B0 Tryz.call81 (B0 Tryz.call82 Bodies.nil)))))) (Eq.mp (by kernel_rfl) hvc)
def B07(P:Program)(c0:OA)(e1 p:Nat)(c1:Int)(b:Int)(c2:OA)(c3 e2:Nat)(h:Heap)(K:Value->Heap->Prop):Prop:=
 ∃ (q:List Value->Heap->Prop) (y:List Value->Heap->Nat),q [.slice none 0 0,I 0] h/\
 ∀ (i:OA) (j k:Nat) (a:Int),∀ o,q [.slice i j k,I a] o->Br (decide (a<c1)) ((0<=B4 ((B4 (a+1))*b)/\B4 ((B4 (a+1))*b)<=(p:Int))/\(0<=B4 (a*b)/\B4 (a*b)<=(((B4 ((B4 (a+1))*b)).toNat:Nat):Int))/\wpH P (Builtin.append_ #[87,87] 87 #[.slice i j k,.slice (J6 c0 p ((B4 (a*b)).toNat) 4) (((B4 ((B4 (a+1))*b)).toNat)-((B4 (a*b)).toNat)) (p-((B4 (a*b)).toNat))]) (fun c8 e=>∃ (z:OA) (A B:Nat),c8= .slice z A B/\∃ g,c2=some g/\0<=a/\a<(c3:Int)/\∃ (C:Bool) (D:OA) (E F:Nat) (G:Bool) (H:OA) (J L:Nat),e.cell? (Addr.add (g.add (a.toNat*4)) 0)=some (.bool C)/\e.cell? (Addr.add (g.add (a.toNat*4)) 1)=some (.slice D E F)/\e.cell? (Addr.add (g.add (a.toNat*4)) 2)=some (.bool G)/\e.cell? (Addr.add (g.add (a.toNat*4)) 3)=some (.slice H J L)/\wpH P (Instr.buildSlice 87 1 #[(0,.agg #[.bool C,.slice D E F,.bool G,.slice H J L])]) (fun c9 d0=>∃ (M:OA) (N O:Nat),c9= .slice M N O/\wpH P (Builtin.append_ #[87,87] 87 #[.slice z A B,.slice M N O]) (fun d1 b4=>∃ (r:OA) (s t:Nat),d1= .slice r s t/\q [.slice r s t,I (B4 (a+1))] b4/\y [.slice r s t,I (B4 (a+1))] b4<y [.slice i j k,I a] o) d0) e) o)
 (FCall P U2 #[.slice i j k,I (B4 (b+1))] o (fun d2 d3=>∃ (l:OA),d2= .pointer l/\FCall P Cp #[.pointer l,I b] d3 (fun d4 d5=>∃ (Q:OA) (m c4:Nat) (R:Bool) (S:OA) (T V:Nat) (c5:Int),d4= .tuple #[.slice Q m c4,.agg #[.bool R,.slice S T V],I c5]/\FCall P Xa #[.pointer l,I (m:Int),I b] d5 (fun d6 b5=>∃ (c6:Int) (W:Bool),d6= .tuple #[I c6,.bool W]/\Br W (K (.tuple #[.slice none 0 0,.bool false]) b5)
 (wpH P (Instr.makeSlice 87 (I b) (I b)) (fun d7 d8=>∃ (u:OA) (v X:Nat),d7= .slice u v X/\∃ (w:List Value->Heap->Prop) (Z:List Value->Heap->Nat),w [I 0] d8/\
 ∀ (c:Int),∀ d,w [I c] d->Br (decide (c<(m:Int))) (∃ b8,Q=some b8/\0<=c/\c<(m:Int)/\∃ (n:Int),d.cell? (b8.add (c.toNat*1))=some (I n)/\FCall P Ko #[.pointer l,I c] d (fun d9 f=>∃ (a0:OA) (a1 c7:Nat),d9= .slice a0 a1 c7/\Heap.le d f/\∃ x,a0=some x/\0<=b/\b<(a1:Int)/\∃ (a2:Bool) (a3:OA) (a4 a5:Nat),f.cell? (Addr.add (x.add (b.toNat*2)) 0)=some (.bool a2)/\f.cell? (Addr.add (x.add (b.toNat*2)) 1)=some (.slice a3 a4 a5)/\FCall P U1 #[.agg #[.bool a2,.slice a3 a4 a5],.agg #[.bool R,.slice S T V]] f (fun e0 b6=>∃ (a6:Bool) (a7:OA) (a8 a9:Nat) (b0:Bool) (b1:OA) (b2 b3:Nat),e0= .agg #[.bool a6,.slice a7 a8 a9,.bool b0,.slice b1 b2 b3]/\Heap.le f b6/\∃ b9,u=some b9/\0<=n/\n<(v:Int)/\wpH P (Instr.storeAt 101 (.pointer (some (b9.add (n.toNat*4)))) (.agg #[.bool a6,.slice a7 a8 a9,.bool b0,.slice b1 b2 b3])) (fun _ b7=>w [I (B4 (c+1))] b7/\Z [I (B4 (c+1))] b7<Z [I c] d) b6)))
 (K (.tuple #[.slice u v X,.bool true]) d)) b5)))))
theorem A61(a:OA)(b d:Nat)(e:Int)(f:Int)(g:OA)(i j:Nat)(hvc:B07 Tryz.prog a b d e f g i j h K):FCall Tryz.prog Kn #[.slice a b d,I e,I f,.slice g i j] h K:=
 B8 Tryz.func80 (c:=C2 Tryz.f80) (by kernel_rfl) (rs:=[.tmp 8,.tmp 9]) (by kernel_rfl) (fa:=⟨[(3,⟨[10,22],[],[.slice none 0 0,.int .i64 0],⟨([10,11]++Lrg 22 22),[]⟩⟩),(15,⟨[68],[],[.int .i64 0],⟨([19,20]++Lrg 68 17),[]⟩⟩)],[],[(17,([0,1,2,3,5,8,4,6,7,9,10,11],[[],[],[],[],[2,3],[],[2,3,4,5],[2,3,4,5,6],[],[2,3,4,5,6,7,8],(Lrg 0 10),(Lrg 0 11)]))],[],[]⟩)
  (cfg:=⟨86,[14],none,[68,69,70,76,101],[69],false⟩) (args:=[.slice a b d,I e,I f,.slice g i j]) (by kernel_rfl) (B0 Tryz.call68 (B0 Tryz.call69 (B0 Tryz.call70 (B0 Tryz.call76 (B0 Tryz.call101 Bodies.nil))))) (Eq.mp (by kernel_rfl) hvc)
def Sc(P:Program)(M:OA)(s V:Nat)(N:Int)(d:Int)(h:Heap)(K:Value->Heap->Prop):Prop:=
 wpH P (Instr.makeSlice 87 (I 0) (I (s:Int))) (fun O Q=>∃ (t:OA) (u v:Nat),O= .slice t u v/\∃ (n:List Value->Heap->Prop) (w:List Value->Heap->Nat),n [.slice t u v,I 0] Q/\
 ∀ (j:OA) (k l:Nat) (a:Int),∀ m,n [.slice j k l,I a] m->Br (decide (a<d)) (∃ (o:List Value->Heap->Prop) (x:List Value->Heap->Nat),o [.slice j k l,I 0] m/\
 ∀ (e:OA) (f g:Nat) (b:Int),∀ c,o [.slice e f g,I b] c->Br (decide (b<N)) (∃ i,M=some i/\0<=B4 ((B4 (b*d))+a)/\B4 ((B4 (b*d))+a)<(s:Int)/\∃ (y:Bool) (z:OA) (A B:Nat) (C:Bool) (D:OA) (E F:Nat),c.cell? (Addr.add (i.add ((B4 ((B4 (b*d))+a)).toNat*4)) 0)=some (.bool y)/\c.cell? (Addr.add (i.add ((B4 ((B4 (b*d))+a)).toNat*4)) 1)=some (.slice z A B)/\c.cell? (Addr.add (i.add ((B4 ((B4 (b*d))+a)).toNat*4)) 2)=some (.bool C)/\c.cell? (Addr.add (i.add ((B4 ((B4 (b*d))+a)).toNat*4)) 3)=some (.slice D E F)/\wpH P (Instr.buildSlice 87 1 #[(0,.agg #[.bool y,.slice z A B,.bool C,.slice D E F])]) (fun R S=>∃ (G:OA) (H J:Nat),R= .slice G H J/\wpH P (Builtin.append_ #[87,87] 87 #[.slice e f g,.slice G H J]) (fun T L=>∃ (p:OA) (q r:Nat),T= .slice p q r/\o [.slice p q r,I (B4 (b+1))] L/\x [.slice p q r,I (B4 (b+1))] L<x [.slice e f g,I b] c) S) c)
 (n [.slice e f g,I (B4 (a+1))] c/\w [.slice e f g,I (B4 (a+1))] c<w [.slice j k l,I a] m))
 (K (.slice j k l) m)) h
theorem Tg(a:OA)(b d:Nat)(e:Int)(f:Int)(hvc:Sc Tryz.prog a b d e f h K):FCall Tryz.prog Dv #[.slice a b d,I e,I f] h K:=
 B8 Tryz.func82 (c:=C2 Tryz.f82) (by kernel_rfl) (rs:=[.tmp 6]) (by kernel_rfl) (fa:=⟨[(3,⟨[7,14],[],[.slice none 0 0,.int .i64 0],⟨([7,8,9]++Lrg 14 20),[]⟩⟩),(6,⟨[7,18],[],[.slice none 0 0,.int .i64 0],⟨([7,9]++Lrg 18 15),[]⟩⟩)],[],[],[],[]⟩)
  (cfg:=⟨35,[],none,[],[],false⟩) (args:=[.slice a b d,I e,I f]) (by kernel_rfl) Bodies.nil (Eq.mp (by kernel_rfl) hvc)
def A0o(P:Program)(m3:OA)(m4 m5:Nat)(b7:Int)(h:Heap)(K:Value->Heap->Prop):Prop:=
 wpH P (Instr.box 99 (.agg #[I b7,.slice none 0 0,.slice none 0 0])) (fun n1 n2=>∃ (b8:Addr),n1= .pointer (some b8)/\wpH P (Instr.alloc 90 true (.tuple #[])) (fun n3 n4=>∃ (b:Addr),n3= .pointer (some b)/\wpH P (Instr.storeAt 90 (.pointer (some b)) (.pointer (some b8))) (fun _ n5=>FCall P Wu #[.slice m3 m4 m5,I b7] n5 (fun n6 n7=>∃ (b9:Value),n6=b9/\A47 P (b9) n7 (fun (m6:List Value) (m7:Heap) (x:Heap->Prop)=>∃ (W:OA) (y c0:Nat),m6=[.slice W y c0]/\FCall P Q4 #[.slice W y c0] m7 (fun n8 b4=>∃ (z:Bool) (A:OA) (B C:Nat),n8= .agg #[.bool z,.slice A B C]/\∃ (c1:OA),b4.cell? b=some (.pointer c1)/\∃ l0,c1=some l0/\∃ (m8:OA) (f m9:Nat),b4.cell? (l0.add 1)=some (.slice m8 f m9)/\∃ (s:List Value->Heap->Prop) (q:List Value->Heap->Nat),s [I 0,.bool false,.slice none 0 0] b4/\
 ∀ (a:Int) (g:Bool) (i:OA) (j k:Nat),∀ e,s [I a,.bool g,.slice i j k] e->Br (decide (a<(y:Int))) (∃ w,W=some w/\0<=a/\a<(y:Int)/\∃ (c2:Bool) (c3:OA) (c4 c5:Nat) (c6:Bool) (c7:OA) (c8 c9:Nat),e.cell? (Addr.add (w.add (a.toNat*4)) 0)=some (.bool c2)/\e.cell? (Addr.add (w.add (a.toNat*4)) 1)=some (.slice c3 c4 c5)/\e.cell? (Addr.add (w.add (a.toNat*4)) 2)=some (.bool c6)/\e.cell? (Addr.add (w.add (a.toNat*4)) 3)=some (.slice c7 c8 c9)/\FCall P Qs #[.agg #[.bool c2,.slice c3 c4 c5,.bool c6,.slice c7 c8 c9],.agg #[.bool z,.slice A B C]] e (fun n9 o0=>∃ (D:Bool) (E:OA) (F G:Nat),n9= .agg #[.bool D,.slice E F G]/\FCall P Tw #[.agg #[.bool g,.slice i j k],.agg #[.bool D,.slice E F G]] o0 (fun o1 p=>∃ (l:Bool) (m:OA) (n o:Nat),o1= .agg #[.bool l,.slice m n o]/\∃ (d0:OA),p.cell? b=some (.pointer d0)/\∃ l1,d0=some l1/\∃ (H:OA) (J L:Nat),p.cell? (l1.add 1)=some (.slice H J L)/\(∃ (d1:OA),p.cell? b=some (.pointer d1)/\wpH P (Instr.buildSlice 97 1 #[(0,.agg #[.bool D,.slice E F G])]) (fun o2 j8=>∃ (d2:OA) (d3 d4:Nat),o2= .slice d2 d3 d4/\Heap.le p j8/\wpH P (Builtin.append_ #[97,97] 97 #[.slice H J L,.slice d2 d3 d4]) (fun o3 o4=>∃ (d5:OA) (d6 d7:Nat),o3= .slice d5 d6 d7/\∃ l2,d1=some l2/\wpH P (Instr.storeAt 97 (.pointer (some (l2.add 1))) (.slice d5 d6 d7)) (fun _ j9=>s [I (B4 (a+1)),.bool l,.slice m n o] j9/\q [I (B4 (a+1)),.bool l,.slice m n o] j9<q [I a,.bool g,.slice i j k] e) o4) j8) p)/\(wpH P (Instr.buildSlice 97 1 #[(0,.agg #[.bool D,.slice E F G])]) (fun o5 S=>∃ (X:OA) (Z a0:Nat),o5= .slice X Z a0/\Heap.le p S/\(∃ (d8:OA),S.cell? b=some (.pointer d8)/\wpH P (Builtin.append_ #[97,97] 97 #[.slice H J L,.slice X Z a0]) (fun o6 o7=>∃ (d9:OA) (e0 e1:Nat),o6= .slice d9 e0 e1/\∃ l3,d8=some l3/\wpH P (Instr.storeAt 97 (.pointer (some (l3.add 1))) (.slice d9 e0 e1)) (fun _ k0=>s [I (B4 (a+1)),.bool l,.slice m n o] k0/\q [I (B4 (a+1)),.bool l,.slice m n o] k0<q [I a,.bool g,.slice i j k] e) o7) S)/\(wpH P (Builtin.append_ #[97,97] 97 #[.slice H J L,.slice X Z a0]) (fun o8 k1=>∃ (e2:OA) (e3 e4:Nat),o8= .slice e2 e3 e4/\∃ (e5:OA),k1.cell? b=some (.pointer e5)/\∃ l4,e5=some l4/\wpH P (Instr.storeAt 97 (.pointer (some (l4.add 1))) (.slice e2 e3 e4)) (fun _ k2=>s [I (B4 (a+1)),.bool l,.slice m n o] k2/\q [I (B4 (a+1)),.bool l,.slice m n o] k2<q [I a,.bool g,.slice i j k] e) k1) S)) p))))
 (∃ (a1:List Value->Heap->Prop),(FCall P H8 #[.agg #[.bool g,.slice i j k]] e (fun o9 k3=>∃ (e6:Bool),o9= .bool e6/\Br e6 (FCall P Qr #[I 1] k3 (fun p0 p1=>∃ (e7:Bool) (e8:OA) (e9 f0:Nat),p0= .agg #[.bool e7,.slice e8 e9 f0]/\a1 [.bool e7,.slice e8 e9 f0] p1))
 (a1 [.bool g,.slice i j k] k3)))/\
 ∀ (M:Bool) (N:OA) (O Q:Nat),∀ V,a1 [.bool M,.slice N O Q] V->∃ (f1:OA),V.cell? b=some (.pointer f1)/\∃ l5,f1=some l5/\∃ (f2:OA) (R f3:Nat),V.cell? (l5.add 1)=some (.slice f2 R f3)/\(0<=(f:Int)/\(f:Int)<=(R:Int))/\∃ (a2:List Value->Heap->Prop) (f4:List Value->Heap->Nat),a2 [I 0] V/\
 ∀ (d:Int),∀ c,a2 [I d] c->Br (decide (d<((R-(((f:Int)).toNat):Nat):Int))) (∃ b6,J6 f2 f3 (((f:Int)).toNat) 2=some b6/\0<=d/\d<((R-(((f:Int)).toNat):Nat):Int)/\∃ (f5:Bool) (f6:OA) (f7 f8:Nat),c.cell? (Addr.add (b6.add (d.toNat*2)) 0)=some (.bool f5)/\c.cell? (Addr.add (b6.add (d.toNat*2)) 1)=some (.slice f6 f7 f8)/\∃ (f9:OA),c.cell? b=some (.pointer f9)/\∃ l6,f9=some l6/\∃ (g0:OA) (g1 n0:Nat),c.cell? (l6.add 1)=some (.slice g0 g1 n0)/\FCall P Kc #[.agg #[.bool f5,.slice f6 f7 f8],.agg #[.bool M,.slice N O Q]] c (fun p2 k4=>∃ (g2:Bool) (g3:OA) (g4 g5:Nat),p2= .agg #[.bool g2,.slice g3 g4 g5]/\Heap.le c k4/\∃ l7,g0=some l7/\0<=B4 ((f:Int)+d)/\B4 ((f:Int)+d)<(g1:Int)/\wpH P (Instr.storeAt 94 (.pointer (some (l7.add ((B4 ((f:Int)+d)).toNat*2)))) (.agg #[.bool g2,.slice g3 g4 g5])) (fun _ k5=>a2 [I (B4 (d+1))] k5/\f4 [I (B4 (d+1))] k5<f4 [I d] c) k4))
 (∃ (g6:OA),c.cell? b=some (.pointer g6)/\∃ l8,g6=some l8/\∃ (t:OA) (u v:Nat),c.cell? (l8.add 2)=some (.slice t u v)/\(∃ (g7:OA),c.cell? b=some (.pointer g7)/\FCall P U1 #[.agg #[.bool z,.slice A B C],.agg #[.bool M,.slice N O Q]] c (fun p3 b5=>∃ (g8:Bool) (g9:OA) (h0 h1:Nat) (h2:Bool) (h3:OA) (h4 h5:Nat),p3= .agg #[.bool g8,.slice g9 h0 h1,.bool h2,.slice h3 h4 h5]/\Heap.le c b5/\wpH P (Instr.buildSlice 87 1 #[(0,.agg #[.bool g8,.slice g9 h0 h1,.bool h2,.slice h3 h4 h5])]) (fun p4 k6=>∃ (h6:OA) (h7 h8:Nat),p4= .slice h6 h7 h8/\Heap.le b5 k6/\wpH P (Builtin.append_ #[87,87] 87 #[.slice t u v,.slice h6 h7 h8]) (fun p5 p6=>∃ (h9:OA) (i0 i1:Nat),p5= .slice h9 i0 i1/\∃ l9,g7=some l9/\wpH P (Instr.storeAt 87 (.pointer (some (l9.add 2))) (.slice h9 i0 i1)) (fun _ p7=>x p7) p6) k6) b5))/\(FCall P U1 #[.agg #[.bool z,.slice A B C],.agg #[.bool M,.slice N O Q]] c (fun p8 r=>∃ (a3:Bool) (a4:OA) (a5 a6:Nat) (a7:Bool) (a8:OA) (a9 b0:Nat),p8= .agg #[.bool a3,.slice a4 a5 a6,.bool a7,.slice a8 a9 b0]/\Heap.le c r/\(∃ (i2:OA),r.cell? b=some (.pointer i2)/\wpH P (Instr.buildSlice 87 1 #[(0,.agg #[.bool a3,.slice a4 a5 a6,.bool a7,.slice a8 a9 b0])]) (fun p9 k7=>∃ (i3:OA) (i4 i5:Nat),p9= .slice i3 i4 i5/\Heap.le r k7/\wpH P (Builtin.append_ #[87,87] 87 #[.slice t u v,.slice i3 i4 i5]) (fun q0 q1=>∃ (i6:OA) (i7 i8:Nat),q0= .slice i6 i7 i8/\∃ m0,i2=some m0/\wpH P (Instr.storeAt 87 (.pointer (some (m0.add 2))) (.slice i6 i7 i8)) (fun _ q2=>x q2) q1) k7) r)/\(wpH P (Instr.buildSlice 87 1 #[(0,.agg #[.bool a3,.slice a4 a5 a6,.bool a7,.slice a8 a9 b0])]) (fun q3 T=>∃ (b1:OA) (b2 b3:Nat),q3= .slice b1 b2 b3/\Heap.le r T/\(∃ (i9:OA),T.cell? b=some (.pointer i9)/\wpH P (Builtin.append_ #[87,87] 87 #[.slice t u v,.slice b1 b2 b3]) (fun q4 q5=>∃ (j0:OA) (j1 j2:Nat),q4= .slice j0 j1 j2/\∃ m1,i9=some m1/\wpH P (Instr.storeAt 87 (.pointer (some (m1.add 2))) (.slice j0 j1 j2)) (fun _ q6=>x q6) q5) T)/\(wpH P (Builtin.append_ #[87,87] 87 #[.slice t u v,.slice b1 b2 b3]) (fun q7 k8=>∃ (j3:OA) (j4 j5:Nat),q7= .slice j3 j4 j5/\∃ (j6:OA),k8.cell? b=some (.pointer j6)/\∃ m2,j6=some m2/\wpH P (Instr.storeAt 87 (.pointer (some (m2.add 2))) (.slice j3 j4 j5)) (fun _ q8=>x q8) k8) T)) r)))))))
 (fun k9=>∃ (j7:OA),k9.cell? b=some (.pointer j7)/\K (.pointer j7) k9))) n4) n2) h
theorem A0n(a:OA)(b d:Nat)(e:Int)(hvc:A0o Tryz.prog a b d e h K):FCall Tryz.prog U2 #[.slice a b d,I e] h K:=
 B8 Tryz.func68 (c:=C2 Tryz.f68) (by kernel_rfl) (rs:=[.tmp 4]) (by kernel_rfl) (fa:={ loops:=[(8,⟨[31],[(9,2)],[.int .i64 0,.bool false,.slice none 0 0],⟨([11,12]++Lrg 31 21),[9,11,12]⟩⟩),(17,⟨[62],[],[.int .i64 0],⟨([13,14]++Lrg 62 17),[14]⟩⟩)],cuts:=[(16,⟨[],[(9,2)],[.bool false,.slice none 0 0],⟨[52,53,54],[9]⟩⟩)],orders:=[(12,([1,2,3,4,5,0,6,7,8,9,10],[[],[],[1],[1,2],[1,2,3],[],[5],[1,2,3,4,5,6],(Lrg 0 8),(Lrg 0 9),(Lrg 0 10)])),(19,((Lrg 0 12),[[],[0],[0,1],[0,1,2],[],[],[4,5],[],[],[7,8],(Lrg 0 10),(Lrg 0 11)])),(21,([1,2,3,4,5,6,0,7,8,9,10,11,12],[[],[],[1],[1,2],[1,2,3],[],[],[5,6],[5,6,7],(Lrg 1 8),(Lrg 0 10),(Lrg 0 11),(Lrg 0 12)]))],alts:=[(12,[(0,[6,7])]),(21,[(0,[7,8,9])])],rounds:=[(4,[.slice none 0 0])] })
  (cfg:=⟨92,[7,9,11,12,14],none,[70,100,131,132,133,134,135,136],[1000000000],false⟩) (args:=[.slice a b d,I e]) (by kernel_rfl) (B0 Tryz.call70 (B0 Tryz.call100 (B0 Tryz.call131 (B0 Tryz.call132 (B0 Tryz.call133 (B0 Tryz.call134 (B0 Tryz.call135 (B0 Tryz.call136 Bodies.nil)))))))) (Eq.mp (by kernel_rfl) hvc)
def C14(P:Program)(e:OA)(a:Int)(h:Heap)(K:Value->Heap->Prop):Prop:=
 ∃ g,e=some g/\∃ (f:OA) (k d:Nat),h.cell? (g.add 1)=some (.slice f k d)/\∃ i,e=some i/\∃ (b:Int),h.cell? (i.add 0)=some (I b)/\∃ j,e=some j/\∃ (c:Int),h.cell? (j.add 0)=some (I c)/\(0<=B4 ((B4 (a+1))*c)/\B4 ((B4 (a+1))*c)<=(d:Int))/\(0<=B4 (a*b)/\B4 (a*b)<=(((B4 ((B4 (a+1))*c)).toNat:Nat):Int))/\K (.slice (J6 f d ((B4 (a*b)).toNat) 2) (((B4 ((B4 (a+1))*c)).toNat)-((B4 (a*b)).toNat)) (d-((B4 (a*b)).toNat))) h
theorem B6m(a:OA)(b:Int)(hvc:C14 Tryz.prog a b h K):FCall Tryz.prog Ko #[.pointer a,I b] h K:=
 B8 Tryz.func76 (c:=C2 Tryz.f76) (by kernel_rfl) (rs:=[.tmp 4]) (by kernel_rfl) (fa:=⟨[],[],[(1,((Lrg 0 19),[[],[0],[0,1],[0,1,2],[],[],[5],[5,6],[5,6,7],[4,5,6,7,8],[],[10],[],[12],[12,13],[12,13,14],[10,11,12,13,14,15],(Lrg 0 17),(Lrg 0 18)]))],[],[]⟩)
  (cfg:=⟨23,[],none,[],[],false⟩) (args:=[.pointer a,I b]) (by kernel_rfl) Bodies.nil (Eq.mp (by kernel_rfl) hvc)
def B8s(P:Program)(e:OA)(c:Int)(d:Int)(h:Heap)(K:Value->Heap->Prop):Prop:=
 FCall P Ko #[.pointer e,I c] h (fun b6 b7=>∃ (j:OA) (i b0:Nat),b6= .slice j i b0/\FCall P Ko #[.pointer e,I d] b7 (fun b8 b9=>∃ (k:OA) (l b1:Nat),b8= .slice k l b1/\∃ (m:List Value->Heap->Prop) (p:List Value->Heap->Nat),m [I 0] b9/\
 ∀ (b:Int),∀ a,m [I b] a->Br (decide (b<(i:Int))) (∃ n,k=some n/\0<=b/\b<(l:Int)/\∃ (q:Bool) (r:OA) (s t:Nat),a.cell? (Addr.add (n.add (b.toNat*2)) 0)=some (.bool q)/\a.cell? (Addr.add (n.add (b.toNat*2)) 1)=some (.slice r s t)/\∃ o,j=some o/\0<=b/\b<(i:Int)/\∃ (u:Bool) (v:OA) (w x:Nat),a.cell? (Addr.add (o.add (b.toNat*2)) 0)=some (.bool u)/\a.cell? (Addr.add (o.add (b.toNat*2)) 1)=some (.slice v w x)/\∃ a2,j=some a2/\0<=b/\b<(i:Int)/\wpH P (Instr.storeAt 94 (.pointer (some (a2.add (b.toNat*2)))) (.agg #[.bool q,.slice r s t])) (fun _ c0=>∃ a3,k=some a3/\0<=b/\b<(l:Int)/\wpH P (Instr.storeAt 94 (.pointer (some (a3.add (b.toNat*2)))) (.agg #[.bool u,.slice v w x])) (fun _ a1=>m [I (B4 (b+1))] a1/\p [I (B4 (b+1))] a1<p [I b] a) c0) a)
 (∃ a4,e=some a4/\∃ (y:OA) (z b2:Nat),a.cell? (a4.add 2)=some (.slice y z b2)/\∃ a5,e=some a5/\∃ (A:OA) (B b3:Nat),a.cell? (a5.add 2)=some (.slice A B b3)/\∃ a6,e=some a6/\∃ (C:OA) (D b4:Nat),a.cell? (a6.add 2)=some (.slice C D b4)/\∃ f,C=some f/\0<=d/\d<(D:Int)/\∃ (E:Bool) (F:OA) (G H:Nat) (J:Bool) (L:OA) (M N:Nat),a.cell? (Addr.add (f.add (d.toNat*4)) 0)=some (.bool E)/\a.cell? (Addr.add (f.add (d.toNat*4)) 1)=some (.slice F G H)/\a.cell? (Addr.add (f.add (d.toNat*4)) 2)=some (.bool J)/\a.cell? (Addr.add (f.add (d.toNat*4)) 3)=some (.slice L M N)/\∃ a7,e=some a7/\∃ (O:OA) (Q b5:Nat),a.cell? (a7.add 2)=some (.slice O Q b5)/\∃ g,O=some g/\0<=c/\c<(Q:Int)/\∃ (R:Bool) (S:OA) (T V:Nat) (W:Bool) (X:OA) (Z a0:Nat),a.cell? (Addr.add (g.add (c.toNat*4)) 0)=some (.bool R)/\a.cell? (Addr.add (g.add (c.toNat*4)) 1)=some (.slice S T V)/\a.cell? (Addr.add (g.add (c.toNat*4)) 2)=some (.bool W)/\a.cell? (Addr.add (g.add (c.toNat*4)) 3)=some (.slice X Z a0)/\∃ a8,y=some a8/\0<=c/\c<(z:Int)/\wpH P (Instr.storeAt 101 (.pointer (some (a8.add (c.toNat*4)))) (.agg #[.bool E,.slice F G H,.bool J,.slice L M N])) (fun _ c1=>∃ a9,A=some a9/\0<=d/\d<(B:Int)/\wpH P (Instr.storeAt 101 (.pointer (some (a9.add (d.toNat*4)))) (.agg #[.bool R,.slice S T V,.bool W,.slice X Z a0])) (fun _ c2=>K (.tuple #[]) c2) c1) a)))
theorem B34(a:OA)(b:Int)(d:Int)(hvc:B8s Tryz.prog a b d h K):FCall Tryz.prog A2c #[.pointer a,I b,I d] h K:=
 B8 Tryz.func102 (c:=C2 Tryz.f102) (by kernel_rfl) (rs:=[]) (by kernel_rfl) (fa:=⟨[(2,⟨[17],[],[.int .i64 0],⟨([8]++Lrg 17 18),[]⟩⟩)],[],[(4,((Lrg 0 16),[[],[],[],[],[],[],[4,5],[4,5,6],[],[],[8,9],[8,9,10],([0,1]++Lrg 4 8),([0,1]++Lrg 4 9),(Lrg 0 14),(Lrg 0 15)])),(6,((Lrg 0 28),[[],[0],[0,1],[0,1,2],[],[],[5],[5,6],[5,6,7],[],[],[10],[10,11],[10,11,12],[],[10,11,12,13,14],[10,11,12,13,14,15],[],[17],[17,18],[17,18,19],[],[17,18,19,20,21],[17,18,19,20,21,22],(Lrg 0 9++Lrg 10 14),(Lrg 0 9++Lrg 10 15),(Lrg 0 26),(Lrg 0 27)]))],[],[]⟩)
  (cfg:=⟨61,[],none,[76],[],false⟩) (args:=[.pointer a,I b,I d]) (by kernel_rfl) (B0 Tryz.call76 Bodies.nil) (Eq.mp (by kernel_rfl) hvc)
def B8t(P:Program)(i:OA)(t:Int)(c:Int)(h:Heap)(K:Value->Heap->Prop):Prop:=
 ∃ (d:List Value->Heap->Prop) (j:List Value->Heap->Nat),d [I t] h/\
 ∀ (a:Int),∀ b,d [I a] b->∃ s,i=some s/\∃ (u:OA) (k v:Nat),b.cell? (s.add 2)=some (.slice u k v)/\Br (decide (a<(k:Int))) (FCall P Ko #[.pointer i,I a] b (fun x e=>∃ (l:OA) (m w:Nat),x= .slice l m w/\∃ g,l=some g/\0<=c/\c<(m:Int)/\∃ (n:Bool) (o:OA) (p q:Nat),e.cell? (Addr.add (g.add (c.toNat*2)) 0)=some (.bool n)/\e.cell? (Addr.add (g.add (c.toNat*2)) 1)=some (.slice o p q)/\FCall P H8 #[.agg #[.bool n,.slice o p q]] e (fun y f=>∃ (r:Bool),y= .bool r/\Br (!r) (K (.tuple #[I a,.bool true]) f)
 (d [I (B4 (a+1))] f/\j [I (B4 (a+1))] f<j [I a] b))))
 (K (.tuple #[I 0,.bool false]) b)
theorem B35(a:OA)(b:Int)(d:Int)(hvc:B8t Tryz.prog a b d h K):FCall Tryz.prog Xa #[.pointer a,I b,I d] h K:=
 B8 Tryz.func101 (c:=C2 Tryz.f101) (by kernel_rfl) (rs:=[.tmp 6,.tmp 7]) (by kernel_rfl) (fa:=⟨[(2,⟨[8],[],[.int .i64 0],⟨([6,7,8]++Lrg 10 18),[]⟩⟩)],[],[],[],[]⟩)
  (cfg:=⟨28,[],none,[76,135],[],false⟩) (args:=[.pointer a,I b,I d]) (by kernel_rfl) (B0 Tryz.call76 (B0 Tryz.call135 Bodies.nil)) (Eq.mp (by kernel_rfl) hvc)
def B4s(P:Program)(F:OA)(b4:Int)(b5:Int)(b:Int)(b6:Bool)(b7:OA)(b8 b9:Nat)(h:Heap)(K:Value->Heap->Prop):Prop:=
 FCall P Ko #[.pointer F,I b4] h (fun c2 c3=>∃ (i:OA) (e c0:Nat),c2= .slice i e c0/\FCall P Ko #[.pointer F,I b5] c3 (fun c4 v=>∃ (j:OA) (k c1:Nat),c4= .slice j k c1/\∃ A,i=some A/\0<=b/\b<(e:Int)/\∃ (m:Bool) (n:OA) (o p:Nat),v.cell? (Addr.add (A.add (b.toNat*2)) 0)=some (.bool m)/\v.cell? (Addr.add (A.add (b.toNat*2)) 1)=some (.slice n o p)/\∃ (f:List Value->Heap->Prop) (d:List Value->Heap->Nat),f [I 0] v/\
 ∀ (a:Int),∀ c,f [I a] c->Br (decide (a<(e:Int))) (∃ B,i=some B/\0<=a/\a<(e:Int)/\∃ (q:Bool) (r:OA) (s t:Nat),c.cell? (Addr.add (B.add (a.toNat*2)) 0)=some (.bool q)/\c.cell? (Addr.add (B.add (a.toNat*2)) 1)=some (.slice r s t)/\∃ (u:List Value->Heap->Prop),(FCall P H8 #[.agg #[.bool q,.slice r s t]] c (fun c5 a8=>∃ (G:Bool),c5= .bool G/\Br G (FCall P H8 #[.agg #[.bool m,.slice n o p]] a8 (fun c6 g=>∃ (H:Bool),c6= .bool H/\Br H (f [I (B4 (a+1))] g/\d [I (B4 (a+1))] g<d [I a] c)
 (∃ C,j=some C/\0<=a/\a<(k:Int)/\∃ (J:Bool) (L:OA) (M N:Nat),g.cell? (Addr.add (C.add (a.toNat*2)) 0)=some (.bool J)/\g.cell? (Addr.add (C.add (a.toNat*2)) 1)=some (.slice L M N)/\FCall P H8 #[.agg #[.bool J,.slice L M N]] g (fun c7 w=>∃ (O:Bool),c7= .bool O/\Br O (f [I (B4 (a+1))] w/\d [I (B4 (a+1))] w<d [I a] c)
 (u [] w)))))
 (u [] a8)))/\
 ∀ b2,u [] b2->wpH P (Instr.alloc 185 true (.tuple #[])) (fun c8 x=>∃ (l:Addr),c8= .pointer (some l)/\∃ D,j=some D/\0<=b/\b<(k:Int)/\∃ (Q:Bool) (R:OA) (S T:Nat),x.cell? (Addr.add (D.add (b.toNat*2)) 0)=some (.bool Q)/\x.cell? (Addr.add (D.add (b.toNat*2)) 1)=some (.slice R S T)/\FCall P Z8 #[.pointer (some l),.agg #[.bool Q,.slice R S T],.agg #[.bool q,.slice r s t]] x (fun c9 y=>c9= .tuple #[]/\∃ E,j=some E/\0<=a/\a<(k:Int)/\∃ (V:Bool) (W:OA) (X Z:Nat),y.cell? (Addr.add (E.add (a.toNat*2)) 0)=some (.bool V)/\y.cell? (Addr.add (E.add (a.toNat*2)) 1)=some (.slice W X Z)/\FCall P Dr #[.pointer (some l),.agg #[.bool m,.slice n o p],.agg #[.bool V,.slice W X Z]] y (fun d0 a9=>d0= .tuple #[]/\FCall P Wm #[.pointer (some l)] a9 (fun d1 z=>∃ (a0:Bool) (a1:OA) (a2 a3:Nat),d1= .agg #[.bool a0,.slice a1 a2 a3]/\Heap.le a9 z/\FCall P Kc #[.agg #[.bool a0,.slice a1 a2 a3],.agg #[.bool b6,.slice b7 b8 b9]] z (fun d2 b0=>∃ (a4:Bool) (a5:OA) (a6 a7:Nat),d2= .agg #[.bool a4,.slice a5 a6 a7]/\Heap.le z b0/\∃ b3,i=some b3/\0<=a/\a<(e:Int)/\wpH P (Instr.storeAt 94 (.pointer (some (b3.add (a.toNat*2)))) (.agg #[.bool a4,.slice a5 a6 a7])) (fun _ b1=>f [I (B4 (a+1))] b1/\d [I (B4 (a+1))] b1<d [I a] c) b0))))) b2)
 (K (.tuple #[]) c)))
theorem B0n(a:OA)(b:Int)(d:Int)(e:Int)(f:Bool)(g:OA)(i j:Nat)(hvc:B4s Tryz.prog a b d e f g i j h K):FCall Tryz.prog Xb #[.pointer a,I b,I d,I e,.agg #[.bool f,.slice g i j]] h K:=
 B8 Tryz.func104 (c:=C2 Tryz.f104) (by kernel_rfl) (rs:=[]) (by kernel_rfl) (fa:=⟨[(4,⟨[28],[],[.int .i64 0],⟨([13,14,15]++Lrg 28 37),[14]⟩⟩)],[(7,⟨[],[],[],⟨(Lrg 33 13),[]⟩⟩)],[(8,([0,1,2,3,4,5],[[],[],[0,1],[0,1,2],[],[0,1,2,3,4]])),(9,([0,1,2,3,4,5],[[],[],[],[1,2],[1,2,3],[0,1,2,3,4]])),(10,([0,1,3,2,4,5,6],[[],[],[],[],[2,3],[0,1,2,3,4],[0,1,2,3,4,5]]))],[],[]⟩)
  (cfg:=⟨65,[9,12,14],none,[76,135,136,150,151,160],[150,160],false⟩) (args:=[.pointer a,I b,I d,I e,.agg #[.bool f,.slice g i j]]) (by kernel_rfl) (B0 Tryz.call76 (B0 Tryz.call135 (B0 Tryz.call136 (B0 Tryz.call150 (B0 Tryz.call151 (B0 Tryz.call160 Bodies.nil)))))) (Eq.mp (by kernel_rfl) hvc)
def B0j(P:Program)(m:OA)(Z:Int)(h:Heap)(K:Value->Heap->Prop):Prop:=
 FCall P Qr #[I 1] h (fun a3 a4=>∃ (G:Bool) (H:OA) (J L:Nat),a3= .agg #[.bool G,.slice H J L]/\∃ (o:List Value->Heap->Prop) (p:List Value->Heap->Nat),o [.slice none 0 0,I 1,I 0,.bool G,.slice H J L] a4/\
 ∀ (e:OA) (b f:Nat) (d:Int) (a:Int) (g:Bool) (i:OA) (j k:Nat),∀ n,o [.slice e b f,I d,I a,.bool g,.slice i j k] n->Br (decide (a<Z)) (FCall P Xa #[.pointer m,I (b:Int),I a] n (fun a5 s=>∃ (t:Int) (M:Bool),a5= .tuple #[I t,.bool M]/\Br (!M) (o [.slice e b f,I d,I (B4 (a+1)),.bool g,.slice i j k] s/\p [.slice e b f,I d,I (B4 (a+1)),.bool g,.slice i j k] s<p [.slice e b f,I d,I a,.bool g,.slice i j k] n)
 (∃ (u:List Value->Heap->Prop),(Br (t != (b:Int)) (FCall P A2c #[.pointer m,I (b:Int),I t] s (fun a6 a7=>a6= .tuple #[]/\u [I (B4 (0-d))] a7))
 (u [I d] s))/\
 ∀ (v:Int),∀ E,u [I v] E->∃ X,m=some X/\∃ (a0:OA) (N a1:Nat),E.cell? (X.add 2)=some (.slice a0 N a1)/\∃ (q:List Value->Heap->Prop) (r:List Value->Heap->Nat),q [I 0] E/\
 ∀ (c:Int),∀ l,q [I c] l->Br (decide (c<(N:Int))) (Br (c != (b:Int)) (FCall P Xb #[.pointer m,I c,I (b:Int),I a,.agg #[.bool g,.slice i j k]] l (fun a8 V=>a8= .tuple #[]/\q [I (B4 (c+1))] V/\r [I (B4 (c+1))] V<r [I c] l))
 (q [I (B4 (c+1))] l/\r [I (B4 (c+1))] l<r [I c] l))
 (FCall P Ko #[.pointer m,I (b:Int)] l (fun a9 D=>∃ (O:OA) (Q a2:Nat),a9= .slice O Q a2/\∃ F,O=some F/\0<=a/\a<(Q:Int)/\∃ (w:Bool) (x:OA) (y z:Nat),D.cell? (Addr.add (F.add (a.toNat*2)) 0)=some (.bool w)/\D.cell? (Addr.add (F.add (a.toNat*2)) 1)=some (.slice x y z)/\wpH P (Instr.buildSlice 27 1 #[(0,I a)]) (fun b0 b1=>∃ (R:OA) (S T:Nat),b0= .slice R S T/\wpH P (Builtin.append_ #[27,27] 27 #[.slice e b f,.slice R S T]) (fun b2 W=>∃ (A:OA) (B C:Nat),b2= .slice A B C/\o [.slice A B C,I v,I (B4 (a+1)),.bool w,.slice x y z] W/\p [.slice A B C,I v,I (B4 (a+1)),.bool w,.slice x y z] W<p [.slice e b f,I d,I a,.bool g,.slice i j k] n) b1) D)))))
 (K (.tuple #[.slice e b f,.agg #[.bool g,.slice i j k],I d]) n))
theorem A65(a:OA)(b:Int)(hvc:B0j Tryz.prog a b h K):FCall Tryz.prog Cp #[.pointer a,I b] h K:=
 B8 Tryz.func69 (c:=C2 Tryz.f69) (by kernel_rfl) (rs:=[.tmp 4,.cell 5 94,.tmp 6]) (by kernel_rfl) (fa:=⟨[(4,⟨[7,9,17],[(8,2)],[.slice none 0 0,.int .i64 0,.int .i64 0,.bool false,.slice none 0 0],⟨([7,9,10,11,12,13,14]++Lrg 17 52),[8]⟩⟩),(13,⟨[45],[],[.int .i64 0],⟨([14]++Lrg 45 13),[]⟩⟩)],[(12,⟨[9],[],[.int .i64 0],⟨([9]++Lrg 31 9),[]⟩⟩)],[(21,([0,1,2,3,4,5],[[],[],[],[0],[0,1,3],[0,1,2,3,4]]))],[],[]⟩)
  (cfg:=⟨72,[5,8],none,[76,100,101,102,104],[102,104],false⟩) (args:=[.pointer a,I b]) (by kernel_rfl) (B0 Tryz.call76 (B0 Tryz.call100 (B0 Tryz.call101 (B0 Tryz.call102 (B0 Tryz.call104 Bodies.nil))))) (Eq.mp (by kernel_rfl) hvc)
def B4h(P:Program)(e:OA)(f g:Nat)(i:Int)(h:Heap)(K:Value->Heap->Prop):Prop:=
 wpH P (Instr.box 87 (.slice e f g)) (fun j k=>∃ (b:Addr),j= .pointer (some b)/\wpH P (Instr.box 3 (I i)) (fun l d=>∃ (a:Addr),l= .pointer (some a)/\∃ (c:Int),d.cell? a=some (I c)/\Br (decide (c<(1:Int))) (False)
 (K (.func (.func 174) #[] #[.pointer (some b),.pointer (some a)]) d)) k) h
theorem B09(a:OA)(b d:Nat)(e:Int)(hvc:B4h Tryz.prog a b d e h K):FCall Tryz.prog Wu #[.slice a b d,I e] h K:=
 B8 Tryz.func131 (c:=C2 Tryz.f131) (by kernel_rfl) (rs:=[.tmp 4]) (by kernel_rfl) (fa:=⟨[],[],[],[],[]⟩)
  (cfg:=⟨9,[],none,[],[],false⟩) (args:=[.slice a b d,I e]) (by kernel_rfl) Bodies.nil (Eq.mp (by kernel_rfl) hvc)
def B0a(P:Program)(p:Nat)(f:Addr)(j:Addr)(h:Heap)(K:Value->Heap->Prop):Prop:=
 ∃ (g:List Value->Heap->Prop) (k:List Value->Heap->Nat),g [I 0] h/\
 ∀ (a:Int),∀ d,g [I a] d->∃ (q:OA) (l r:Nat),d.cell? f=some (.slice q l r)/\Br (decide (a<(l:Int))) (∃ (c:Int),d.cell? j=some (I c)/\∃ (s:OA) (b t:Nat),d.cell? f=some (.slice s b t)/\(0<=a/\a<=(b:Int))/\∃ (m:OA) (u n:Nat),d.cell? f=some (.slice m u n)/\(0<=B4 (a+(if ((b-(a.toNat):Nat):Int)<c then ((b-(a.toNat):Nat):Int) else c))/\B4 (a+(if ((b-(a.toNat):Nat):Int)<c then ((b-(a.toNat):Nat):Int) else c))<=(n:Int))/\(0<=B4 (a+(if ((b-(a.toNat):Nat):Int)<c then ((b-(a.toNat):Nat):Int) else c))/\B4 (a+(if ((b-(a.toNat):Nat):Int)<c then ((b-(a.toNat):Nat):Int) else c))<=(((B4 (a+(if ((b-(a.toNat):Nat):Int)<c then ((b-(a.toNat):Nat):Int) else c))).toNat:Nat):Int))/\(0<=a/\a<=(((B4 (a+(if ((b-(a.toNat):Nat):Int)<c then ((b-(a.toNat):Nat):Int) else c))).toNat:Nat):Int))/\YCall P p #[.slice (J6 m ((B4 (a+(if ((b-(a.toNat):Nat):Int)<c then ((b-(a.toNat):Nat):Int) else c))).toNat) (a.toNat) 4) ((B4 (a+(if ((b-(a.toNat):Nat):Int)<c then ((b-(a.toNat):Nat):Int) else c))).toNat-a.toNat) ((B4 (a+(if ((b-(a.toNat):Nat):Int)<c then ((b-(a.toNat):Nat):Int) else c))).toNat-a.toNat)] d (fun v e=>∃ (o:Bool),v= .bool o/\Br (!o) (K (.tuple #[]) e)
 (∃ (i:Int),e.cell? j=some (I i)/\g [I (B4 (a+i))] e/\k [I (B4 (a+i))] e<k [I a] d)))
 (K (.tuple #[]) d)
theorem A63(a:Nat)(b:Addr)(d:Addr)(hvc:B0a Tryz.prog a b d h K):FCall Tryz.prog Fo #[.func (.yield a) #[] #[],.pointer (some b),.pointer (some d)] h K:=
 B8 Tryz.func174 (c:=C2 Tryz.f174) (by kernel_rfl) (rs:=[]) (by kernel_rfl) (fa:=⟨[(1,⟨[4],[],[.int .i64 0],⟨(Lrg 4 27),[]⟩⟩)],[],[(3,([0,1,2,3,4,5,6],[[],[],[],[1,2],[1,2,3],[0,1,2,3,4],[0,1,2,3,4,5]]))],[],[]⟩)
  (cfg:=⟨31,[],none,[],[],false⟩) (args:=[.func (.yield a) #[] #[],.pointer (some b),.pointer (some d)]) (by kernel_rfl) Bodies.nil (Eq.mp (by kernel_rfl) hvc)
theorem Xx:∀ (args:Array Value) (W:World),(callFunc Fo args).run Tryz.prog W= .ok (.enter Fo args) W:=Tryz.call174
def B8p(P:Program)(c:Int)(b:Int)(r:OA)(j s:Nat)(h:Heap)(K:Value->Heap->Prop):Prop:=
 Br (decide (c<(1:Int))) (K (.tuple #[.slice none 0 0,.bool false]) h)
 (Br (decide (c>(64:Int))) (K (.tuple #[.slice none 0 0,.bool false]) h)
 (Br (decide (b<(1:Int))) (K (.tuple #[.slice none 0 0,.bool false]) h)
 (Br (decide (b>(64:Int))) (K (.tuple #[.slice none 0 0,.bool false]) h)
 (Br ((j:Int) != (B4 (c*b))) (K (.tuple #[.slice none 0 0,.bool false]) h)
 (FCall P Mj #[.slice r j s] h (fun u o=>∃ (k:OA) (t d:Nat) (l:Bool),u= .tuple #[.slice k t d,.bool l]/\Br (!l) (K (.tuple #[.slice none 0 0,.bool false]) o)
 (wpH P (Instr.makeSlice 46 (I c) (I c)) (fun v w=>∃ (f:OA) (g m:Nat),v= .slice f g m/\∃ (i:List Value->Heap->Prop) (n:List Value->Heap->Nat),i [I 0] w/\
 ∀ (a:Int),∀ e,i [I a] e->Br (decide (a<c)) ((0<=B4 ((B4 (a+1))*b)/\B4 ((B4 (a+1))*b)<=(d:Int))/\(0<=B4 (a*b)/\B4 (a*b)<=(((B4 ((B4 (a+1))*b)).toNat:Nat):Int))/\∃ q,f=some q/\0<=a/\a<(g:Int)/\wpH P (Instr.storeAt 43 (.pointer (some (q.add (a.toNat*1)))) (.slice (J6 k d ((B4 (a*b)).toNat) 4) (((B4 ((B4 (a+1))*b)).toNat)-((B4 (a*b)).toNat)) (d-((B4 (a*b)).toNat)))) (fun _ p=>i [I (B4 (a+1))] p/\n [I (B4 (a+1))] p<n [I a] e) e)
 (K (.tuple #[.slice f g m,.bool true]) e)) o)))))))
theorem B32(a:Int)(b:Int)(d:OA)(e f:Nat)(hvc:B8p Tryz.prog a b d e f h K):FCall Tryz.prog Wx #[.agg #[I a,I b,.slice d e f]] h K:=
 B8 Tryz.func27 (c:=C2 Tryz.f27) (by kernel_rfl) (rs:=[.tmp 2,.tmp 3]) (by kernel_rfl) (fa:=⟨[(8,⟨[7],[],[.int .i64 0],⟨([7]++Lrg 48 20),[]⟩⟩)],[],[],[],[]⟩)
  (cfg:=⟨69,[1],none,[26],[],false⟩) (args:=[.agg #[I a,I b,.slice d e f]]) (by kernel_rfl) (B0 Tryz.call26 Bodies.nil) (Eq.mp (by kernel_rfl) hvc)
def B4n(P:Program)(c:Int)(g:Int)(h:Heap)(K:Value->Heap->Prop):Prop:=
 wpH P (Instr.makeSlice 46 (I c) (I c)) (fun p q=>∃ (d:OA) (e i:Nat),p= .slice d e i/\∃ (f:List Value->Heap->Prop) (j:List Value->Heap->Nat),f [I 0] q/\
 ∀ (a:Int),∀ b,f [I a] b->Br (decide (a<c)) (wpH P (Instr.makeSlice 43 (I g) (I g)) (fun r s=>∃ (k:OA) (l m:Nat),r= .slice k l m/\∃ o,d=some o/\0<=a/\a<(e:Int)/\wpH P (Instr.storeAt 43 (.pointer (some (o.add (a.toNat*1)))) (.slice k l m)) (fun _ n=>f [I (B4 (a+1))] n/\j [I (B4 (a+1))] n<j [I a] b) s) b)
 (K (.slice d e i) b)) h
theorem B0h(a:Int)(b:Int)(hvc:B4n Tryz.prog a b h K):FCall Tryz.prog Wy #[I a,I b] h K:=
 B8 Tryz.func89 (c:=C2 Tryz.f89) (by kernel_rfl) (rs:=[.tmp 4]) (by kernel_rfl) (fa:=⟨[(3,⟨[6],[],[.int .i64 0],⟨([6]++Lrg 9 10),[]⟩⟩)],[],[],[],[]⟩)
  (cfg:=⟨20,[],none,[],[],false⟩) (args:=[I a,I b]) (by kernel_rfl) Bodies.nil (Eq.mp (by kernel_rfl) hvc)
def B8q(P:Program)(B:OA)(k J:Nat)(h:Heap)(K:Value->Heap->Prop):Prop:=
 ∃ (f:List Value->Heap->Prop) (l:List Value->Heap->Nat),f [.slice none 0 0,I 0] h/\
 ∀ (b:OA) (c d:Nat) (a:Int),∀ e,f [.slice b c d,I a] e->Br (decide (a<(k:Int))) (wpH P (Instr.buildSlice 43 0 #[]) (fun C y=>∃ (m:OA) (n o:Nat),C= .slice m n o/\∃ A,B=some A/\0<=a/\a<(k:Int)/\∃ (p:OA) (q r:Nat),y.cell? (A.add (a.toNat*1))=some (.slice p q r)/\wpH P (Builtin.append_ #[43,43] 43 #[.slice m n o,.slice p q r]) (fun D E=>∃ (s:OA) (t u:Nat),D= .slice s t u/\wpH P (Instr.buildSlice 46 1 #[(0,.slice s t u)]) (fun F G=>∃ (v:OA) (w x:Nat),F= .slice v w x/\wpH P (Builtin.append_ #[46,46] 46 #[.slice b c d,.slice v w x]) (fun H z=>∃ (g:OA) (i j:Nat),H= .slice g i j/\f [.slice g i j,I (B4 (a+1))] z/\l [.slice g i j,I (B4 (a+1))] z<l [.slice b c d,I a] e) G) E) y) e)
 (K (.slice b c d) e)
theorem B33(a:OA)(b d:Nat)(hvc:B8q Tryz.prog a b d h K):FCall Tryz.prog A2b #[.slice a b d] h K:=
 B8 Tryz.func105 (c:=C2 Tryz.f105) (by kernel_rfl) (rs:=[.tmp 2]) (by kernel_rfl) (fa:=⟨[(3,⟨[3,4],[],[.slice none 0 0,.int .i64 0],⟨(Lrg 3 17),[]⟩⟩)],[],[],[],[]⟩)
  (cfg:=⟨21,[],none,[],[],false⟩) (args:=[.slice a b d]) (by kernel_rfl) Bodies.nil (Eq.mp (by kernel_rfl) hvc)
def B8o(P:Program)(g:OA)(d V:Nat)(h:Heap)(K:Value->Heap->Prop):Prop:=
 ∃ E,g=some E/\0<=(0:Int)/\(0:Int)<(d:Int)/\∃ (L:OA) (m M:Nat),h.cell? (E.add (((0:Int)).toNat*1))=some (.slice L m M)/\FCall P Wy #[I (m:Int),I (d:Int)] h (fun S T=>∃ (i:OA) (j n:Nat),S= .slice i j n/\∃ (k:List Value->Heap->Prop) (o:List Value->Heap->Nat),k [I 0] T/\
 ∀ (a:Int),∀ f,k [I a] f->Br (decide (a<(d:Int))) (∃ (l:List Value->Heap->Prop) (p:List Value->Heap->Nat),l [I 0] f/\
 ∀ (b:Int),∀ c,l [I b] c->∃ F,g=some F/\0<=a/\a<(d:Int)/\∃ (N:OA) (q O:Nat),c.cell? (F.add (a.toNat*1))=some (.slice N q O)/\Br (decide (b<(q:Int))) (∃ G,i=some G/\0<=b/\b<(j:Int)/\∃ (r:OA) (s Q:Nat),c.cell? (G.add (b.toNat*1))=some (.slice r s Q)/\∃ H,g=some H/\0<=a/\a<(d:Int)/\∃ (t:OA) (u R:Nat),c.cell? (H.add (a.toNat*1))=some (.slice t u R)/\∃ e,t=some e/\0<=b/\b<(u:Int)/\∃ (v:Bool) (w:OA) (x y:Nat) (z:Bool) (A:OA) (B C:Nat),c.cell? (Addr.add (e.add (b.toNat*4)) 0)=some (.bool v)/\c.cell? (Addr.add (e.add (b.toNat*4)) 1)=some (.slice w x y)/\c.cell? (Addr.add (e.add (b.toNat*4)) 2)=some (.bool z)/\c.cell? (Addr.add (e.add (b.toNat*4)) 3)=some (.slice A B C)/\∃ J,r=some J/\0<=a/\a<(s:Int)/\wpH P (Instr.storeAt 54 (.pointer (some (J.add (a.toNat*4)))) (.agg #[.bool v,.slice w x y,.bool z,.slice A B C])) (fun _ D=>l [I (B4 (b+1))] D/\p [I (B4 (b+1))] D<p [I b] c) c)
 (k [I (B4 (a+1))] c/\o [I (B4 (a+1))] c<o [I a] f))
 (K (.slice i j n) f))
theorem B31(a:OA)(b d:Nat)(hvc:B8o Tryz.prog a b d h K):FCall Tryz.prog A2a #[.slice a b d] h K:=
 B8 Tryz.func31 (c:=C2 Tryz.f31) (by kernel_rfl) (rs:=[.tmp 2]) (by kernel_rfl) (fa:=⟨[(3,⟨[4],[],[.int .i64 0],⟨([4,5]++Lrg 13 28),[]⟩⟩),(6,⟨[5],[],[.int .i64 0],⟨([5]++Lrg 19 22),[]⟩⟩)],[],[(8,((Lrg 0 14),[[],[],[0,1],[0,1,2],[],[],[],[5,6],[5,6,7],[],[5,6,7,8,9],[5,6,7,8,9,10],(Lrg 0 12),(Lrg 0 13)]))],[],[]⟩)
  (cfg:=⟨42,[],none,[89],[],false⟩) (args:=[.slice a b d]) (by kernel_rfl) (B0 Tryz.call89 Bodies.nil) (Eq.mp (by kernel_rfl) hvc)
def C12(P:Program)(a3:OA)(y a8:Nat)(a4:OA)(a5 a9:Nat)(h:Heap)(K:Value->Heap->Prop):Prop:=
 ∃ (n:List Value->Heap->Prop) (z:List Value->Heap->Nat),n [I 0,.bool false,.slice none 0 0,.bool false,.slice none 0 0] h/\
 ∀ (a:Int) (e:Bool) (f:OA) (g i:Nat) (j:Bool) (k:OA) (l m:Nat),∀ b,n [I a,.bool e,.slice f g i,.bool j,.slice k l m] b->Br (decide (a<(y:Int))) (∃ c,a3=some c/\0<=a/\a<(y:Int)/\∃ (A:Bool) (B:OA) (C D:Nat) (E:Bool) (F:OA) (G H:Nat),b.cell? (Addr.add (c.add (a.toNat*4)) 0)=some (.bool A)/\b.cell? (Addr.add (c.add (a.toNat*4)) 1)=some (.slice B C D)/\b.cell? (Addr.add (c.add (a.toNat*4)) 2)=some (.bool E)/\b.cell? (Addr.add (c.add (a.toNat*4)) 3)=some (.slice F G H)/\∃ d,a4=some d/\0<=a/\a<(a5:Int)/\∃ (J:Bool) (L:OA) (M N:Nat) (O:Bool) (Q:OA) (R S:Nat),b.cell? (Addr.add (d.add (a.toNat*4)) 0)=some (.bool J)/\b.cell? (Addr.add (d.add (a.toNat*4)) 1)=some (.slice L M N)/\b.cell? (Addr.add (d.add (a.toNat*4)) 2)=some (.bool O)/\b.cell? (Addr.add (d.add (a.toNat*4)) 3)=some (.slice Q R S)/\FCall P Qt #[.agg #[.bool A,.slice B C D,.bool E,.slice F G H],.agg #[.bool J,.slice L M N,.bool O,.slice Q R S]] b (fun a6 w=>∃ (T:Bool) (V:OA) (W X:Nat) (Z:Bool) (a0:OA) (a1 a2:Nat),a6= .agg #[.bool T,.slice V W X,.bool Z,.slice a0 a1 a2]/\Heap.le b w/\FCall P Wq #[.agg #[.bool e,.slice f g i,.bool j,.slice k l m],.agg #[.bool T,.slice V W X,.bool Z,.slice a0 a1 a2]] w (fun a7 x=>∃ (o:Bool) (p:OA) (q r:Nat) (s:Bool) (t:OA) (u v:Nat),a7= .agg #[.bool o,.slice p q r,.bool s,.slice t u v]/\Heap.le w x/\n [I (B4 (a+1)),.bool o,.slice p q r,.bool s,.slice t u v] x/\z [I (B4 (a+1)),.bool o,.slice p q r,.bool s,.slice t u v] x<z [I a,.bool e,.slice f g i,.bool j,.slice k l m] b)))
 (K (.agg #[.bool e,.slice f g i,.bool j,.slice k l m]) b)
theorem B6k(a:OA)(b d:Nat)(e:OA)(f g:Nat)(hvc:C12 Tryz.prog a b d e f g h K):FCall Tryz.prog A3s #[.slice a b d,.slice e f g] h K:=
 B8 Tryz.func29 (c:=C2 Tryz.f29) (by kernel_rfl) (rs:=[.cell 4 54]) (by kernel_rfl) (fa:=⟨[(3,⟨[6],[(5,4)],[.int .i64 0,.bool false,.slice none 0 0,.bool false,.slice none 0 0],⟨([6]++Lrg 8 17),[5]⟩⟩)],[],[(5,((Lrg 0 12),[[],[],[],[1,2],[1,2,3],[],[],[5,6],[5,6,7],(Lrg 1 8),(Lrg 0 10),(Lrg 0 11)]))],[],[]⟩)
  (cfg:=⟨26,[4,5],none,[87,88],[],false⟩) (args:=[.slice a b d,.slice e f g]) (by kernel_rfl) (B0 Tryz.call87 (B0 Tryz.call88 Bodies.nil)) (Eq.mp (by kernel_rfl) hvc)
def C13(P:Program)(x:OA)(c F:Nat)(y:OA)(z A:Nat)(h:Heap)(K:Value->Heap->Prop):Prop:=
 wpH P (Instr.makeSlice 43 (I (c:Int)) (I (c:Int))) (fun B C=>∃ (d:OA) (e g:Nat),B= .slice d e g/\∃ (f:List Value->Heap->Prop) (i:List Value->Heap->Nat),f [I 0] C/\
 ∀ (a:Int),∀ b,f [I a] b->Br (decide (a<(c:Int))) (∃ v,x=some v/\0<=a/\a<(c:Int)/\∃ (j:OA) (k l:Nat),b.cell? (v.add (a.toNat*1))=some (.slice j k l)/\FCall P A3s #[.slice j k l,.slice y z A] b (fun D E=>∃ (m:Bool) (n:OA) (o p:Nat) (q:Bool) (r:OA) (s t:Nat),D= .agg #[.bool m,.slice n o p,.bool q,.slice r s t]/\∃ w,d=some w/\0<=a/\a<(e:Int)/\wpH P (Instr.storeAt 54 (.pointer (some (w.add (a.toNat*4)))) (.agg #[.bool m,.slice n o p,.bool q,.slice r s t])) (fun _ u=>f [I (B4 (a+1))] u/\i [I (B4 (a+1))] u<i [I a] b) E))
 (K (.slice d e g) b)) h
theorem B6l(a:OA)(b d:Nat)(e:OA)(f g:Nat)(hvc:C13 Tryz.prog a b d e f g h K):FCall Tryz.prog A8e #[.slice a b d,.slice e f g] h K:=
 B8 Tryz.func30 (c:=C2 Tryz.f30) (by kernel_rfl) (rs:=[.tmp 4]) (by kernel_rfl) (fa:=⟨[(3,⟨[6],[],[.int .i64 0],⟨([6]++Lrg 10 15),[]⟩⟩)],[],[],[],[]⟩)
  (cfg:=⟨26,[],none,[29],[],false⟩) (args:=[.slice a b d,.slice e f g]) (by kernel_rfl) (B0 Tryz.call29 Bodies.nil) (Eq.mp (by kernel_rfl) hvc)
def Im(P:Program)(f:OA)(g i:Nat)(b2:Int)(b3:List Value->Heap->Prop)(l:List Value->Heap->Nat)(c:Int)(b4:Bool)(b5:OA)(b6 b7:Nat)(b8:Bool)(b9:OA)(c0 c1:Nat)(c2:Heap)(c3:Heap):Prop:=
 ∃ (j:List Value->Heap->Prop) (m:List Value->Heap->Nat),j [I b2] c2/\
 ∀ (a:Int),∀ b,j [I a] b->∃ a7,f=some a7/\0<=c/\c<(g:Int)/\∃ (c4:OA) (n c5:Nat),b.cell? (a7.add (c.toNat*1))=some (.slice c4 n c5)/\Br (decide (a<(n:Int))) (∃ a8,f=some a8/\0<=c/\c<(g:Int)/\∃ (o:OA) (p c6:Nat),b.cell? (a8.add (c.toNat*1))=some (.slice o p c6)/\∃ a9,f=some a9/\0<=c/\c<(g:Int)/\∃ (q:OA) (r c7:Nat),b.cell? (a9.add (c.toNat*1))=some (.slice q r c7)/\∃ d,q=some d/\0<=a/\a<(r:Int)/\∃ (s:Bool) (t:OA) (u v:Nat) (w:Bool) (x:OA) (y z:Nat),b.cell? (Addr.add (d.add (a.toNat*4)) 0)=some (.bool s)/\b.cell? (Addr.add (d.add (a.toNat*4)) 1)=some (.slice t u v)/\b.cell? (Addr.add (d.add (a.toNat*4)) 2)=some (.bool w)/\b.cell? (Addr.add (d.add (a.toNat*4)) 3)=some (.slice x y z)/\∃ b0,f=some b0/\0<=(i:Int)/\(i:Int)<(g:Int)/\∃ (A:OA) (B c8:Nat),b.cell? (b0.add (((i:Int)).toNat*1))=some (.slice A B c8)/\∃ e,A=some e/\0<=a/\a<(B:Int)/\∃ (C:Bool) (D:OA) (E F:Nat) (G:Bool) (H:OA) (J L:Nat),b.cell? (Addr.add (e.add (a.toNat*4)) 0)=some (.bool C)/\b.cell? (Addr.add (e.add (a.toNat*4)) 1)=some (.slice D E F)/\b.cell? (Addr.add (e.add (a.toNat*4)) 2)=some (.bool G)/\b.cell? (Addr.add (e.add (a.toNat*4)) 3)=some (.slice H J L)/\FCall P Qt #[.agg #[.bool b4,.slice b5 b6 b7,.bool b8,.slice b9 c0 c1],.agg #[.bool C,.slice D E F,.bool G,.slice H J L]] b (fun c9 k=>∃ (M:Bool) (N:OA) (O Q:Nat) (R:Bool) (S:OA) (T V:Nat),c9= .agg #[.bool M,.slice N O Q,.bool R,.slice S T V]/\Heap.le b k/\FCall P A27 #[.agg #[.bool s,.slice t u v,.bool w,.slice x y z],.agg #[.bool M,.slice N O Q,.bool R,.slice S T V]] k (fun d0 a5=>∃ (W:Bool) (X:OA) (Z a0:Nat) (a1:Bool) (a2:OA) (a3 a4:Nat),d0= .agg #[.bool W,.slice X Z a0,.bool a1,.slice a2 a3 a4]/\Heap.le k a5/\∃ b1,o=some b1/\0<=a/\a<(p:Int)/\wpH P (Instr.storeAt 54 (.pointer (some (b1.add (a.toNat*4)))) (.agg #[.bool W,.slice X Z a0,.bool a1,.slice a2 a3 a4])) (fun _ a6=>j [I (B4 (a+1))] a6/\m [I (B4 (a+1))] a6<m [I a] b) a5)))
 (b3 [I (B4 (c+1))] b/\l [I (B4 (c+1))] b<l [I c] c3)
def Ed(P:Program)(v:OA)(i:Nat)(S:List Value->Heap->Prop)(w:List Value->Heap->Nat)(x:OA)(g y:Nat)(c:Int)(T:Bool)(V:OA)(W X:Nat)(Z:Bool)(a0:OA)(a1 a2:Nat)(z:Bool)(A:OA)(B C:Nat)(D:Bool)(E:OA)(F G:Nat)(a3:Heap)(a4:Heap):Prop:=
 ∃ (d:List Value->Heap->Prop) (e:List Value->Heap->Nat),d [I 0] a4/\
 ∀ (a:Int),∀ b,d [I a] b->Br (decide (a<(i:Int))) (∃ R,v=some R/\0<=a/\a<(i:Int)/\∃ (H:OA) (J a5:Nat),b.cell? (R.add (a.toNat*1))=some (.slice H J a5)/\∃ f,H=some f/\0<=c/\c<(J:Int)/\∃ (j:Bool) (k:OA) (l m:Nat) (n:Bool) (o:OA) (p q:Nat),b.cell? (Addr.add (f.add (c.toNat*4)) 0)=some (.bool j)/\b.cell? (Addr.add (f.add (c.toNat*4)) 1)=some (.slice k l m)/\b.cell? (Addr.add (f.add (c.toNat*4)) 2)=some (.bool n)/\b.cell? (Addr.add (f.add (c.toNat*4)) 3)=some (.slice o p q)/\Br (a==(g:Int)) (d [I (B4 (a+1))] b/\e [I (B4 (a+1))] b<e [I a] b)
 (FCall P Du #[.agg #[.bool j,.slice k l m,.bool n,.slice o p q]] b (fun a6 u=>∃ (L:Int),a6=I L/\Br (L==(0:Int)) (d [I (B4 (a+1))] u/\e [I (B4 (a+1))] u<e [I a] b)
 (Im P v i g c d e a j k l m n o p q u b))))
 (wpH P (Instr.buildSlice 27 1 #[(0,I c)]) (fun a7 a8=>∃ (M:OA) (N O:Nat),a7= .slice M N O/\wpH P (Builtin.append_ #[27,27] 27 #[.slice x g y,.slice M N O]) (fun a9 Q=>∃ (r:OA) (s t:Nat),a9= .slice r s t/\S [.slice r s t,I (B4 (c+1)),.bool z,.slice A B C,.bool D,.slice E F G] Q/\w [.slice r s t,I (B4 (c+1)),.bool z,.slice A B C,.bool D,.slice E F G] Q<w [.slice x g y,I c,.bool T,.slice V W X,.bool Z,.slice a0 a1 a2] a3) a8) b)
def In(P:Program)(e:OA)(f:Nat)(M:List Value->Heap->Prop)(N:List Value->Heap->Nat)(O:OA)(c Q:Nat)(R:Int)(S:Bool)(T:OA)(V W:Nat)(X:Bool)(Z:OA)(a0 a1:Nat)(a2:Bool)(a3:OA)(a4 a5:Nat)(a6:Bool)(a7:OA)(a8 a9:Nat)(b0:Bool)(b1:OA)(b2 b3:Nat)(b4:Bool)(b5:OA)(b6 b7:Nat)(b8:Heap)(b9:Heap):Prop:=
 ∃ (g:List Value->Heap->Prop) (i:List Value->Heap->Nat),g [I 0] b8/\
 ∀ (a:Int),∀ b,g [I a] b->∃ G,e=some G/\0<=(c:Int)/\(c:Int)<(f:Int)/\∃ (c0:OA) (j c1:Nat),b.cell? (G.add (((c:Int)).toNat*1))=some (.slice c0 j c1)/\Br (decide (a<(j:Int))) (∃ H,e=some H/\0<=(c:Int)/\(c:Int)<(f:Int)/\∃ (k:OA) (l c2:Nat),b.cell? (H.add (((c:Int)).toNat*1))=some (.slice k l c2)/\∃ J,e=some J/\0<=(c:Int)/\(c:Int)<(f:Int)/\∃ (m:OA) (n c3:Nat),b.cell? (J.add (((c:Int)).toNat*1))=some (.slice m n c3)/\∃ d,m=some d/\0<=a/\a<(n:Int)/\∃ (o:Bool) (p:OA) (q r:Nat) (s:Bool) (t:OA) (u v:Nat),b.cell? (Addr.add (d.add (a.toNat*4)) 0)=some (.bool o)/\b.cell? (Addr.add (d.add (a.toNat*4)) 1)=some (.slice p q r)/\b.cell? (Addr.add (d.add (a.toNat*4)) 2)=some (.bool s)/\b.cell? (Addr.add (d.add (a.toNat*4)) 3)=some (.slice t u v)/\FCall P A28 #[.agg #[.bool o,.slice p q r,.bool s,.slice t u v],.agg #[.bool a2,.slice a3 a4 a5,.bool a6,.slice a7 a8 a9]] b (fun c4 E=>∃ (w:Bool) (x:OA) (y z:Nat) (A:Bool) (B:OA) (C D:Nat),c4= .agg #[.bool w,.slice x y z,.bool A,.slice B C D]/\Heap.le b E/\∃ L,k=some L/\0<=a/\a<(l:Int)/\wpH P (Instr.storeAt 54 (.pointer (some (L.add (a.toNat*4)))) (.agg #[.bool w,.slice x y z,.bool A,.slice B C D])) (fun _ F=>g [I (B4 (a+1))] F/\i [I (B4 (a+1))] F<i [I a] b) E))
 (Ed P e f M N O c Q R S T V W X Z a0 a1 b0 b1 b2 b3 b4 b5 b6 b7 b9 b)
def Io(P:Program)(n:OA)(o:Nat)(A:List Value->Heap->Prop)(B:List Value->Heap->Nat)(C:OA)(d D:Nat)(a:Int)(E:Bool)(F:OA)(G H:Nat)(J:Bool)(L:OA)(M N:Nat)(O:Bool)(Q:OA)(R S:Nat)(T:Bool)(V:OA)(W X:Nat)(Z:Heap)(b:Heap):Prop:=
 ∃ z,n=some z/\0<=(d:Int)/\(d:Int)<(o:Int)/\∃ (p:OA) (q a0:Nat),b.cell? (z.add (((d:Int)).toNat*1))=some (.slice p q a0)/\∃ c,p=some c/\0<=a/\a<(q:Int)/\∃ (e:Bool) (f:OA) (g i:Nat) (j:Bool) (k:OA) (l m:Nat),b.cell? (Addr.add (c.add (a.toNat*4)) 0)=some (.bool e)/\b.cell? (Addr.add (c.add (a.toNat*4)) 1)=some (.slice f g i)/\b.cell? (Addr.add (c.add (a.toNat*4)) 2)=some (.bool j)/\b.cell? (Addr.add (c.add (a.toNat*4)) 3)=some (.slice k l m)/\FCall P Qt #[.agg #[.bool O,.slice Q R S,.bool T,.slice V W X],.agg #[.bool e,.slice f g i,.bool j,.slice k l m]] b (fun a1 a2=>∃ (r:Bool) (s:OA) (t u:Nat) (v:Bool) (w:OA) (x y:Nat),a1= .agg #[.bool r,.slice s t u,.bool v,.slice w x y]/\In P n o A B C d D a E F G H J L M N e f g i j k l m r s t u v w x y a2 Z)
def Ip(P:Program)(e:OA)(c:Nat)(t:List Value->Heap->Prop)(r:List Value->Heap->Nat)(f:OA)(a g:Nat)(i:Int)(j:Bool)(k:OA)(l m:Nat)(n:Bool)(o:OA)(p q:Nat)(b:Int)(u:Heap)(d:Heap):Prop:=
 Br (b==(c:Int)) (t [.slice f a g,I (B4 (i+1)),.bool false,.slice none 0 0,.bool false,.slice none 0 0] d/\r [.slice f a g,I (B4 (i+1)),.bool false,.slice none 0 0,.bool false,.slice none 0 0] d<r [.slice f a g,I i,.bool j,.slice k l m,.bool n,.slice o p q] u)
 (∃ (s:List Value->Heap->Prop),(Br (b != (a:Int)) (∃ V,e=some V/\0<=(a:Int)/\(a:Int)<(c:Int)/\∃ (v:OA) (w x:Nat),d.cell? (V.add (((a:Int)).toNat*1))=some (.slice v w x)/\∃ W,e=some W/\0<=b/\b<(c:Int)/\∃ (y:OA) (z A:Nat),d.cell? (W.add (b.toNat*1))=some (.slice y z A)/\∃ X,e=some X/\0<=b/\b<(c:Int)/\wpH P (Instr.storeAt 43 (.pointer (some (X.add (b.toNat*1)))) (.slice v w x)) (fun _ a1=>∃ Z,e=some Z/\0<=(a:Int)/\(a:Int)<(c:Int)/\wpH P (Instr.storeAt 43 (.pointer (some (Z.add (((a:Int)).toNat*1)))) (.slice y z A)) (fun _ a2=>FCall P Wp #[.agg #[.bool j,.slice k l m,.bool n,.slice o p q]] a2 (fun a3 a4=>∃ (B:Bool) (C:OA) (D E:Nat) (F:Bool) (G:OA) (H J:Nat),a3= .agg #[.bool B,.slice C D E,.bool F,.slice G H J]/\s [.bool B,.slice C D E,.bool F,.slice G H J] a4)) a1) d)
 (s [.bool j,.slice k l m,.bool n,.slice o p q] d))/\
 ∀ (L:Bool) (M:OA) (N O:Nat) (Q:Bool) (R:OA) (S T:Nat),∀ a0,s [.bool L,.slice M N O,.bool Q,.slice R S T] a0->Io P e c t r f a g i j k l m n o p q L M N O Q R S T u a0)
def A4c(P:Program)(a1:OA)(a2 a3:Nat)(u:Int)(h:Heap)(K:Value->Heap->Prop):Prop:=
 FCall P A2b #[.slice a1 a2 a3] h (fun a6 a7=>∃ (f:OA) (c k:Nat),a6= .slice f c k/\FCall P B9o #[I 1] a7 (fun a8 a9=>∃ (z:Bool) (A:OA) (B C:Nat) (D:Bool) (E:OA) (F G:Nat),a8= .agg #[.bool z,.slice A B C,.bool D,.slice E F G]/\∃ (v:List Value->Heap->Prop) (a4:List Value->Heap->Nat),v [.slice none 0 0,I 0,.bool z,.slice A B C,.bool D,.slice E F G] a9/\
 ∀ (i:OA) (a j:Nat) (d:Int) (m:Bool) (n:OA) (o p:Nat) (q:Bool) (r:OA) (s t:Nat),∀ g,v [.slice i a j,I d,.bool m,.slice n o p,.bool q,.slice r s t] g->Br (decide (d<u)) (Br (decide ((a:Int)<(c:Int))) (∃ (w:List Value->Heap->Prop),(∃ (x:List Value->Heap->Prop) (H:List Value->Heap->Nat),x [I (a:Int)] g/\
 ∀ (b:Int),∀ e,x [I b] e->Br (decide (b<(c:Int))) (∃ Z,f=some Z/\0<=b/\b<(c:Int)/\∃ (J:OA) (L a5:Nat),e.cell? (Z.add (b.toNat*1))=some (.slice J L a5)/\∃ l,J=some l/\0<=d/\d<(L:Int)/\∃ (M:Bool) (N:OA) (O Q:Nat) (R:Bool) (S:OA) (T V:Nat),e.cell? (Addr.add (l.add (d.toNat*4)) 0)=some (.bool M)/\e.cell? (Addr.add (l.add (d.toNat*4)) 1)=some (.slice N O Q)/\e.cell? (Addr.add (l.add (d.toNat*4)) 2)=some (.bool R)/\e.cell? (Addr.add (l.add (d.toNat*4)) 3)=some (.slice S T V)/\FCall P Du #[.agg #[.bool M,.slice N O Q,.bool R,.slice S T V]] e (fun b0 y=>∃ (W:Int),b0=I W/\Br (W==(0:Int)) (x [I (B4 (b+1))] y/\H [I (B4 (b+1))] y<H [I b] e)
 (w [I b] y)))
 (w [I b] e))/\
 ∀ (X:Int),∀ a0,w [I X] a0->Ip P f c v a4 i a j d m n o p q r s t X g a0)
 (Br (decide ((a:Int)<u)) (K (.tuple #[.slice f c k,.slice i a j,.agg #[.bool false,.slice none 0 0,.bool false,.slice none 0 0]]) g)
 (K (.tuple #[.slice f c k,.slice i a j,.agg #[.bool m,.slice n o p,.bool q,.slice r s t]]) g)))
 (Br (decide ((a:Int)<u)) (K (.tuple #[.slice f c k,.slice i a j,.agg #[.bool false,.slice none 0 0,.bool false,.slice none 0 0]]) g)
 (K (.tuple #[.slice f c k,.slice i a j,.agg #[.bool m,.slice n o p,.bool q,.slice r s t]]) g))))
theorem A2z(a:OA)(b d:Nat)(e:Int)(hvc:A4c Tryz.prog a b d e h K):FCall Tryz.prog Mm #[.slice a b d,I e] h K:=
 B8 Tryz.func72 (c:=C2 Tryz.f72) (by kernel_rfl) (rs:=[.tmp 4,.tmp 5,.cell 6 54]) (by kernel_rfl) (fa:=⟨[(5,⟨[8,10],[(9,4)],[.slice none 0 0,.int .i64 0,.bool false,.slice none 0 0,.bool false,.slice none 0 0],⟨([8]++Lrg 10 8++Lrg 21 148),[9,13,16]⟩⟩),(9,⟨[12],[],[.int .i64 0],⟨([12]++Lrg 36 17),[]⟩⟩),(19,⟨[14],[],[.int .i64 0],⟨([14]++Lrg 87 24),[]⟩⟩),(23,⟨[15],[],[.int .i64 0],⟨([15,16,17]++Lrg 111 54),[16]⟩⟩),(28,⟨[17],[],[.int .i64 0],⟨([17]++Lrg 133 32),[]⟩⟩)],[(11,⟨[12],[],[.int .i64 0],⟨([12]++Lrg 36 17),[]⟩⟩),(16,⟨[],[(9,4)],[.bool false,.slice none 0 0,.bool false,.slice none 0 0],⟨(Lrg 58 19),[9]⟩⟩)],[(14,((Lrg 0 16),[[],[],[],[],[],[],[4,5],[4,5,6],[],[],[8,9],[8,9,10],([0,1]++Lrg 4 8),([0,1]++Lrg 4 9),(Lrg 0 14),(Lrg 0 15)])),(21,((Lrg 0 16),[[],[],[0,1],[0,1,2],[],[],[],[5,6],[5,6,7],[],[5,6,7,8,9],[5,6,7,8,9,10],[],(Lrg 5 8),(Lrg 0 14),(Lrg 0 15)])),(30,((Lrg 0 24),[[],[],[0,1],[0,1,2],[],[],[],[5,6],[5,6,7],[],[5,6,7,8,9],[5,6,7,8,9,10],[],[],[],[13,14],[13,14,15],[],[13,14,15,16,17],[13,14,15,16,17,18],(Lrg 12 8),(Lrg 5 16),(Lrg 0 22),(Lrg 0 23)])),(34,([0,1,2,3,4,5],[[],[],[],[0],[0,1,3],[0,1,2,3,4]]))],[],[]⟩)
  (cfg:=⟨177,[6,9,13,16],none,[32,59,88,105,106,107,140],[],false⟩) (args:=[.slice a b d,I e]) (by kernel_rfl) (B0 Tryz.call32 (B0 Tryz.call59 (B0 Tryz.call88 (B0 Tryz.call105 (B0 Tryz.call106 (B0 Tryz.call107 (B0 Tryz.call140 Bodies.nil))))))) (Eq.mp (by kernel_rfl) hvc)
def A0s(P:Program)(c6:OA)(M w5:Nat)(q8:OA)(q9 w6:Nat)(h:Heap)(K:Value->Heap->Prop):Prop:=
 ∃ q2,c6=some q2/\0<=(0:Int)/\(0:Int)<(M:Int)/\∃ (r0:OA) (c r1:Nat),h.cell? (q2.add (((0:Int)).toNat*1))=some (.slice r0 c r1)/\∃ (n:List Value->Heap->Prop) (i:List Value->Heap->Nat),n [.slice none 0 0,I 0] h/\
 ∀ (d:OA) (e f:Nat) (a:Int),∀ b,n [.slice d e f,I a] b->Br (decide (a<(M:Int))) (∃ q3,c6=some q3/\0<=a/\a<(M:Int)/\∃ (p:OA) (q r:Nat),b.cell? (q3.add (a.toNat*1))=some (.slice p q r)/\∃ g,q8=some g/\0<=a/\a<(q9:Int)/\(∃ (v:Bool) (w:OA) (x y:Nat) (z:Bool) (A:OA) (B C:Nat),b.cell? (Addr.add (g.add (a.toNat*4)) 0)=some (.bool v)/\b.cell? (Addr.add (g.add (a.toNat*4)) 1)=some (.slice w x y)/\b.cell? (Addr.add (g.add (a.toNat*4)) 2)=some (.bool z)/\b.cell? (Addr.add (g.add (a.toNat*4)) 3)=some (.slice A B C)/\(wpH P (Instr.buildSlice 43 0 #[]) (fun s4 L=>∃ (N:OA) (O Q:Nat),s4= .slice N O Q/\Heap.le b L/\(wpH P (Builtin.append_ #[43,43] 43 #[.slice N O Q,.slice p q r]) (fun s5 n5=>∃ (c7:OA) (c8 c9:Nat),s5= .slice c7 c8 c9/\wpH P (Instr.buildSlice 43 1 #[(0,.agg #[.bool v,.slice w x y,.bool z,.slice A B C])]) (fun s6 n6=>∃ (d0:OA) (d1 d2:Nat),s6= .slice d0 d1 d2/\Heap.le n5 n6/\wpH P (Builtin.append_ #[43,43] 43 #[.slice c7 c8 c9,.slice d0 d1 d2]) (fun s7 n7=>∃ (d3:OA) (d4 d5:Nat),s7= .slice d3 d4 d5/\wpH P (Instr.buildSlice 46 1 #[(0,.slice d3 d4 d5)]) (fun s8 n8=>∃ (d6:OA) (d7 d8:Nat),s8= .slice d6 d7 d8/\Heap.le n7 n8/\wpH P (Builtin.append_ #[46,46] 46 #[.slice d e f,.slice d6 d7 d8]) (fun s9 n9=>∃ (R:OA) (S T:Nat),s9= .slice R S T/\n [.slice R S T,I (B4 (a+1))] n9/\i [.slice R S T,I (B4 (a+1))] n9<i [.slice d e f,I a] b) n8) n7) n6) n5) L)/\(wpH P (Instr.buildSlice 43 1 #[(0,.agg #[.bool v,.slice w x y,.bool z,.slice A B C])]) (fun t0 o0=>∃ (d9:OA) (e0 e1:Nat),t0= .slice d9 e0 e1/\Heap.le L o0/\wpH P (Builtin.append_ #[43,43] 43 #[.slice N O Q,.slice p q r]) (fun t1 t2=>∃ (e2:OA) (e3 e4:Nat),t1= .slice e2 e3 e4/\wpH P (Builtin.append_ #[43,43] 43 #[.slice e2 e3 e4,.slice d9 e0 e1]) (fun t3 o1=>∃ (e5:OA) (e6 e7:Nat),t3= .slice e5 e6 e7/\wpH P (Instr.buildSlice 46 1 #[(0,.slice e5 e6 e7)]) (fun t4 o2=>∃ (e8:OA) (e9 f0:Nat),t4= .slice e8 e9 f0/\Heap.le o1 o2/\wpH P (Builtin.append_ #[46,46] 46 #[.slice d e f,.slice e8 e9 f0]) (fun t5 o3=>∃ (V:OA) (W X:Nat),t5= .slice V W X/\n [.slice V W X,I (B4 (a+1))] o3/\i [.slice V W X,I (B4 (a+1))] o3<i [.slice d e f,I a] b) o2) o1) t2) o0) L)) b)/\(wpH P (Instr.buildSlice 43 1 #[(0,.agg #[.bool v,.slice w x y,.bool z,.slice A B C])]) (fun t6 c4=>∃ (f1:OA) (f2 f3:Nat),t6= .slice f1 f2 f3/\Heap.le b c4/\wpH P (Instr.buildSlice 43 0 #[]) (fun t7 o4=>∃ (f4:OA) (f5 f6:Nat),t7= .slice f4 f5 f6/\Heap.le c4 o4/\wpH P (Builtin.append_ #[43,43] 43 #[.slice f4 f5 f6,.slice p q r]) (fun t8 t9=>∃ (f7:OA) (f8 f9:Nat),t8= .slice f7 f8 f9/\wpH P (Builtin.append_ #[43,43] 43 #[.slice f7 f8 f9,.slice f1 f2 f3]) (fun u0 o5=>∃ (g0:OA) (g1 g2:Nat),u0= .slice g0 g1 g2/\wpH P (Instr.buildSlice 46 1 #[(0,.slice g0 g1 g2)]) (fun u1 o6=>∃ (g3:OA) (g4 g5:Nat),u1= .slice g3 g4 g5/\Heap.le o5 o6/\wpH P (Builtin.append_ #[46,46] 46 #[.slice d e f,.slice g3 g4 g5]) (fun u2 o7=>∃ (Z:OA) (a0 a1:Nat),u2= .slice Z a0 a1/\n [.slice Z a0 a1,I (B4 (a+1))] o7/\i [.slice Z a0 a1,I (B4 (a+1))] o7<i [.slice d e f,I a] b) o6) o5) t9) o4) c4) b))/\(wpH P (Instr.buildSlice 43 0 #[]) (fun u3 l=>∃ (D:OA) (E F:Nat),u3= .slice D E F/\Heap.le b l/\(∃ (a2:Bool) (a3:OA) (a4 a5:Nat) (a6:Bool) (a7:OA) (a8 a9:Nat),l.cell? (Addr.add (g.add (a.toNat*4)) 0)=some (.bool a2)/\l.cell? (Addr.add (g.add (a.toNat*4)) 1)=some (.slice a3 a4 a5)/\l.cell? (Addr.add (g.add (a.toNat*4)) 2)=some (.bool a6)/\l.cell? (Addr.add (g.add (a.toNat*4)) 3)=some (.slice a7 a8 a9)/\(wpH P (Builtin.append_ #[43,43] 43 #[.slice D E F,.slice p q r]) (fun u4 o8=>∃ (g6:OA) (g7 g8:Nat),u4= .slice g6 g7 g8/\wpH P (Instr.buildSlice 43 1 #[(0,.agg #[.bool a2,.slice a3 a4 a5,.bool a6,.slice a7 a8 a9])]) (fun u5 o9=>∃ (g9:OA) (h0 h1:Nat),u5= .slice g9 h0 h1/\Heap.le o8 o9/\wpH P (Builtin.append_ #[43,43] 43 #[.slice g6 g7 g8,.slice g9 h0 h1]) (fun u6 p0=>∃ (h2:OA) (h3 h4:Nat),u6= .slice h2 h3 h4/\wpH P (Instr.buildSlice 46 1 #[(0,.slice h2 h3 h4)]) (fun u7 p1=>∃ (h5:OA) (h6 h7:Nat),u7= .slice h5 h6 h7/\Heap.le p0 p1/\wpH P (Builtin.append_ #[46,46] 46 #[.slice d e f,.slice h5 h6 h7]) (fun u8 p2=>∃ (b0:OA) (b1 b2:Nat),u8= .slice b0 b1 b2/\n [.slice b0 b1 b2,I (B4 (a+1))] p2/\i [.slice b0 b1 b2,I (B4 (a+1))] p2<i [.slice d e f,I a] b) p1) p0) o9) o8) l)/\(wpH P (Instr.buildSlice 43 1 #[(0,.agg #[.bool a2,.slice a3 a4 a5,.bool a6,.slice a7 a8 a9])]) (fun u9 p3=>∃ (h8:OA) (h9 i0:Nat),u9= .slice h8 h9 i0/\Heap.le l p3/\wpH P (Builtin.append_ #[43,43] 43 #[.slice D E F,.slice p q r]) (fun v0 v1=>∃ (i1:OA) (i2 i3:Nat),v0= .slice i1 i2 i3/\wpH P (Builtin.append_ #[43,43] 43 #[.slice i1 i2 i3,.slice h8 h9 i0]) (fun v2 p4=>∃ (i4:OA) (i5 i6:Nat),v2= .slice i4 i5 i6/\wpH P (Instr.buildSlice 46 1 #[(0,.slice i4 i5 i6)]) (fun v3 p5=>∃ (i7:OA) (i8 i9:Nat),v3= .slice i7 i8 i9/\Heap.le p4 p5/\wpH P (Builtin.append_ #[46,46] 46 #[.slice d e f,.slice i7 i8 i9]) (fun v4 p6=>∃ (b3:OA) (b4 b5:Nat),v4= .slice b3 b4 b5/\n [.slice b3 b4 b5,I (B4 (a+1))] p6/\i [.slice b3 b4 b5,I (B4 (a+1))] p6<i [.slice d e f,I a] b) p5) p4) v1) p3) l))/\(wpH P (Builtin.append_ #[43,43] 43 #[.slice D E F,.slice p q r]) (fun v5 s=>∃ (j0:OA) (j1 j2:Nat),v5= .slice j0 j1 j2/\∃ (j3:Bool) (j4:OA) (j5 j6:Nat) (j7:Bool) (j8:OA) (j9 k0:Nat),s.cell? (Addr.add (g.add (a.toNat*4)) 0)=some (.bool j3)/\s.cell? (Addr.add (g.add (a.toNat*4)) 1)=some (.slice j4 j5 j6)/\s.cell? (Addr.add (g.add (a.toNat*4)) 2)=some (.bool j7)/\s.cell? (Addr.add (g.add (a.toNat*4)) 3)=some (.slice j8 j9 k0)/\wpH P (Instr.buildSlice 43 1 #[(0,.agg #[.bool j3,.slice j4 j5 j6,.bool j7,.slice j8 j9 k0])]) (fun v6 p7=>∃ (k1:OA) (k2 k3:Nat),v6= .slice k1 k2 k3/\Heap.le s p7/\wpH P (Builtin.append_ #[43,43] 43 #[.slice j0 j1 j2,.slice k1 k2 k3]) (fun v7 p8=>∃ (k4:OA) (k5 k6:Nat),v7= .slice k4 k5 k6/\wpH P (Instr.buildSlice 46 1 #[(0,.slice k4 k5 k6)]) (fun v8 p9=>∃ (k7:OA) (k8 k9:Nat),v8= .slice k7 k8 k9/\Heap.le p8 p9/\wpH P (Builtin.append_ #[46,46] 46 #[.slice d e f,.slice k7 k8 k9]) (fun v9 q0=>∃ (b6:OA) (b7 b8:Nat),v9= .slice b6 b7 b8/\n [.slice b6 b7 b8,I (B4 (a+1))] q0/\i [.slice b6 b7 b8,I (B4 (a+1))] q0<i [.slice d e f,I a] b) p9) p8) p7) s) l)) b))
 (FCall P Mm #[.slice d e f,I (c:Int)] b (fun w0 w1=>∃ (b9:OA) (G r2:Nat) (l0:OA) (H r3:Nat) (r4:Bool) (r5:OA) (r6 r7:Nat) (r8:Bool) (r9:OA) (s0 s1:Nat),w0= .tuple #[.slice b9 G r2,.slice l0 H r3,.agg #[.bool r4,.slice r5 r6 r7,.bool r8,.slice r9 s0 s1]]/\∃ (c0:List Value->Heap->Prop) (l1:List Value->Heap->Nat),c0 [I (H:Int)] w1/\
 ∀ (o:Int),∀ m,c0 [I o] m->Br (decide (o<(G:Int))) (∃ q4,b9=some q4/\0<=o/\o<(G:Int)/\∃ (l2:OA) (l3 s2:Nat),m.cell? (q4.add (o.toNat*1))=some (.slice l2 l3 s2)/\∃ t,l2=some t/\0<=(c:Int)/\(c:Int)<(l3:Int)/\∃ (l4:Bool) (l5:OA) (l6 l7:Nat) (l8:Bool) (l9:OA) (m0 m1:Nat),m.cell? (Addr.add (t.add (((c:Int)).toNat*4)) 0)=some (.bool l4)/\m.cell? (Addr.add (t.add (((c:Int)).toNat*4)) 1)=some (.slice l5 l6 l7)/\m.cell? (Addr.add (t.add (((c:Int)).toNat*4)) 2)=some (.bool l8)/\m.cell? (Addr.add (t.add (((c:Int)).toNat*4)) 3)=some (.slice l9 m0 m1)/\FCall P Du #[.agg #[.bool l4,.slice l5 l6 l7,.bool l8,.slice l9 m0 m1]] m (fun w2 c5=>∃ (m2:Int),w2=I m2/\Br (m2 != (0:Int)) (K (.tuple #[.slice none 0 0,.bool false]) c5)
 (c0 [I (B4 (o+1))] c5/\l1 [I (B4 (o+1))] c5<l1 [I o] m)))
 (wpH P (Instr.makeSlice 43 (I (c:Int)) (I (c:Int))) (fun w3 w4=>∃ (c1:OA) (c2 m3:Nat),w3= .slice c1 c2 m3/\∃ (c3:List Value->Heap->Prop) (m4:List Value->Heap->Nat),c3 [I 0] w4/\
 ∀ (j:Int),∀ k,c3 [I j] k->Br (decide (j<(H:Int))) (∃ q5,l0=some q5/\0<=j/\j<(H:Int)/\∃ (J:Int),k.cell? (q5.add (j.toNat*1))=some (I J)/\∃ q6,b9=some q6/\0<=j/\j<(G:Int)/\∃ (m5:OA) (m6 s3:Nat),k.cell? (q6.add (j.toNat*1))=some (.slice m5 m6 s3)/\∃ u,m5=some u/\0<=(c:Int)/\(c:Int)<(m6:Int)/\∃ (m7:Bool) (m8:OA) (m9 n0:Nat) (n1:Bool) (n2:OA) (n3 n4:Nat),k.cell? (Addr.add (u.add (((c:Int)).toNat*4)) 0)=some (.bool m7)/\k.cell? (Addr.add (u.add (((c:Int)).toNat*4)) 1)=some (.slice m8 m9 n0)/\k.cell? (Addr.add (u.add (((c:Int)).toNat*4)) 2)=some (.bool n1)/\k.cell? (Addr.add (u.add (((c:Int)).toNat*4)) 3)=some (.slice n2 n3 n4)/\∃ q7,c1=some q7/\0<=J/\J<(c2:Int)/\wpH P (Instr.storeAt 54 (.pointer (some (q7.add (J.toNat*4)))) (.agg #[.bool m7,.slice m8 m9 n0,.bool n1,.slice n2 n3 n4])) (fun _ q1=>c3 [I (B4 (j+1))] q1/\m4 [I (B4 (j+1))] q1<m4 [I j] k) k)
 (K (.tuple #[.slice c1 c2 m3,.bool true]) k)) m)))
theorem A0r(a:OA)(b d:Nat)(e:OA)(f g:Nat)(hvc:A0s Tryz.prog a b d e f g h K):FCall Tryz.prog Ig #[.slice a b d,.slice e f g] h K:=
 B8 Tryz.func83 (c:=C2 Tryz.f83) (by kernel_rfl) (rs:=[.tmp 4,.tmp 5]) (by kernel_rfl) (fa:={ loops:=[(4,⟨[7,8],[],[.slice none 0 0,.int .i64 0],⟨([7,8]++Lrg 19 21),[]⟩⟩),(9,⟨[12],[],[.int .i64 0],⟨([4,5,12]++Lrg 49 15),[]⟩⟩),(15,⟨[14],[],[.int .i64 0],⟨([14]++Lrg 66 19),[]⟩⟩)],cuts:=[],orders:=[(6,([0,2,3,4,5,7,8,9,10,1,6,11,12,13,14,15],[[],[],[],[],[2,3],[2,3,4],[1,2,3,4,5],[],[],[7,8],[7,8,9],[7,8,9,10],(Lrg 1 11),(Lrg 1 12),(Lrg 0 14),(Lrg 0 15)])),(17,((Lrg 0 14),[[],[],[],[1,2],[1,2,3],[],[],[5,6],[5,6,7],[],[5,6,7,8,9],[5,6,7,8,9,10],(Lrg 0 12),(Lrg 0 13)]))],alts:=[(6,[(1,[11]),(6,[11]),(10,[1,6])])] })
  (cfg:=⟨86,[11],none,[32,72],[1000000000],false⟩) (args:=[.slice a b d,.slice e f g]) (by kernel_rfl) (B0 Tryz.call32 (B0 Tryz.call72 Bodies.nil)) (Eq.mp (by kernel_rfl) hvc)
def B4m(P:Program)(c:Int)(t:Int)(u:OA)(v w:Nat)(x:OA)(y z:Nat)(h:Heap)(K:Value->Heap->Prop):Prop:=
 FCall P Wx #[.agg #[I c,I t,.slice u v w]] h (fun A B=>∃ (d:OA) (e f:Nat) (g:Bool),A= .tuple #[.slice d e f,.bool g]/\FCall P Mj #[.slice x y z] B (fun C a=>∃ (i:OA) (b j:Nat) (k:Bool),C= .tuple #[.slice i b j,.bool k]/\Br (!g) (K (.tuple #[.slice none 0 0,I 1]) a)
 (Br (!k) (K (.tuple #[.slice none 0 0,I 1]) a)
 (Br ((b:Int) != c) (K (.tuple #[.slice none 0 0,I 4]) a)
 (FCall P Ig #[.slice d e f,.slice i b j] a (fun D s=>∃ (l:OA) (m n:Nat) (o:Bool),D= .tuple #[.slice l m n,.bool o]/\Br (!o) (K (.tuple #[.slice none 0 0,I 8]) s)
 (FCall P Wn #[.slice l m n] s (fun E F=>∃ (p:OA) (q r:Nat),E= .slice p q r/\K (.tuple #[.slice p q r,I 0]) F))))))))
theorem B0f(a:Int)(b:Int)(d:OA)(e f:Nat)(g:OA)(i j:Nat)(hvc:B4m Tryz.prog a b d e f g i j h K):FCall Tryz.prog Ww #[.agg #[I a,I b,.slice d e f],.slice g i j] h K:=
 B8 Tryz.func24 (c:=C2 Tryz.f24) (by kernel_rfl) (rs:=[.tmp 4,.tmp 5]) (by kernel_rfl) (fa:=⟨[],[],[],[],[]⟩)
  (cfg:=⟨43,[2],none,[26,27,83,84],[],false⟩) (args:=[.agg #[I a,I b,.slice d e f],.slice g i j]) (by kernel_rfl) (B0 Tryz.call26 (B0 Tryz.call27 (B0 Tryz.call83 (B0 Tryz.call84 Bodies.nil)))) (Eq.mp (by kernel_rfl) hvc)
def B4k(P:Program)(i:Int)(j:OA)(d k:Nat)(h:Heap)(K:Value->Heap->Prop):Prop:=
 ∃ (c:List Value->Heap->Prop) (e:List Value->Heap->Nat),c [I 0] h/\
 ∀ (a:Int),∀ b,c [I a] b->Br (decide (a<(d:Int))) (∃ g,j=some g/\0<=a/\a<(d:Int)/\∃ (f:ByteArray),b.cell? (g.add (a.toNat*1))=some (.string f)/\Br (decide (((ByteArray.size f:Nat):Int)>i)) (K (.bool false) b)
 (c [I (B4 (a+1))] b/\e [I (B4 (a+1))] b<e [I a] b))
 (K (.bool true) b)
theorem B0d(a:Int)(b:OA)(d e:Nat)(hvc:B4k Tryz.prog a b d e h K):FCall Tryz.prog Pe #[I a,.slice b d e] h K:=
 B8 Tryz.func22 (c:=C2 Tryz.f22) (by kernel_rfl) (rs:=[.tmp 4]) (by kernel_rfl) (fa:=⟨[(2,⟨[5],[],[.int .i64 0],⟨(Lrg 4 15),[]⟩⟩)],[],[],[],[]⟩)
  (cfg:=⟨19,[],none,[],[],false⟩) (args:=[I a,.slice b d e]) (by kernel_rfl) Bodies.nil (Eq.mp (by kernel_rfl) hvc)
def Od(P:Program)(d:Int)(e:Int)(f:OA)(b g:Nat)(a:Int)(i:Int)(h:Heap)(K:Value->Heap->Prop):Prop:=
 Br (decide (d<=a)) (Br (decide (e<=a)) (Br (decide ((b:Int)<=(B4 ((B4 (a*a))+2)))) (FCall P Pe #[I i,.slice f b g] h (fun j k=>∃ (c:Bool),j= .bool c/\K (.bool c) k))
 (K (.bool false) h))
 (K (.bool false) h))
 (K (.bool false) h)
theorem Se(a:Int)(b:Int)(d:OA)(e f:Nat)(g:Int)(i:Int)(hvc:Od Tryz.prog a b d e f g i h K):FCall Tryz.prog Bw #[.agg #[I a,I b,.slice d e f],I g,I i] h K:=
 B8 Tryz.func48 (c:=C2 Tryz.f48) (by kernel_rfl) (rs:=[.tmp 6]) (by kernel_rfl) (fa:=⟨[],[],[],[],[]⟩)
  (cfg:=⟨33,[3],none,[22],[],false⟩) (args:=[.agg #[I a,I b,.slice d e f],I g,I i]) (by kernel_rfl) (B0 Tryz.call22 Bodies.nil) (Eq.mp (by kernel_rfl) hvc)
def A4a(P:Program)(l:OA)(c n:Nat)(m:OA)(e o:Nat)(h:Heap)(K:Value->Heap->Prop):Prop:=
 Br ((c:Int) != (e:Int)) (K (.bool false) h)
 (∃ (d:List Value->Heap->Prop) (f:List Value->Heap->Nat),d [I 0] h/\
 ∀ (a:Int),∀ b,d [I a] b->Br (decide (a<(c:Int))) (∃ j,l=some j/\0<=a/\a<(c:Int)/\∃ (g:ByteArray),b.cell? (j.add (a.toNat*1))=some (.string g)/\∃ k,m=some k/\0<=a/\a<(e:Int)/\∃ (i:ByteArray),b.cell? (k.add (a.toNat*1))=some (.string i)/\Br (!(ByteArray.toList g==ByteArray.toList i)) (K (.bool false) b)
 (d [I (B4 (a+1))] b/\f [I (B4 (a+1))] b<f [I a] b))
 (K (.bool true) b))
theorem A2x(a:OA)(b d:Nat)(e:OA)(f g:Nat)(hvc:A4a Tryz.prog a b d e f g h K):FCall Tryz.prog Gx #[.slice a b d,.slice e f g] h K:=
 B8 Tryz.func25 (c:=C2 Tryz.f25) (by kernel_rfl) (rs:=[.tmp 4]) (by kernel_rfl) (fa:=⟨[(4,⟨[5],[],[.int .i64 0],⟨([4,5]++Lrg 11 15),[]⟩⟩)],[],[(6,((Lrg 0 9),[[],[],[0,1],[0,1,2],[],[],[4,5],[4,5,6],(Lrg 0 8)]))],[],[]⟩)
  (cfg:=⟨26,[],none,[],[],false⟩) (args:=[.slice a b d,.slice e f g]) (by kernel_rfl) Bodies.nil (Eq.mp (by kernel_rfl) hvc)
def B8n(P:Program)(l:OA)(c n:Nat)(m:OA)(e o:Nat)(h:Heap)(K:Value->Heap->Prop):Prop:=
 Br ((c:Int) != (e:Int)) (K (.bool false) h)
 (∃ (d:List Value->Heap->Prop) (f:List Value->Heap->Nat),d [I 0] h/\
 ∀ (a:Int),∀ b,d [I a] b->Br (decide (a<(c:Int))) (∃ j,l=some j/\0<=a/\a<(c:Int)/\∃ (g:Int),b.cell? (j.add (a.toNat*1))=some (I g)/\∃ k,m=some k/\0<=a/\a<(e:Int)/\∃ (i:Int),b.cell? (k.add (a.toNat*1))=some (I i)/\Br (g != i) (K (.bool false) b)
 (d [I (B4 (a+1))] b/\f [I (B4 (a+1))] b<f [I a] b))
 (K (.bool true) b))
theorem B2z(a:OA)(b d:Nat)(e:OA)(f g:Nat)(hvc:B8n Tryz.prog a b d e f g h K):FCall Tryz.prog A29 #[.slice a b d,.slice e f g] h K:=
 B8 Tryz.func21 (c:=C2 Tryz.f21) (by kernel_rfl) (rs:=[.tmp 4]) (by kernel_rfl) (fa:=⟨[(4,⟨[5],[],[.int .i64 0],⟨([4,5]++Lrg 11 15),[]⟩⟩)],[],[(6,((Lrg 0 9),[[],[],[0,1],[0,1,2],[],[],[4,5],[4,5,6],(Lrg 0 8)]))],[],[]⟩)
  (cfg:=⟨26,[],none,[],[],false⟩) (args:=[.slice a b d,.slice e f g]) (by kernel_rfl) Bodies.nil (Eq.mp (by kernel_rfl) hvc)
def B4j(P:Program) (h:Heap)(K:Value->Heap->Prop):Prop:=
 wpH P (Instr.buildSlice 22 4 #[(0,.string ({ data:=#[50] }:ByteArray)),(1,.string ({ data:=#[52] }:ByteArray)),(2,.string ({ data:=#[49] }:ByteArray)),(3,.string ({ data:=#[50] }:ByteArray))]) (fun D E=>∃ (b:OA) (c d:Nat),D= .slice b c d/\FCall P Qu #[.agg #[I 2,I 2,.slice b c d]] E (fun F G=>∃ (B:Int) (C:Int) (e:OA) (f g:Nat) (i:OA) (j k:Nat) (l:Int),F= .tuple #[.agg #[I B,I C,.slice e f g],.slice i j k,I l]/\wpH P (Instr.buildSlice 22 4 #[(0,.string ({ data:=#[49] }:ByteArray)),(1,.string ({ data:=#[50] }:ByteArray)),(2,.string ({ data:=#[51] }:ByteArray)),(3,.string ({ data:=#[52] }:ByteArray))]) (fun H J=>∃ (m:OA) (n o:Nat),H= .slice m n o/\FCall P A8b #[.agg #[I 2,I 2,.slice m n o]] J (fun L z=>∃ (p:ByteArray) (q:Int),L= .tuple #[.string p,I q]/\Br (l==(0:Int)) (wpH P (Instr.buildSlice 22 4 #[(0,.string ({ data:=#[49] }:ByteArray)),(1,.string ({ data:=#[50] }:ByteArray)),(2,.string ({ data:=#[48] }:ByteArray)),(3,.string ({ data:=#[48] }:ByteArray))]) (fun M N=>∃ (r:OA) (s t:Nat),M= .slice r s t/\FCall P Gx #[.slice e f g,.slice r s t] N (fun O A=>∃ (u:Bool),O= .bool u/\Br u (wpH P (Instr.buildSlice 27 1 #[(0,I 0)]) (fun Q R=>∃ (v:OA) (w x:Nat),Q= .slice v w x/\FCall P A29 #[.slice i j k,.slice v w x] R (fun S a=>∃ (y:Bool),S= .bool y/\Br y (Br (ByteArray.toList p==ByteArray.toList ({ data:=#[45,50] }:ByteArray)) (K (.bool (q==(0:Int))) a)
 (K (.bool false) a))
 (K (.bool false) a))) A)
 (K (.bool false) A))) z)
 (K (.bool false) z))) G)) h
theorem B0c (hvc:B4j Tryz.prog  h K):FCall Tryz.prog Bm #[] h K:=
 B8 Tryz.func14 (c:=C2 Tryz.f14) (by kernel_rfl) (rs:=[.tmp 0]) (by kernel_rfl) (fa:=⟨[],[],[],[],[]⟩)
  (cfg:=⟨42,[1,2],none,[15,21,25,37],[],false⟩) (args:=[]) (by kernel_rfl) (B0 Tryz.call15 (B0 Tryz.call21 (B0 Tryz.call25 (B0 Tryz.call37 Bodies.nil)))) (Eq.mp (by kernel_rfl) hvc)
def B4i(P:Program)(b:Int)(c:Int)(d:OA)(e f:Nat)(h:Heap)(K:Value->Heap->Prop):Prop:=
 FCall P Bw #[.agg #[I b,I c,.slice d e f],I 6,I 12] h (fun g i=>∃ (a:Bool),g= .bool a/\K (.bool a) i)
theorem B0b(a:Int)(b:Int)(d:OA)(e f:Nat)(hvc:B4i Tryz.prog a b d e f h K):FCall Tryz.prog Wv #[.agg #[I a,I b,.slice d e f]] h K:=
 B8 Tryz.func13 (c:=C2 Tryz.f13) (by kernel_rfl) (rs:=[.tmp 2]) (by kernel_rfl) (fa:=⟨[],[],[],[],[]⟩)
  (cfg:=⟨5,[1],none,[48],[],false⟩) (args:=[.agg #[I a,I b,.slice d e f]]) (by kernel_rfl) (B0 Tryz.call48 Bodies.nil) (Eq.mp (by kernel_rfl) hvc)
def Oc(P:Program)(c:Int)(g:Int)(i:OA)(j k:Nat)(l:OA)(d m:Nat)(h:Heap)(K:Value->Heap->Prop):Prop:=
 FCall P Wv #[.agg #[I c,I g,.slice i j k]] h (fun c9 v=>∃ (x:Bool),c9= .bool x/\Br (!x) (FCall P Bm #[] v (fun d0 d1=>∃ (y:Bool),d0= .bool y/\K (.bool y) d1))
 (Br (decide ((d:Int)>(10:Int))) (FCall P Bm #[] v (fun d2 d3=>∃ (z:Bool),d2= .bool z/\K (.bool z) d3))
 (FCall P Pe #[I 20,.slice l d m] v (fun d4 c5=>∃ (A:Bool),d4= .bool A/\Br (!A) (FCall P Bm #[] c5 (fun d5 d6=>∃ (B:Bool),d5= .bool B/\K (.bool B) d6))
 (FCall P Wt #[.agg #[I c,I g,.slice i j k],.slice l d m] c5 (fun d7 d8=>∃ (C:OA) (D E:Nat) (F:OA) (p G:Nat) (q:Int),d7= .tuple #[.slice C D E,.slice F p G,I q]/\FCall P Ww #[.agg #[I c,I g,.slice i j k],.slice l d m] d8 (fun d9 c6=>∃ (H:OA) (J L:Nat) (M:Int),d9= .tuple #[.slice H J L,I M]/\Br (q != M) (K (.bool false) c6)
 (FCall P Gx #[.slice C D E,.slice H J L] c6 (fun e0 o=>∃ (N:Bool),e0= .bool N/\Br (!N) (K (.bool false) o)
 (Br (q != (8:Int)) (Br ((p:Int)==(0:Int)) (FCall P Bm #[] o (fun e1 e2=>∃ (O:Bool),e1= .bool O/\K (.bool O) e2))
 (K (.bool false) o))
 (FCall P Mj #[.slice F p G] o (fun e3 e4=>∃ (r:OA) (n s:Nat) (Q:Bool),e3= .tuple #[.slice r n s,.bool Q]/\FCall P Mj #[.slice l d m] e4 (fun e5 e6=>∃ (R:OA) (S T:Nat) (V:Bool),e5= .tuple #[.slice R S T,.bool V]/\FCall P Wx #[.agg #[I c,I g,.slice i j k]] e6 (fun e7 e=>∃ (W:OA) (X Z:Nat) (a0:Bool),e7= .tuple #[.slice W X Z,.bool a0]/\Br (!Q) (K (.bool false) e)
 (Br (!V) (K (.bool false) e)
 (Br (!a0) (K (.bool false) e)
 (Br ((n:Int) != c) (K (.bool false) e)
 (FCall P A3s #[.slice r n s,.slice R S T] e (fun e8 e9=>∃ (a1:Bool) (a2:OA) (a3 a4:Nat) (a5:Bool) (a6:OA) (a7 a8:Nat),e8= .agg #[.bool a1,.slice a2 a3 a4,.bool a5,.slice a6 a7 a8]/\FCall P Ie #[.agg #[.bool a1,.slice a2 a3 a4,.bool a5,.slice a6 a7 a8]] e9 (fun f0 c7=>∃ (a9:ByteArray),f0= .string a9/\Br (!(ByteArray.toList a9==ByteArray.toList ({ data:=#[49] }:ByteArray))) (K (.bool false) c7)
 (FCall P A2a #[.slice W X Z] c7 (fun f1 f2=>∃ (b0:OA) (b1 b2:Nat),f1= .slice b0 b1 b2/\FCall P A8e #[.slice b0 b1 b2,.slice r n s] f2 (fun f3 f4=>∃ (b3:OA) (t c8:Nat),f3= .slice b3 t c8/\∃ (u:List Value->Heap->Prop) (b4:List Value->Heap->Nat),u [I 0] f4/\
 ∀ (a:Int),∀ b,u [I a] b->Br (decide (a<(t:Int))) (∃ f,b3=some f/\0<=a/\a<(t:Int)/\∃ (b5:Bool) (b6:OA) (b7 b8:Nat) (b9:Bool) (c0:OA) (c1 c2:Nat),b.cell? (Addr.add (f.add (a.toNat*4)) 0)=some (.bool b5)/\b.cell? (Addr.add (f.add (a.toNat*4)) 1)=some (.slice b6 b7 b8)/\b.cell? (Addr.add (f.add (a.toNat*4)) 2)=some (.bool b9)/\b.cell? (Addr.add (f.add (a.toNat*4)) 3)=some (.slice c0 c1 c2)/\FCall P Du #[.agg #[.bool b5,.slice b6 b7 b8,.bool b9,.slice c0 c1 c2]] b (fun f5 w=>∃ (c3:Int),f5=I c3/\Br (c3 != (0:Int)) (K (.bool false) w)
 (u [I (B4 (a+1))] w/\b4 [I (B4 (a+1))] w<b4 [I a] b)))
 (FCall P Bm #[] b (fun f6 f7=>∃ (c4:Bool),f6= .bool c4/\K (.bool c4) f7)))))))))))))))))))))))))
theorem Sd(a:Int)(b:Int)(d:OA)(e f:Nat)(g:OA)(i j:Nat)(hvc:Oc Tryz.prog a b d e f g i j h K):FCall Tryz.prog Hj #[.agg #[I a,I b,.slice d e f],.slice g i j] h K:=
 B8 Tryz.func4 (c:=C2 Tryz.f4) (by kernel_rfl) (rs:=[.tmp 4]) (by kernel_rfl) (fa:=⟨[(16,⟨[17],[],[.int .i64 0],⟨([4,17]++Lrg 105 12),[]⟩⟩)],[],[],[],[]⟩)
  (cfg:=⟨118,[2],none,([13,14]++Lrg 22 11),[],false⟩) (args:=[.agg #[I a,I b,.slice d e f],.slice g i j]) (by kernel_rfl) (B0 Tryz.call13 (B0 Tryz.call14 (B0 Tryz.call22 (B0 Tryz.call23 (B0 Tryz.call24 (B0 Tryz.call25 (B0 Tryz.call26 (B0 Tryz.call27 (B0 Tryz.call28 (B0 Tryz.call29 (B0 Tryz.call30 (B0 Tryz.call31 (B0 Tryz.call32 Bodies.nil))))))))))))) (Eq.mp (by kernel_rfl) hvc)
end Go.Proofs.YthilnfgnpdeofaaGreatDoor
