/-
  Texts of this proof, merged by a program of ours.
-/
import Derived.Test.YthilnfgnpdeofaaGreatDoorProg
import Derived.Test.YthilnfgnpdeofaaGreatDoorG05
import Derived.Test.YthilnfgnpdeofaaGreatDoorG12
import Derived.Test.YthilnfgnpdeofaaGreatDoorG06
import Derived.Test.YthilnfgnpdeofaaGreatDoorG09
import Derived.Test.YthilnfgnpdeofaaGreatDoorG26
import Derived.Test.YthilnfgnpdeofaaGreatDoorG08
namespace Go.Proofs.YthilnfgnpdeofaaGreatDoor
open Go
set_option maxRecDepth 100000
set_option linter.unusedVariables false
variable {h:Heap} {K:Value->Heap->Prop}
abbrev Np:Nat:=79
abbrev No:Nat:=81
abbrev Q8:Nat:=132
abbrev Xi:Nat:=96
abbrev Ru:Nat:=133
abbrev B9i:Nat:=43
abbrev Jg:Nat:=108
abbrev Ns:Nat:=67
abbrev Ht:Nat:=71
abbrev C0w:Nat:=49
abbrev B65:Nat:=51
abbrev C1p:Nat:=54
abbrev B46:Nat:=45
abbrev C0y:Nat:=57
abbrev C0v:Nat:=60
abbrev B7b:Nat:=116
abbrev B9l:Nat:=46
abbrev C0x:Nat:=33
abbrev B9n:Nat:=35
abbrev B47:Nat:=94
abbrev B7a:Nat:=91
abbrev Rw:Nat:=15
abbrev C07:Nat:=17
abbrev A0q:Nat:=37
abbrev Nt:Nat:=39
abbrev B9k:Nat:=23
abbrev B83:Nat:=18
abbrev B64:Nat:=41
abbrev B81:Nat:=80
abbrev B2d:Nat:=111
abbrev B2e:Nat:=82
abbrev B9j:Nat:=92
abbrev R5:Nat:=68
abbrev Gm:Nat:=76
abbrev Xx:Nat:=102
abbrev Xy:Nat:=101
abbrev Qd:Nat:=104
abbrev Dk:Nat:=69
abbrev B9u:Nat:=270
abbrev Xr:Nat:=131
abbrev Gi:Nat:=174
abbrev B66:Nat:=74
abbrev B9m:Nat:=141
abbrev B84:Nat:=113
abbrev B82:Nat:=114
abbrev C08:Nat:=164
abbrev B9p:Nat:=53
abbrev Rx:Nat:=27
abbrev Ry:Nat:=73
abbrev Qb:Nat:=89
abbrev A30:Nat:=115
abbrev Xv:Nat:=105
abbrev C09:Nat:=31
abbrev B9q:Nat:=93
abbrev C13:Nat:=29
abbrev C14:Nat:=30
abbrev Hw:Nat:=72
abbrev C11:Nat:=50
abbrev B69:Nat:=52
abbrev C1q:Nat:=55
abbrev B4b:Nat:=56
abbrev B7c:Nat:=58
abbrev B9s:Nat:=61
abbrev C12:Nat:=34
abbrev B9t:Nat:=36
abbrev B85:Nat:=16
abbrev A4i:Nat:=38
abbrev Rz:Nat:=99
abbrev Nu:Nat:=40
abbrev C0a:Nat:=78
abbrev B86:Nat:=19
abbrev B67:Nat:=83
abbrev B9r:Nat:=24
abbrev B68:Nat:=42
abbrev Xt:Nat:=22
abbrev Cw:Nat:=48
abbrev Hu:Nat:=25
abbrev Xu:Nat:=21
abbrev Bz:Nat:=20
abbrev B4a:Nat:=44
abbrev C0z:Nat:=110
abbrev B9o:Nat:=47
abbrev C10:Nat:=64
abbrev Ll:Nat:=14
abbrev Xs:Nat:=13
abbrev B49:Nat:=9
abbrev A8w:Nat:=10
abbrev A5x:Nat:=5
abbrev A8v:Nat:=3
abbrev Fe:Nat:=6
abbrev B15:Nat:=4
abbrev B2f:Nat:=8
abbrev A1w:Nat:=12
abbrev A6z:Nat:=11
abbrev B48:Nat:=7
abbrev We:Nat:=185
abbrev Ql:Nat:=99
abbrev Mo:Nat:=90
abbrev B9z:Nat:=24
abbrev B9y:Nat:=126
abbrev Cg:Nat:=27
abbrev E4:Nat:=3
theorem A7m:SliceT Tryz.prog Cg E4 (I 0) 1 8:=⟨by kernel_rfl,by kernel_rfl,rfl,by decide⟩
theorem Qr:Tryz.prog.cellsOf E4=1/\(Tryz.prog.info? E4).isSome=true:=⟨by kernel_rfl,by kernel_rfl⟩
abbrev Bm:Nat:=87
abbrev I3:Nat:=101
theorem A7l:SliceT Tryz.prog Bm I3 (.agg #[.bool false,.slice none 0 0,.bool false,.slice none 0 0]) 4 64:=⟨by kernel_rfl,by kernel_rfl,rfl,by decide⟩
theorem Kb:Tryz.prog.cellsOf I3=4/\(Tryz.prog.info? I3).isSome=true:=⟨by kernel_rfl,by kernel_rfl⟩
abbrev Ol:Nat:=97
abbrev Jx:Nat:=94
theorem tZs:SliceT Tryz.prog Ol Jx (.agg #[.bool false,.slice none 0 0]) 2 32:=⟨by kernel_rfl,by kernel_rfl,rfl,by decide⟩
theorem A7j:Tryz.prog.cellsOf Jx=2/\(Tryz.prog.info? Jx).isSome=true:=⟨by kernel_rfl,by kernel_rfl⟩
abbrev Fw:Nat:=46
abbrev G0:Nat:=43
theorem B7k:SliceT Tryz.prog Fw G0 (.slice none 0 0) 1 24:=⟨by kernel_rfl,by kernel_rfl,rfl,by decide⟩
theorem Kc:Tryz.prog.cellsOf G0=1/\(Tryz.prog.info? G0).isSome=true:=⟨by kernel_rfl,by kernel_rfl⟩
abbrev B9d:Nat:=123
abbrev B77:Nat:=126
abbrev B7g:Nat:=71
abbrev B5e:Nat:=22
def A4v(P:Program)(x:OA)(c B:Nat)(h:Heap)(K:Value->Heap->Prop):Prop:=
 wpH P (Instr.makeSlice 87 (I (c:Int)) (I (c:Int))) (fun y z=>∃ (d:OA) (e g:Nat),y= .slice d e g/\∃ (f:List Value->Heap->Prop) (i:List Value->Heap->Nat),f [I 0] z/\
 ∀ (a:Int),∀ b,f [I a] b->Br (decide (a<(c:Int))) (∃ v,x=some v/\0<=a/\a<(c:Int)/\∃ (j:ByteArray),b.cell? (v.add (a.toNat*1))=some (.string j)/\FCall P A2w #[.string j] b (fun A t=>∃ (k:Bool) (l:OA) (m n:Nat) (o:Bool) (p:OA) (q r:Nat) (s:Bool),A= .tuple #[.agg #[.bool k,.slice l m n,.bool o,.slice p q r],.bool s]/\Br (!s) (K (.tuple #[.slice none 0 0,.bool false]) t)
 (∃ w,d=some w/\0<=a/\a<(e:Int)/\wpH P (Instr.storeAt 101 (.pointer (some (w.add (a.toNat*4)))) (.agg #[.bool k,.slice l m n,.bool o,.slice p q r])) (fun _ u=>f [I (B4 (a+1))] u/\i [I (B4 (a+1))] u<i [I a] b) t)))
 (K (.tuple #[.slice d e g,.bool true]) b)) h
theorem A3g(a:OA)(b d:Nat)(hvc:A4v Tryz.prog a b d h K):FCall Tryz.prog Np #[.slice a b d] h K:=
 B8 Tryz.func79 (c:=C1 Tryz.f79) (by kernel_rfl) (rs:=[.tmp 2,.tmp 3]) (by kernel_rfl) (fa:=⟨[(3,⟨[14],[],[.int .i64 0],⟨([2,3,5,6,7,8]++Lrg 14 17),[7]⟩⟩)],[],[],[],[]⟩)
  (cfg:=⟨32,[7],none,[112],[],false⟩) (args:=[.slice a b d]) (by kernel_rfl) (B0 Tryz.call112 Bodies.nil) (Eq.mp (by kernel_rfl) hvc)
def A4u(P:Program)(v:OA)(d A:Nat)(h:Heap)(K:Value->Heap->Prop):Prop:=
 wpH P (Instr.makeSlice 22 (I (d:Int)) (I (d:Int))) (fun w x=>∃ (e:OA) (f i:Nat),w= .slice e f i/\∃ (g:List Value->Heap->Prop) (j:List Value->Heap->Nat),g [I 0] x/\
 ∀ (a:Int),∀ b,g [I a] b->Br (decide (a<(d:Int))) (∃ c,v=some c/\0<=a/\a<(d:Int)/\∃ (k:Bool) (l:OA) (m n:Nat) (o:Bool) (p:OA) (q r:Nat),b.cell? (Addr.add (c.add (a.toNat*4)) 0)=some (.bool k)/\b.cell? (Addr.add (c.add (a.toNat*4)) 1)=some (.slice l m n)/\b.cell? (Addr.add (c.add (a.toNat*4)) 2)=some (.bool o)/\b.cell? (Addr.add (c.add (a.toNat*4)) 3)=some (.slice p q r)/\FCall P Lc #[.agg #[.bool k,.slice l m n,.bool o,.slice p q r]] b (fun y z=>∃ (s:ByteArray),y= .string s/\∃ u,e=some u/\0<=a/\a<(f:Int)/\wpH P (Instr.storeAt 9 (.pointer (some (u.add (a.toNat*1)))) (.string s)) (fun _ t=>g [I (B4 (a+1))] t/\j [I (B4 (a+1))] t<j [I a] b) z))
 (K (.slice e f i) b)) h
theorem A3f(a:OA)(b d:Nat)(hvc:A4u Tryz.prog a b d h K):FCall Tryz.prog No #[.slice a b d] h K:=
 B8 Tryz.func81 (c:=C1 Tryz.f81) (by kernel_rfl) (rs:=[.tmp 2]) (by kernel_rfl) (fa:=⟨[(3,⟨[11],[],[.int .i64 0],⟨([4,5]++Lrg 11 11),[5]⟩⟩)],[],[],[],[]⟩)
  (cfg:=⟨23,[5],none,[95],[],false⟩) (args:=[.slice a b d]) (by kernel_rfl) (B0 Tryz.call95 Bodies.nil) (Eq.mp (by kernel_rfl) hvc)
def Cq(P:Program)(C:OA)(u O:Nat)(h:Heap)(K:Value->Heap->Prop):Prop:=
 FCall P Ou #[I 1] h (fun H J=>∃ (v:Bool) (w:OA) (x y:Nat),H= .agg #[.bool v,.slice w x y]/\∃ (i:List Value->Heap->Prop) (g:List Value->Heap->Nat),i [I 0,.bool v,.slice w x y] J/\
 ∀ (a:Int) (b:Bool) (c:OA) (d e:Nat),∀ f,i [I a,.bool b,.slice c d e] f->Br (decide (a<(u:Int))) (∃ j,C=some j/\0<=a/\a<(u:Int)/\∃ (D:Bool) (E:OA) (F G:Nat) (k:Bool) (l:OA) (m n:Nat),f.cell? (Addr.add (j.add (a.toNat*4)) 0)=some (.bool D)/\f.cell? (Addr.add (j.add (a.toNat*4)) 1)=some (.slice E F G)/\f.cell? (Addr.add (j.add (a.toNat*4)) 2)=some (.bool k)/\f.cell? (Addr.add (j.add (a.toNat*4)) 3)=some (.slice l m n)/\FCall P H8 #[.agg #[.bool k,.slice l m n]] f (fun L s=>∃ (z:Bool),L= .bool z/\Br (!z) (FCall P Xg #[.agg #[.bool k,.slice l m n],.agg #[.bool b,.slice c d e]] s (fun M t=>∃ (A:Bool),M= .bool A/\Br (!A) (FCall P A8s #[.agg #[.bool b,.slice c d e],.agg #[.bool k,.slice l m n]] t (fun N B=>∃ (o:Bool) (p:OA) (q r:Nat),N= .agg #[.bool o,.slice p q r]/\i [I (B4 (a+1)),.bool o,.slice p q r] B/\g [I (B4 (a+1)),.bool o,.slice p q r] B<g [I a,.bool b,.slice c d e] f))
 (i [I (B4 (a+1)),.bool b,.slice c d e] t/\g [I (B4 (a+1)),.bool b,.slice c d e] t<g [I a,.bool b,.slice c d e] f)))
 (i [I (B4 (a+1)),.bool b,.slice c d e] s/\g [I (B4 (a+1)),.bool b,.slice c d e] s<g [I a,.bool b,.slice c d e] f)))
 (K (.agg #[.bool b,.slice c d e]) f))
theorem Hc(a:OA)(b d:Nat)(hvc:Cq Tryz.prog a b d h K):FCall Tryz.prog Q8 #[.slice a b d] h K:=
 B8 Tryz.func132 (c:=C1 Tryz.f132) (by kernel_rfl) (rs:=[.cell 2 94]) (by kernel_rfl) (fa:=⟨[(3,⟨[9],[(3,2)],[.int .i64 0,.bool false,.slice none 0 0],⟨([5]++Lrg 9 20),[3,5]⟩⟩)],[],[],[],[]⟩)
  (cfg:=⟨30,[2,3,5],none,[100,135,175,176],[],false⟩) (args:=[.slice a b d]) (by kernel_rfl) (B0 Tryz.call100 (B0 Tryz.call135 (B0 Tryz.call175 (B0 Tryz.call176 Bodies.nil)))) (Eq.mp (by kernel_rfl) hvc)
def B4s(P:Program)(a:Bool)(b:OA)(c d:Nat)(h:Heap)(K:Value->Heap->Prop):Prop:=
 K (.agg #[.bool a,.slice b c d,.bool false,.slice none 0 0]) h
theorem A9y(a:Bool)(b:OA)(d e:Nat)(hvc:B4s Tryz.prog a b d e h K):FCall Tryz.prog Xi #[.agg #[.bool a,.slice b d e]] h K:=
 B8 Tryz.func96 (c:=C1 Tryz.f96) (by kernel_rfl) (rs:=[.cell 2 101]) (by kernel_rfl) (fa:=⟨[],[],[],[],[]⟩)
  (cfg:=⟨5,[1,2],none,[],[],false⟩) (args:=[.agg #[.bool a,.slice b d e]]) (by kernel_rfl) Bodies.nil (Eq.mp (by kernel_rfl) hvc)
def B06(P:Program)(c:Bool)(d:OA)(e f:Nat)(g:Bool)(i:OA)(j k:Nat)(l:Bool)(m:OA)(n o:Nat)(h:Heap)(K:Value->Heap->Prop):Prop:=
 FCall P H8 #[.agg #[.bool g,.slice i j k]] h (fun D a=>∃ (p:Bool),D= .bool p/\Br p (FCall P Rs #[.agg #[.bool c,.slice d e f],.agg #[.bool l,.slice m n o]] a (fun E F=>∃ (q:Bool) (r:OA) (s t:Nat),E= .agg #[.bool q,.slice r s t]/\K (.agg #[.bool q,.slice r s t]) F))
 (FCall P Kz #[.agg #[.bool l,.slice m n o],.agg #[.bool g,.slice i j k]] a (fun G b=>∃ (u:Bool) (v:OA) (w x:Nat),G= .agg #[.bool u,.slice v w x]/\Heap.le a b/\FCall P Rs #[.agg #[.bool c,.slice d e f],.agg #[.bool u,.slice v w x]] b (fun H C=>∃ (y:Bool) (z:OA) (A B:Nat),H= .agg #[.bool y,.slice z A B]/\Heap.le b C/\K (.agg #[.bool y,.slice z A B]) C))))
theorem A6i(a:Bool)(b:OA)(d e:Nat)(f:Bool)(g:OA)(i j:Nat)(k:Bool)(l:OA)(m n:Nat)(hvc:B06 Tryz.prog a b d e f g i j k l m n h K):FCall Tryz.prog Ru #[.agg #[.bool a,.slice b d e,.bool f,.slice g i j],.agg #[.bool k,.slice l m n]] h K:=
 B8 Tryz.func133 (c:=C1 Tryz.f133) (by kernel_rfl) (rs:=[.cell 4 94]) (by kernel_rfl) (fa:=⟨[],[],[(3,((Lrg 0 8),[[],[0],[],[],[3],[2,3,4],[0,1,2,3,4,5],[0,1,2,3,4,5,6]]))],[],[]⟩)
  (cfg:=⟨19,[2,3,4],none,[135,136,152],[],false⟩) (args:=[.agg #[.bool a,.slice b d e,.bool f,.slice g i j],.agg #[.bool k,.slice l m n]]) (by kernel_rfl) (B0 Tryz.call135 (B0 Tryz.call136 (B0 Tryz.call152 Bodies.nil))) (Eq.mp (by kernel_rfl) hvc)
def A1n(P:Program)(a:Int)(b:Int)(d:OA)(c e:Nat)(h:Heap)(K:Value->Heap->Prop):Prop:=
 Br (decide ((1:Int)<=a)) (Br (decide (a<=(64:Int))) (Br (decide ((1:Int)<=b)) (Br (decide (b<=(64:Int))) (K (.bool ((c:Int)==(B4 (a*b)))) h)
 (K (.bool false) h))
 (K (.bool false) h))
 (K (.bool false) h))
 (K (.bool false) h)
theorem A1m(a:Int)(b:Int)(d:OA)(e f:Nat)(hvc:A1n Tryz.prog a b d e f h K):FCall Tryz.prog Jg #[.agg #[I a,I b,.slice d e f]] h K:=
 B8 Tryz.func108 (c:=C1 Tryz.f108) (by kernel_rfl) (rs:=[.tmp 2]) (by kernel_rfl) (fa:=⟨[],[],[],[],[]⟩)
  (cfg:=⟨32,[1],none,[],[],false⟩) (args:=[.agg #[I a,I b,.slice d e f]]) (by kernel_rfl) Bodies.nil (Eq.mp (by kernel_rfl) hvc)
def B92(P:Program)(k:Int)(l:Int)(a:OA)(b c:Nat)(h:Heap)(K:Value->Heap->Prop):Prop:=
 FCall P Jg #[.agg #[I k,I l,.slice a b c]] h (fun m j=>∃ (d:Bool),m= .bool d/\Br (!d) (K (.tuple #[.slice none 0 0,.bool false]) j)
 (FCall P Np #[.slice a b c] j (fun n o=>∃ (e:OA) (f g:Nat) (i:Bool),n= .tuple #[.slice e f g,.bool i]/\K (.tuple #[.slice e f g,.bool i]) o)))
theorem B3i(a:Int)(b:Int)(d:OA)(e f:Nat)(hvc:B92 Tryz.prog a b d e f h K):FCall Tryz.prog Ns #[.agg #[I a,I b,.slice d e f]] h K:=
 B8 Tryz.func67 (c:=C1 Tryz.f67) (by kernel_rfl) (rs:=[.tmp 2,.tmp 3]) (by kernel_rfl) (fa:=⟨[],[],[],[],[]⟩)
  (cfg:=⟨12,[1],none,[79,108],[],false⟩) (args:=[.agg #[I a,I b,.slice d e f]]) (by kernel_rfl) (B0 Tryz.call79 (B0 Tryz.call108 Bodies.nil)) (Eq.mp (by kernel_rfl) hvc)
def B51(P:Program)(d:Int)(e:Int)(f:OA)(g i:Nat)(h:Heap)(K:Value->Heap->Prop):Prop:=
 FCall P No #[.slice f g i] h (fun j k=>∃ (a:OA) (b c:Nat),j= .slice a b c/\K (.agg #[I d,I e,.slice a b c]) k)
theorem B0k(a:Int)(b:Int)(d:OA)(e f:Nat)(hvc:B51 Tryz.prog a b d e f h K):FCall Tryz.prog Ht #[I a,I b,.slice d e f] h K:=
 B8 Tryz.func71 (c:=C1 Tryz.f71) (by kernel_rfl) (rs:=[.cell 6 24]) (by kernel_rfl) (fa:=⟨[],[],[],[],[]⟩)
  (cfg:=⟨12,[6],none,[81],[],false⟩) (args:=[I a,I b,.slice d e f]) (by kernel_rfl) (B0 Tryz.call81 Bodies.nil) (Eq.mp (by kernel_rfl) hvc)
def B0l(P:Program)(l:Int)(c:Int)(W:OA)(X Z:Nat)(h:Heap)(K:Value->Heap->Prop):Prop:=
 FCall P Ns #[.agg #[I l,I c,.slice W X Z]] h (fun a2 Q=>∃ (d:OA) (e f:Nat) (m:Bool),a2= .tuple #[.slice d e f,.bool m]/\Br (!m) (K (.tuple #[.agg #[I 0,I 0,.slice none 0 0],.slice none 0 0,I 1]) Q)
 (FCall P R5 #[.slice d e f,I c] Q (fun a3 a4=>∃ (g:OA),a3= .pointer g/\FCall P Dk #[.pointer g,I c] a4 (fun a5 R=>∃ (n:OA) (o p:Nat) (q:Bool) (r:OA) (s t:Nat) (a0:Int),a5= .tuple #[.slice n o p,.agg #[.bool q,.slice r s t],I a0]/\∃ T,g=some T/\∃ (u:OA) (i a1:Nat),R.cell? (T.add 1)=some (.slice u i a1)/\∃ (j:List Value->Heap->Prop) (v:List Value->Heap->Nat),j [I 0] R/\
 ∀ (a:Int),∀ b,j [I a] b->Br (decide (a<(i:Int))) (∃ k,u=some k/\0<=a/\a<(i:Int)/\∃ (w:Bool) (x:OA) (y z:Nat),b.cell? (Addr.add (k.add (a.toNat*2)) 0)=some (.bool w)/\b.cell? (Addr.add (k.add (a.toNat*2)) 1)=some (.slice x y z)/\FCall P O6 #[.agg #[.bool w,.slice x y z],.agg #[.bool q,.slice r s t]] b (fun a6 a7=>∃ (A:Bool) (B:OA) (C D:Nat) (E:Bool) (F:OA) (G H:Nat),a6= .agg #[.bool A,.slice B C D,.bool E,.slice F G H]/\∃ V,d=some V/\0<=a/\a<(e:Int)/\wpH P (Instr.storeAt 101 (.pointer (some (V.add (a.toNat*4)))) (.agg #[.bool A,.slice B C D,.bool E,.slice F G H])) (fun _ S=>j [I (B4 (a+1))] S/\v [I (B4 (a+1))] S<v [I a] b) a7))
 (FCall P Ht #[I l,I c,.slice d e f] b (fun a8 a9=>∃ (J:Int) (L:Int) (M:OA) (N O:Nat),a8= .agg #[I J,I L,.slice M N O]/\K (.tuple #[.agg #[I J,I L,.slice M N O],.slice n o p,I 0]) a9))))))
theorem A6r(a:Int)(b:Int)(d:OA)(e f:Nat)(hvc:B0l Tryz.prog a b d e f h K):FCall Tryz.prog Rw #[.agg #[I a,I b,.slice d e f]] h K:=
 B8 Tryz.func15 (c:=C1 Tryz.f15) (by kernel_rfl) (rs:=[.cell 2 24,.tmp 3,.tmp 4]) (by kernel_rfl) (fa:=⟨[(7,⟨[38],[],[.int .i64 0],⟨([11,12]++Lrg 38 12),[12]⟩⟩)],[],[],[],[]⟩)
  (cfg:=⟨57,[1,2,9,12],none,[67,68,69,70,71],[69],false⟩) (args:=[.agg #[I a,I b,.slice d e f]]) (by kernel_rfl) (B0 Tryz.call67 (B0 Tryz.call68 (B0 Tryz.call69 (B0 Tryz.call70 (B0 Tryz.call71 Bodies.nil))))) (Eq.mp (by kernel_rfl) hvc)
def C1j(P:Program)(n:Int)(d:Int)(d0:OA)(d1 d2:Nat)(h:Heap)(K:Value->Heap->Prop):Prop:=
 FCall P Ns #[.agg #[I n,I d,.slice d0 d1 d2]] h (fun d6 J=>∃ (M:OA) (N O:Nat) (Q:Bool),d6= .tuple #[.slice M N O,.bool Q]/\Br (!Q) (K (.tuple #[.string ({ data:=#[] }:ByteArray),I 1]) J)
 (Br (n != d) (K (.tuple #[.string ({ data:=#[] }:ByteArray),I 4]) J)
 (FCall P R5 #[.slice M N O,I d] J (fun d7 d8=>∃ (o:OA),d7= .pointer o/\FCall P Dk #[.pointer o,I d] d8 (fun d9 c6=>∃ (d3:OA) (R d4:Nat) (S:Bool) (T:OA) (V W:Nat) (X:Int),d9= .tuple #[.slice d3 R d4,.agg #[.bool S,.slice T V W],I X]/\Br (decide ((R:Int)<n)) (K (.tuple #[.string ({ data:=#[48] }:ByteArray),I 0]) c6)
 (FCall P Xi #[.agg #[.bool S,.slice T V W]] c6 (fun e0 c7=>∃ (p:Bool) (q:OA) (r s:Nat) (t:Bool) (u:OA) (v w:Nat),e0= .agg #[.bool p,.slice q r s,.bool t,.slice u v w]/\∃ (x:List Value->Heap->Prop),(Br (decide (X<(0:Int))) (FCall P A8t #[.agg #[.bool p,.slice q r s,.bool t,.slice u v w]] c7 (fun e1 e2=>∃ (Z:Bool) (a0:OA) (a1 a2:Nat) (a3:Bool) (a4:OA) (a5 a6:Nat),e1= .agg #[.bool Z,.slice a0 a1 a2,.bool a3,.slice a4 a5 a6]/\x [.bool Z,.slice a0 a1 a2,.bool a3,.slice a4 a5 a6] e2))
 (x [.bool p,.slice q r s,.bool t,.slice u v w] c7))/\
 ∀ (a7:Bool) (a8:OA) (a9 b0:Nat) (b1:Bool) (b2:OA) (b3 b4:Nat),∀ L,x [.bool a7,.slice a8 a9 b0,.bool b1,.slice b2 b3 b4] L->∃ c9,o=some c9/\∃ (b5:OA) (y d5:Nat),L.cell? (c9.add 2)=some (.slice b5 y d5)/\∃ (z:List Value->Heap->Prop) (b6:List Value->Heap->Nat),z [I 0,.bool a7,.slice a8 a9 b0,.bool b1,.slice b2 b3 b4] L/\
 ∀ (a:Int) (e:Bool) (f:OA) (g i:Nat) (j:Bool) (k:OA) (l m:Nat),∀ b,z [I a,.bool e,.slice f g i,.bool j,.slice k l m] b->Br (decide (a<(y:Int))) (∃ c,b5=some c/\0<=a/\a<(y:Int)/\∃ (b7:Bool) (b8:OA) (b9 c0:Nat) (c1:Bool) (c2:OA) (c3 c4:Nat),b.cell? (Addr.add (c.add (a.toNat*4)) 0)=some (.bool b7)/\b.cell? (Addr.add (c.add (a.toNat*4)) 1)=some (.slice b8 b9 c0)/\b.cell? (Addr.add (c.add (a.toNat*4)) 2)=some (.bool c1)/\b.cell? (Addr.add (c.add (a.toNat*4)) 3)=some (.slice c2 c3 c4)/\FCall P A0o #[.agg #[.bool e,.slice f g i,.bool j,.slice k l m],.agg #[.bool b7,.slice b8 b9 c0,.bool c1,.slice c2 c3 c4]] b (fun e3 c8=>∃ (A:Bool) (B:OA) (C D:Nat) (E:Bool) (F:OA) (G H:Nat),e3= .agg #[.bool A,.slice B C D,.bool E,.slice F G H]/\z [I (B4 (a+1)),.bool A,.slice B C D,.bool E,.slice F G H] c8/\b6 [I (B4 (a+1)),.bool A,.slice B C D,.bool E,.slice F G H] c8<b6 [I a,.bool e,.slice f g i,.bool j,.slice k l m] b))
 (FCall P Lc #[.agg #[.bool e,.slice f g i,.bool j,.slice k l m]] b (fun e4 e5=>∃ (c5:ByteArray),e4= .string c5/\K (.tuple #[.string c5,I 0]) e5)))))))))
theorem B72(a:Int)(b:Int)(d:OA)(e f:Nat)(hvc:C1j Tryz.prog a b d e f h K):FCall Tryz.prog A0q #[.agg #[I a,I b,.slice d e f]] h K:=
 B8 Tryz.func37 (c:=C1 Tryz.f37) (by kernel_rfl) (rs:=[.tmp 2,.tmp 3]) (by kernel_rfl) (fa:=⟨[(14,⟨[53],[(10,4)],[.int .i64 0,.bool false,.slice none 0 0,.bool false,.slice none 0 0],⟨([12]++Lrg 53 8),[10,12]⟩⟩)],[(13,⟨[],[(10,4)],[.bool false,.slice none 0 0,.bool false,.slice none 0 0],⟨[44,45,46,47],[10]⟩⟩)],[],[],[]⟩)
  (cfg:=⟨63,[1,8,10,12],none,[67,68,69,95,96,97,98],[69],false⟩) (args:=[.agg #[I a,I b,.slice d e f]]) (by kernel_rfl) (B0 Tryz.call67 (B0 Tryz.call68 (B0 Tryz.call69 (B0 Tryz.call95 (B0 Tryz.call96 (B0 Tryz.call97 (B0 Tryz.call98 Bodies.nil))))))) (Eq.mp (by kernel_rfl) hvc)
def A51(P:Program)(a:Int)(H:Int)(d8:OA)(d9 e0:Nat)(h:Heap)(K:Value->Heap->Prop):Prop:=
 FCall P Ns #[.agg #[I a,I H,.slice d8 d9 e0]] h (fun e5 F=>∃ (J:OA) (e1 j:Nat) (L:Bool),e5= .tuple #[.slice J e1 j,.bool L]/\Br (!L) (K (.tuple #[.agg #[I 0,I 0,.slice none 0 0],I 1]) F)
 (Br (a != H) (K (.tuple #[.agg #[I 0,I 0,.slice none 0 0],I 4]) F)
 (∃ (t:List Value->Heap->Prop) (M:List Value->Heap->Nat),t [.slice none 0 0,I 0] F/\
 ∀ (k:OA) (l m:Nat) (b:Int),∀ r,t [.slice k l m,I b] r->Br (decide (b<a)) ((0<=B4 ((B4 (b+1))*a)/\B4 ((B4 (b+1))*a)<=(j:Int))/\(0<=B4 (b*a)/\B4 (b*a)<=(((B4 ((B4 (b+1))*a)).toNat:Nat):Int))/\wpH P (Builtin.append_ #[87,87] 87 #[.slice k l m,.slice (I8 J j ((B4 (b*a)).toNat) 4) (((B4 ((B4 (b+1))*a)).toNat)-((B4 (b*a)).toNat)) (j-((B4 (b*a)).toNat))]) (fun e6 e7=>∃ (N:OA) (O Q:Nat),e6= .slice N O Q/\wpH P (Instr.makeSlice 87 (I a) (I a)) (fun e8 e9=>∃ (u:OA) (v R:Nat),e8= .slice u v R/\FCall P Pz #[I 1] e9 (fun f0 f1=>∃ (S:Bool) (T:OA) (V W:Nat) (X:Bool) (Z:OA) (a0 a1:Nat),f0= .agg #[.bool S,.slice T V W,.bool X,.slice Z a0 a1]/\∃ d7,u=some d7/\0<=b/\b<(v:Int)/\wpH P (Instr.storeAt 101 (.pointer (some (d7.add (b.toNat*4)))) (.agg #[.bool S,.slice T V W,.bool X,.slice Z a0 a1])) (fun _ f2=>wpH P (Builtin.append_ #[87,87] 87 #[.slice N O Q,.slice u v R]) (fun f3 d4=>∃ (w:OA) (x y:Nat),f3= .slice w x y/\t [.slice w x y,I (B4 (b+1))] d4/\M [.slice w x y,I (B4 (b+1))] d4<M [.slice k l m,I b] r) f2) f1)) e7) r)
 (FCall P R5 #[.slice k l m,I (B4 ((2:Int)*a))] r (fun f4 f5=>∃ (z:OA),f4= .pointer z/\FCall P Dk #[.pointer z,I a] f5 (fun f6 d5=>∃ (e2:OA) (a2 e3:Nat) (a3:Bool) (a4:OA) (a5 a6:Nat) (e4:Int),f6= .tuple #[.slice e2 a2 e3,.agg #[.bool a3,.slice a4 a5 a6],I e4]/\Br (decide ((a2:Int)<a)) (K (.tuple #[.agg #[I 0,I 0,.slice none 0 0],I 7]) d5)
 (wpH P (Instr.makeSlice 87 (I 0) (I (B4 (a*a)))) (fun f7 f8=>∃ (a7:OA) (a8 a9:Nat),f7= .slice a7 a8 a9/\∃ (A:List Value->Heap->Prop) (b0:List Value->Heap->Nat),A [.slice a7 a8 a9,I 0] f8/\
 ∀ (n:OA) (o p:Nat) (e:Int),∀ s,A [.slice n o p,I e] s->Br (decide (e<a)) (FCall P Gm #[.pointer z,I e] s (fun f9 g0=>∃ (b1:OA) (q b2:Nat),f9= .slice b1 q b2/\(0<=a/\a<=(q:Int))/\∃ (B:List Value->Heap->Prop) (b3:List Value->Heap->Nat),B [.slice n o p,I 0] g0/\
 ∀ (f:OA) (g i:Nat) (c:Int),∀ d,B [.slice f g i,I c] d->Br (decide (c<((q-(a.toNat):Nat):Int))) (∃ G,I8 b1 b2 (a.toNat) 2=some G/\0<=c/\c<((q-(a.toNat):Nat):Int)/\∃ (b4:Bool) (b5:OA) (b6 b7:Nat),d.cell? (Addr.add (G.add (c.toNat*2)) 0)=some (.bool b4)/\d.cell? (Addr.add (G.add (c.toNat*2)) 1)=some (.slice b5 b6 b7)/\FCall P O6 #[.agg #[.bool b4,.slice b5 b6 b7],.agg #[.bool a3,.slice a4 a5 a6]] d (fun g1 g2=>∃ (b8:Bool) (b9:OA) (c0 c1:Nat) (c2:Bool) (c3:OA) (c4 c5:Nat),g1= .agg #[.bool b8,.slice b9 c0 c1,.bool c2,.slice c3 c4 c5]/\wpH P (Instr.buildSlice 87 1 #[(0,.agg #[.bool b8,.slice b9 c0 c1,.bool c2,.slice c3 c4 c5])]) (fun g3 g4=>∃ (c6:OA) (c7 c8:Nat),g3= .slice c6 c7 c8/\wpH P (Builtin.append_ #[87,87] 87 #[.slice f g i,.slice c6 c7 c8]) (fun g5 d6=>∃ (C:OA) (D E:Nat),g5= .slice C D E/\B [.slice C D E,I (B4 (c+1))] d6/\b3 [.slice C D E,I (B4 (c+1))] d6<b3 [.slice f g i,I c] d) g4) g2))
 (A [.slice f g i,I (B4 (e+1))] d/\b0 [.slice f g i,I (B4 (e+1))] d<b0 [.slice n o p,I e] s)))
 (FCall P Ht #[I a,I a,.slice n o p] s (fun g6 g7=>∃ (c9:Int) (d0:Int) (d1:OA) (d2 d3:Nat),g6= .agg #[I c9,I d0,.slice d1 d2 d3]/\K (.tuple #[.agg #[I c9,I d0,.slice d1 d2 d3],I 0]) g7))) d5)))))))
theorem A3l(a:Int)(b:Int)(d:OA)(e f:Nat)(hvc:A51 Tryz.prog a b d e f h K):FCall Tryz.prog Nt #[.agg #[I a,I b,.slice d e f]] h K:=
 B8 Tryz.func39 (c:=C1 Tryz.f39) (by kernel_rfl) (rs:=[.cell 2 24,.tmp 3]) (by kernel_rfl) (fa:=⟨[(9,⟨[7,35],[],[.slice none 0 0,.int .i64 0],⟨([7,8,9]++Lrg 35 24),[]⟩⟩),(22,⟨[14,80],[],[.slice none 0 0,.int .i64 0],⟨([14,15,17]++Lrg 80 21),[17]⟩⟩),(25,⟨[14,89],[],[.slice none 0 0,.int .i64 0],⟨([14,17]++Lrg 89 11),[17]⟩⟩)],[],[],[],[]⟩)
  (cfg:=⟨105,[1,2,12,17],none,[67,68,69,70,71,75,76],[69],false⟩) (args:=[.agg #[I a,I b,.slice d e f]]) (by kernel_rfl) (B0 Tryz.call67 (B0 Tryz.call68 (B0 Tryz.call69 (B0 Tryz.call70 (B0 Tryz.call71 (B0 Tryz.call75 (B0 Tryz.call76 Bodies.nil))))))) (Eq.mp (by kernel_rfl) hvc)
def MLU(P:Program)(b:Int)(b8:Int)(t1:OA)(t2 t3:Nat)(h:Heap)(K:Value->Heap->Prop):Prop:=
 FCall P Ns #[.agg #[I b,I b8,.slice t1 t2 t3]] h (fun t9 a7=>∃ (b9:OA) (c0 c1:Nat) (c2:Bool),t9= .tuple #[.slice b9 c0 c1,.bool c2]/\Br (!c2) (K (.tuple #[.slice none 0 0,.agg #[I 0,I 0,.slice none 0 0],.agg #[I 0,I 0,.slice none 0 0],I 1]) a7)
 (Br (b != b8) (K (.tuple #[.slice none 0 0,.agg #[I 0,I 0,.slice none 0 0],.agg #[I 0,I 0,.slice none 0 0],I 4]) a7)
 (FCall P R5 #[.slice b9 c0 c1,I b] a7 (fun u0 u1=>∃ (l:OA),u0= .pointer l/\wpH P (Instr.makeSlice 27 (I b) (I b)) (fun u2 u3=>∃ (q:OA) (n c3:Nat),u2= .slice q n c3/\∃ (S:List Value->Heap->Prop) (c4:List Value->Heap->Nat),S [I 0] u3/\
 ∀ (m:Int),∀ r,S [I m] r->Br (decide (m<(n:Int))) (∃ r6,q=some r6/\0<=m/\m<(n:Int)/\wpH P (Instr.storeAt 3 (.pointer (some (r6.add (m.toNat*1)))) (I m)) (fun _ q8=>S [I (B4 (m+1))] q8/\c4 [I (B4 (m+1))] q8<c4 [I m] r) r)
 (∃ (T:List Value->Heap->Prop),((wpH P (Instr.makeSlice 87 (I (B4 (b*b))) (I (B4 (b*b)))) (fun u4 a8=>∃ (c5:OA) (c6 c7:Nat),u4= .slice c5 c6 c7/\Heap.le r a8/\wpH P (Instr.makeSlice 87 (I (B4 (b*b))) (I (B4 (b*b)))) (fun u5 q9=>∃ (c8:OA) (c9 d0:Nat),u5= .slice c8 c9 d0/\Heap.le a8 q9/\T [.slice c5 c6 c7,.slice c8 c9 d0] q9) a8) r)/\(wpH P (Instr.makeSlice 87 (I (B4 (b*b))) (I (B4 (b*b)))) (fun u6 a9=>∃ (d1:OA) (d2 d3:Nat),u6= .slice d1 d2 d3/\Heap.le r a9/\wpH P (Instr.makeSlice 87 (I (B4 (b*b))) (I (B4 (b*b)))) (fun u7 r0=>∃ (d4:OA) (d5 d6:Nat),u7= .slice d4 d5 d6/\Heap.le a9 r0/\T [.slice d4 d5 d6,.slice d1 d2 d3] r0) a9) r))/\
 ∀ (o:OA) (p d7:Nat) (V:OA) (W d8:Nat),∀ r7,T [.slice o p d7,.slice V W d8] r7->FCall P Ou #[I 1] r7 (fun u8 u9=>∃ (d9:Bool) (e0:OA) (e1 e2:Nat),u8= .agg #[.bool d9,.slice e0 e1 e2]/\∃ (X:List Value->Heap->Prop) (e3:List Value->Heap->Nat),X [I 0,I 0,I 0,.slice none 0 0,I 0,I 0,.slice none 0 0,.bool d9,.slice e0 e1 e2] u9/\
 ∀ (a:Int) (y:Int) (z:Int) (A:OA) (B C:Nat) (D:Int) (E:Int) (F:OA) (G H:Nat) (J:Bool) (L:OA) (M N:Nat),∀ R,X [I a,I y,I z,.slice A B C,I D,I E,.slice F G H,.bool J,.slice L M N] R->Br (decide (a<b)) (FCall P Xy #[.pointer l,I a,I a] R (fun v0 b0=>∃ (d:Int) (e4:Bool),v0= .tuple #[I d,.bool e4]/\Br (!e4) (K (.tuple #[.slice none 0 0,.agg #[I 0,I 0,.slice none 0 0],.agg #[I 0,I 0,.slice none 0 0],I 7]) b0)
 (∃ (Z:List Value->Heap->Prop),(Br (d != a) (FCall P Xx #[.pointer l,I a,I d] b0 (fun v1 b1=>v1= .tuple #[]/\∃ r8,q=some r8/\0<=d/\d<(n:Int)/\∃ (e5:Int),b1.cell? (r8.add (d.toNat*1))=some (I e5)/\∃ r9,q=some r9/\0<=a/\a<(n:Int)/\∃ (e6:Int),b1.cell? (r9.add (a.toNat*1))=some (I e6)/\∃ s0,q=some s0/\0<=a/\a<(n:Int)/\wpH P (Instr.storeAt 3 (.pointer (some (s0.add (a.toNat*1)))) (I e5)) (fun _ v2=>∃ s1,q=some s1/\0<=d/\d<(n:Int)/\wpH P (Instr.storeAt 3 (.pointer (some (s1.add (d.toNat*1)))) (I e6)) (fun _ v3=>∃ (a0:List Value->Heap->Prop) (e7:List Value->Heap->Nat),a0 [I 0] v3/\
 ∀ (c:Int),∀ i,a0 [I c] i->Br (decide (c<a)) (∃ t,o=some t/\0<=B4 ((B4 (d*b))+c)/\B4 ((B4 (d*b))+c)<(p:Int)/\∃ (e8:Bool) (e9:OA) (f0 f1:Nat) (f2:Bool) (f3:OA) (f4 f5:Nat),i.cell? (Addr.add (t.add ((B4 ((B4 (d*b))+c)).toNat*4)) 0)=some (.bool e8)/\i.cell? (Addr.add (t.add ((B4 ((B4 (d*b))+c)).toNat*4)) 1)=some (.slice e9 f0 f1)/\i.cell? (Addr.add (t.add ((B4 ((B4 (d*b))+c)).toNat*4)) 2)=some (.bool f2)/\i.cell? (Addr.add (t.add ((B4 ((B4 (d*b))+c)).toNat*4)) 3)=some (.slice f3 f4 f5)/\∃ u,o=some u/\0<=B4 ((B4 (a*b))+c)/\B4 ((B4 (a*b))+c)<(p:Int)/\∃ (f6:Bool) (f7:OA) (f8 f9:Nat) (g0:Bool) (g1:OA) (g2 g3:Nat),i.cell? (Addr.add (u.add ((B4 ((B4 (a*b))+c)).toNat*4)) 0)=some (.bool f6)/\i.cell? (Addr.add (u.add ((B4 ((B4 (a*b))+c)).toNat*4)) 1)=some (.slice f7 f8 f9)/\i.cell? (Addr.add (u.add ((B4 ((B4 (a*b))+c)).toNat*4)) 2)=some (.bool g0)/\i.cell? (Addr.add (u.add ((B4 ((B4 (a*b))+c)).toNat*4)) 3)=some (.slice g1 g2 g3)/\∃ s2,o=some s2/\0<=B4 ((B4 (a*b))+c)/\B4 ((B4 (a*b))+c)<(p:Int)/\wpH P (Instr.storeAt 101 (.pointer (some (s2.add ((B4 ((B4 (a*b))+c)).toNat*4)))) (.agg #[.bool e8,.slice e9 f0 f1,.bool f2,.slice f3 f4 f5])) (fun _ v4=>∃ s3,o=some s3/\0<=B4 ((B4 (d*b))+c)/\B4 ((B4 (d*b))+c)<(p:Int)/\wpH P (Instr.storeAt 101 (.pointer (some (s3.add ((B4 ((B4 (d*b))+c)).toNat*4)))) (.agg #[.bool f6,.slice f7 f8 f9,.bool g0,.slice g1 g2 g3])) (fun _ r1=>a0 [I (B4 (c+1))] r1/\e7 [I (B4 (c+1))] r1<e7 [I c] i) v4) i)
 (Z [] i)) v2) b1))
 (Z [] b0))/\
 ∀ s4,Z [] s4->FCall P Gm #[.pointer l,I a] s4 (fun v5 v6=>∃ (O:OA) (Q t4:Nat),v5= .slice O Q t4/\∃ (a1:List Value->Heap->Prop) (g4:List Value->Heap->Nat),a1 [I a] v6/\
 ∀ (g:Int),∀ j,a1 [I g] j->Br (decide (g<b)) (∃ b4,O=some b4/\0<=g/\g<(Q:Int)/\∃ (g5:Bool) (g6:OA) (g7 g8:Nat),j.cell? (Addr.add (b4.add (g.toNat*2)) 0)=some (.bool g5)/\j.cell? (Addr.add (b4.add (g.toNat*2)) 1)=some (.slice g6 g7 g8)/\∃ s5,l=some s5/\∃ (g9:OA) (h0 t5:Nat),j.cell? (s5.add 2)=some (.slice g9 h0 t5)/\∃ v,g9=some v/\0<=a/\a<(h0:Int)/\∃ (h1:Bool) (h2:OA) (h3 h4:Nat) (h5:Bool) (h6:OA) (h7 h8:Nat),j.cell? (Addr.add (v.add (a.toNat*4)) 0)=some (.bool h1)/\j.cell? (Addr.add (v.add (a.toNat*4)) 1)=some (.slice h2 h3 h4)/\j.cell? (Addr.add (v.add (a.toNat*4)) 2)=some (.bool h5)/\j.cell? (Addr.add (v.add (a.toNat*4)) 3)=some (.slice h6 h7 h8)/\FCall P O6 #[.agg #[.bool g5,.slice g6 g7 g8],.agg #[.bool J,.slice L M N]] j (fun v7 b2=>∃ (h9:Bool) (i0:OA) (i1 i2:Nat) (i3:Bool) (i4:OA) (i5 i6:Nat),v7= .agg #[.bool h9,.slice i0 i1 i2,.bool i3,.slice i4 i5 i6]/\Heap.le j b2/\FCall P A0o #[.agg #[.bool h9,.slice i0 i1 i2,.bool i3,.slice i4 i5 i6],.agg #[.bool h1,.slice h2 h3 h4,.bool h5,.slice h6 h7 h8]] b2 (fun v8 r2=>∃ (i7:Bool) (i8:OA) (i9 j0:Nat) (j1:Bool) (j2:OA) (j3 j4:Nat),v8= .agg #[.bool i7,.slice i8 i9 j0,.bool j1,.slice j2 j3 j4]/\Heap.le b2 r2/\∃ s6,V=some s6/\0<=B4 ((B4 (a*b))+g)/\B4 ((B4 (a*b))+g)<(W:Int)/\wpH P (Instr.storeAt 101 (.pointer (some (s6.add ((B4 ((B4 (a*b))+g)).toNat*4)))) (.agg #[.bool i7,.slice i8 i9 j0,.bool j1,.slice j2 j3 j4])) (fun _ r3=>a1 [I (B4 (g+1))] r3/\g4 [I (B4 (g+1))] r3<g4 [I g] j) r2)))
 (FCall P Pz #[I 1] j (fun v9 w0=>∃ (j5:Bool) (j6:OA) (j7 j8:Nat) (j9:Bool) (k0:OA) (k1 k2:Nat),v9= .agg #[.bool j5,.slice j6 j7 j8,.bool j9,.slice k0 k1 k2]/\∃ s7,o=some s7/\0<=B4 ((B4 (a*b))+a)/\B4 ((B4 (a*b))+a)<(p:Int)/\wpH P (Instr.storeAt 101 (.pointer (some (s7.add ((B4 ((B4 (a*b))+a)).toNat*4)))) (.agg #[.bool j5,.slice j6 j7 j8,.bool j9,.slice k0 k1 k2])) (fun _ w1=>∃ (a2:List Value->Heap->Prop) (k3:List Value->Heap->Nat),a2 [I (B4 (a+1))] w1/\
 ∀ (e:Int),∀ k,a2 [I e] k->Br (decide (e<b)) (∃ b5,O=some b5/\0<=a/\a<(Q:Int)/\∃ (k4:Bool) (k5:OA) (k6 k7:Nat),k.cell? (Addr.add (b5.add (a.toNat*2)) 0)=some (.bool k4)/\k.cell? (Addr.add (b5.add (a.toNat*2)) 1)=some (.slice k5 k6 k7)/\FCall P Gm #[.pointer l,I e] k (fun w2 s=>∃ (k8:OA) (k9 t6:Nat),w2= .slice k8 k9 t6/\Heap.le k s/\∃ b6,k8=some b6/\0<=a/\a<(k9:Int)/\∃ (l0:Bool) (l1:OA) (l2 l3:Nat),s.cell? (Addr.add (b6.add (a.toNat*2)) 0)=some (.bool l0)/\s.cell? (Addr.add (b6.add (a.toNat*2)) 1)=some (.slice l1 l2 l3)/\FCall P O6 #[.agg #[.bool l0,.slice l1 l2 l3],.agg #[.bool k4,.slice k5 k6 k7]] s (fun w3 f=>∃ (l4:Bool) (l5:OA) (l6 l7:Nat) (l8:Bool) (l9:OA) (m0 m1:Nat),w3= .agg #[.bool l4,.slice l5 l6 l7,.bool l8,.slice l9 m0 m1]/\Heap.le s f/\∃ s8,l=some s8/\∃ (m2:OA) (m3 t7:Nat),f.cell? (s8.add 2)=some (.slice m2 m3 t7)/\∃ w,m2=some w/\0<=a/\a<(m3:Int)/\∃ (m4:Bool) (m5:OA) (m6 m7:Nat) (m8:Bool) (m9:OA) (n0 n1:Nat),f.cell? (Addr.add (w.add (a.toNat*4)) 0)=some (.bool m4)/\f.cell? (Addr.add (w.add (a.toNat*4)) 1)=some (.slice m5 m6 m7)/\f.cell? (Addr.add (w.add (a.toNat*4)) 2)=some (.bool m8)/\f.cell? (Addr.add (w.add (a.toNat*4)) 3)=some (.slice m9 n0 n1)/\∃ s9,l=some s9/\∃ (n2:OA) (n3 t8:Nat),f.cell? (s9.add 2)=some (.slice n2 n3 t8)/\∃ x,n2=some x/\0<=e/\e<(n3:Int)/\∃ (n4:Bool) (n5:OA) (n6 n7:Nat) (n8:Bool) (n9:OA) (o0 o1:Nat),f.cell? (Addr.add (x.add (e.toNat*4)) 0)=some (.bool n4)/\f.cell? (Addr.add (x.add (e.toNat*4)) 1)=some (.slice n5 n6 n7)/\f.cell? (Addr.add (x.add (e.toNat*4)) 2)=some (.bool n8)/\f.cell? (Addr.add (x.add (e.toNat*4)) 3)=some (.slice n9 o0 o1)/\FCall P A4f #[.agg #[.bool l4,.slice l5 l6 l7,.bool l8,.slice l9 m0 m1],.agg #[.bool m4,.slice m5 m6 m7,.bool m8,.slice m9 n0 n1]] f (fun w4 b3=>∃ (o2:Bool) (o3:OA) (o4 o5:Nat) (o6:Bool) (o7:OA) (o8 o9:Nat),w4= .agg #[.bool o2,.slice o3 o4 o5,.bool o6,.slice o7 o8 o9]/\Heap.le f b3/\FCall P A0o #[.agg #[.bool o2,.slice o3 o4 o5,.bool o6,.slice o7 o8 o9],.agg #[.bool n4,.slice n5 n6 n7,.bool n8,.slice n9 o0 o1]] b3 (fun w5 r4=>∃ (p0:Bool) (p1:OA) (p2 p3:Nat) (p4:Bool) (p5:OA) (p6 p7:Nat),w5= .agg #[.bool p0,.slice p1 p2 p3,.bool p4,.slice p5 p6 p7]/\Heap.le b3 r4/\∃ t0,o=some t0/\0<=B4 ((B4 (e*b))+a)/\B4 ((B4 (e*b))+a)<(p:Int)/\wpH P (Instr.storeAt 101 (.pointer (some (t0.add ((B4 ((B4 (e*b))+a)).toNat*4)))) (.agg #[.bool p0,.slice p1 p2 p3,.bool p4,.slice p5 p6 p7])) (fun _ w6=>FCall P Qd #[.pointer l,I e,I a,I a,.agg #[.bool J,.slice L M N]] w6 (fun w7 r5=>w7= .tuple #[]/\a2 [I (B4 (e+1))] r5/\k3 [I (B4 (e+1))] r5<k3 [I e] k)) r4)))))
 (∃ b7,O=some b7/\0<=a/\a<(Q:Int)/\∃ (a3:Bool) (a4:OA) (a5 a6:Nat),k.cell? (Addr.add (b7.add (a.toNat*2)) 0)=some (.bool a3)/\k.cell? (Addr.add (b7.add (a.toNat*2)) 1)=some (.slice a4 a5 a6)/\X [I (B4 (a+1)),I y,I z,.slice A B C,I D,I E,.slice F G H,.bool a3,.slice a4 a5 a6] k/\e3 [I (B4 (a+1)),I y,I z,.slice A B C,I D,I E,.slice F G H,.bool a3,.slice a4 a5 a6] k<e3 [I a,I y,I z,.slice A B C,I D,I E,.slice F G H,.bool J,.slice L M N] R)) w0))))))
 (FCall P Ht #[I b,I b,.slice o p d7] R (fun w8 w9=>∃ (p8:Int) (p9:Int) (q0:OA) (q1 q2:Nat),w8= .agg #[I p8,I p9,.slice q0 q1 q2]/\FCall P Ht #[I b,I b,.slice V W d8] w9 (fun x0 x1=>∃ (q3:Int) (q4:Int) (q5:OA) (q6 q7:Nat),x0= .agg #[I q3,I q4,.slice q5 q6 q7]/\K (.tuple #[.slice q n c3,.agg #[I p8,I p9,.slice q0 q1 q2],.agg #[I q3,I q4,.slice q5 q6 q7],I 0]) x1)))))) u1))))
theorem B93(a:Int)(b:Int)(d:OA)(e f:Nat)(hvc:MLU Tryz.prog a b d e f h K):FCall Tryz.prog B64 #[.agg #[I a,I b,.slice d e f]] h K:=
 B8 Tryz.func41 (c:=C1 Tryz.f41) (by kernel_rfl) (rs:=[.tmp 2,.cell 3 24,.cell 4 24,.tmp 5]) (by kernel_rfl) (fa:={ loops:=[(10,⟨[48],[],[.int .i64 0],⟨([11]++Lrg 48 8),[]⟩⟩),(17,⟨[66],[(3,3),(4,3),(14,2)],[.int .i64 0,.int .i64 0,.int .i64 0,.slice none 0 0,.int .i64 0,.int .i64 0,.slice none 0 0,.bool false,.slice none 0 0],⟨([2,5]++Lrg 15 8++Lrg 66 161),[3,4,14,22]⟩⟩),(26,⟨[102],[],[.int .i64 0],⟨([18]++Lrg 102 34),[]⟩⟩),(32,⟨[20],[],[.int .i64 0],⟨([20]++Lrg 140 26),[]⟩⟩),(37,⟨[21],[],[.int .i64 0],⟨([21,22]++Lrg 176 46),[22]⟩⟩)],cuts:=[(15,⟨[12,13],[],[.slice none 0 0,.slice none 0 0],⟨([12,13]++Lrg 56 8),[]⟩⟩),(30,⟨[],[],[],⟨([18]++Lrg 80 56),[]⟩⟩)],orders:=[(14,([0,1,2,4,5,6,3,8,7,9],[[],[],[0,1],[0,1,2],[],[],[4,5],[4,5,6],[0,1,2,3],(Lrg 0 9)])),(24,((Lrg 0 16),[[],[],[],[],[],[],[4,5],[4,5,6],[],[],[8,9],[8,9,10],([0,1]++Lrg 4 8),([0,1]++Lrg 4 9),(Lrg 0 14),(Lrg 0 15)])),(28,((Lrg 0 32),[[],[],[],[1,2],[],[1,2,3,4],[],[],[],[7,8],[],[7,8,9,10],[],[],[],[13,14],[],[13,14,15,16],[12,13,14,15,16,17],[12,13,14,15,16,17,18],[],[],[],[21,22],[],[21,22,23,24],[20,21,22,23,24,25],[20,21,22,23,24,25,26],([0,1,2,3,4,5]++Lrg 12 16),([0,1,2,3,4,5]++Lrg 12 17),(Lrg 0 30),(Lrg 0 31)])),(34,((Lrg 0 11++[12,13,14,15,16,17,18,11,19,20,21]),[[],[],[],[1,2],[],[1,2,3,4],[],[],[6,7],[6,7,8],[],[6,7,8,9,10],[],[12],[12,13],[12,13,14],[],[12,13,14,15,16],[12,13,14,15,16,17],(Lrg 6 13),(Lrg 0 20),(Lrg 0 21)])),(39,([0,1,3,6,7,8,9,11,2,4,5,10,12],[[],[],[0,1],[],[0,1,2,3],[0,1,2,3,4],[],[],[6,7],[6,7,8],(Lrg 0 10),[],(Lrg 0 12)])),(40,((Lrg 0 14++[15,16,17,18,19,20,21,14,22,23,24]),[[],[],[],[1,2],[],[1,2,3,4],[],[],[7],[7,8],[7,8,9],[],[7,8,9,10,11],[7,8,9,10,11,12],(Lrg 6 8),[],[15],[15,16],[15,16,17],[],[15,16,17,18,19],[15,16,17,18,19,20],(Lrg 6 16),(Lrg 0 23),(Lrg 0 24)]))],alts:=[(14,[(3,[7])])] })
  (cfg:=⟨236,[1,3,4,14,22],none,[67,68,70,71,75,76,98,100,101,102,103,104],[102,104],false⟩) (args:=[.agg #[I a,I b,.slice d e f]]) (by kernel_rfl) (B0 Tryz.call67 (B0 Tryz.call68 (B0 Tryz.call70 (B0 Tryz.call71 (B0 Tryz.call75 (B0 Tryz.call76 (B0 Tryz.call98 (B0 Tryz.call100 (B0 Tryz.call101 (B0 Tryz.call102 (B0 Tryz.call103 (B0 Tryz.call104 Bodies.nil)))))))))))) (Eq.mp (by kernel_rfl) hvc)
def A1l(P:Program)(m3:OA)(m4 m5:Nat)(b7:Int)(h:Heap)(K:Value->Heap->Prop):Prop:=
 wpH P (Instr.box 99 (.agg #[I b7,.slice none 0 0,.slice none 0 0])) (fun n1 n2=>∃ (b8:Addr),n1= .pointer (some b8)/\wpH P (Instr.alloc 90 true (.tuple #[])) (fun n3 n4=>∃ (b:Addr),n3= .pointer (some b)/\wpH P (Instr.storeAt 90 (.pointer (some b)) (.pointer (some b8))) (fun _ n5=>FCall P Xr #[.slice m3 m4 m5,I b7] n5 (fun n6 n7=>∃ (b9:Value),n6=b9/\A4y P (b9) n7 (fun (m6:List Value) (m7:Heap) (x:Heap->Prop)=>∃ (W:OA) (y c0:Nat),m6=[.slice W y c0]/\FCall P Q8 #[.slice W y c0] m7 (fun n8 b4=>∃ (z:Bool) (A:OA) (B C:Nat),n8= .agg #[.bool z,.slice A B C]/\∃ (c1:OA),b4.cell? b=some (.pointer c1)/\∃ l0,c1=some l0/\∃ (m8:OA) (f m9:Nat),b4.cell? (l0.add 1)=some (.slice m8 f m9)/\∃ (s:List Value->Heap->Prop) (q:List Value->Heap->Nat),s [I 0,.bool false,.slice none 0 0] b4/\
 ∀ (a:Int) (g:Bool) (i:OA) (j k:Nat),∀ e,s [I a,.bool g,.slice i j k] e->Br (decide (a<(y:Int))) (∃ w,W=some w/\0<=a/\a<(y:Int)/\∃ (c2:Bool) (c3:OA) (c4 c5:Nat) (c6:Bool) (c7:OA) (c8 c9:Nat),e.cell? (Addr.add (w.add (a.toNat*4)) 0)=some (.bool c2)/\e.cell? (Addr.add (w.add (a.toNat*4)) 1)=some (.slice c3 c4 c5)/\e.cell? (Addr.add (w.add (a.toNat*4)) 2)=some (.bool c6)/\e.cell? (Addr.add (w.add (a.toNat*4)) 3)=some (.slice c7 c8 c9)/\FCall P Ru #[.agg #[.bool c2,.slice c3 c4 c5,.bool c6,.slice c7 c8 c9],.agg #[.bool z,.slice A B C]] e (fun n9 o0=>∃ (D:Bool) (E:OA) (F G:Nat),n9= .agg #[.bool D,.slice E F G]/\FCall P Uz #[.agg #[.bool g,.slice i j k],.agg #[.bool D,.slice E F G]] o0 (fun o1 p=>∃ (l:Bool) (m:OA) (n o:Nat),o1= .agg #[.bool l,.slice m n o]/\∃ (d0:OA),p.cell? b=some (.pointer d0)/\∃ l1,d0=some l1/\∃ (H:OA) (J L:Nat),p.cell? (l1.add 1)=some (.slice H J L)/\(∃ (d1:OA),p.cell? b=some (.pointer d1)/\wpH P (Instr.buildSlice 97 1 #[(0,.agg #[.bool D,.slice E F G])]) (fun o2 j8=>∃ (d2:OA) (d3 d4:Nat),o2= .slice d2 d3 d4/\Heap.le p j8/\wpH P (Builtin.append_ #[97,97] 97 #[.slice H J L,.slice d2 d3 d4]) (fun o3 o4=>∃ (d5:OA) (d6 d7:Nat),o3= .slice d5 d6 d7/\∃ l2,d1=some l2/\wpH P (Instr.storeAt 97 (.pointer (some (l2.add 1))) (.slice d5 d6 d7)) (fun _ j9=>s [I (B4 (a+1)),.bool l,.slice m n o] j9/\q [I (B4 (a+1)),.bool l,.slice m n o] j9<q [I a,.bool g,.slice i j k] e) o4) j8) p)/\(wpH P (Instr.buildSlice 97 1 #[(0,.agg #[.bool D,.slice E F G])]) (fun o5 S=>∃ (X:OA) (Z a0:Nat),o5= .slice X Z a0/\Heap.le p S/\(∃ (d8:OA),S.cell? b=some (.pointer d8)/\wpH P (Builtin.append_ #[97,97] 97 #[.slice H J L,.slice X Z a0]) (fun o6 o7=>∃ (d9:OA) (e0 e1:Nat),o6= .slice d9 e0 e1/\∃ l3,d8=some l3/\wpH P (Instr.storeAt 97 (.pointer (some (l3.add 1))) (.slice d9 e0 e1)) (fun _ k0=>s [I (B4 (a+1)),.bool l,.slice m n o] k0/\q [I (B4 (a+1)),.bool l,.slice m n o] k0<q [I a,.bool g,.slice i j k] e) o7) S)/\(wpH P (Builtin.append_ #[97,97] 97 #[.slice H J L,.slice X Z a0]) (fun o8 k1=>∃ (e2:OA) (e3 e4:Nat),o8= .slice e2 e3 e4/\∃ (e5:OA),k1.cell? b=some (.pointer e5)/\∃ l4,e5=some l4/\wpH P (Instr.storeAt 97 (.pointer (some (l4.add 1))) (.slice e2 e3 e4)) (fun _ k2=>s [I (B4 (a+1)),.bool l,.slice m n o] k2/\q [I (B4 (a+1)),.bool l,.slice m n o] k2<q [I a,.bool g,.slice i j k] e) k1) S)) p))))
 (∃ (a1:List Value->Heap->Prop),(FCall P H8 #[.agg #[.bool g,.slice i j k]] e (fun o9 k3=>∃ (e6:Bool),o9= .bool e6/\Br e6 (FCall P Ou #[I 1] k3 (fun p0 p1=>∃ (e7:Bool) (e8:OA) (e9 f0:Nat),p0= .agg #[.bool e7,.slice e8 e9 f0]/\a1 [.bool e7,.slice e8 e9 f0] p1))
 (a1 [.bool g,.slice i j k] k3)))/\
 ∀ (M:Bool) (N:OA) (O Q:Nat),∀ V,a1 [.bool M,.slice N O Q] V->∃ (f1:OA),V.cell? b=some (.pointer f1)/\∃ l5,f1=some l5/\∃ (f2:OA) (R f3:Nat),V.cell? (l5.add 1)=some (.slice f2 R f3)/\(0<=(f:Int)/\(f:Int)<=(R:Int))/\∃ (a2:List Value->Heap->Prop) (f4:List Value->Heap->Nat),a2 [I 0] V/\
 ∀ (d:Int),∀ c,a2 [I d] c->Br (decide (d<((R-(((f:Int)).toNat):Nat):Int))) (∃ b6,I8 f2 f3 (((f:Int)).toNat) 2=some b6/\0<=d/\d<((R-(((f:Int)).toNat):Nat):Int)/\∃ (f5:Bool) (f6:OA) (f7 f8:Nat),c.cell? (Addr.add (b6.add (d.toNat*2)) 0)=some (.bool f5)/\c.cell? (Addr.add (b6.add (d.toNat*2)) 1)=some (.slice f6 f7 f8)/\∃ (f9:OA),c.cell? b=some (.pointer f9)/\∃ l6,f9=some l6/\∃ (g0:OA) (g1 n0:Nat),c.cell? (l6.add 1)=some (.slice g0 g1 n0)/\FCall P Kz #[.agg #[.bool f5,.slice f6 f7 f8],.agg #[.bool M,.slice N O Q]] c (fun p2 k4=>∃ (g2:Bool) (g3:OA) (g4 g5:Nat),p2= .agg #[.bool g2,.slice g3 g4 g5]/\Heap.le c k4/\∃ l7,g0=some l7/\0<=B4 ((f:Int)+d)/\B4 ((f:Int)+d)<(g1:Int)/\wpH P (Instr.storeAt 94 (.pointer (some (l7.add ((B4 ((f:Int)+d)).toNat*2)))) (.agg #[.bool g2,.slice g3 g4 g5])) (fun _ k5=>a2 [I (B4 (d+1))] k5/\f4 [I (B4 (d+1))] k5<f4 [I d] c) k4))
 (∃ (g6:OA),c.cell? b=some (.pointer g6)/\∃ l8,g6=some l8/\∃ (t:OA) (u v:Nat),c.cell? (l8.add 2)=some (.slice t u v)/\(∃ (g7:OA),c.cell? b=some (.pointer g7)/\FCall P O6 #[.agg #[.bool z,.slice A B C],.agg #[.bool M,.slice N O Q]] c (fun p3 b5=>∃ (g8:Bool) (g9:OA) (h0 h1:Nat) (h2:Bool) (h3:OA) (h4 h5:Nat),p3= .agg #[.bool g8,.slice g9 h0 h1,.bool h2,.slice h3 h4 h5]/\Heap.le c b5/\wpH P (Instr.buildSlice 87 1 #[(0,.agg #[.bool g8,.slice g9 h0 h1,.bool h2,.slice h3 h4 h5])]) (fun p4 k6=>∃ (h6:OA) (h7 h8:Nat),p4= .slice h6 h7 h8/\Heap.le b5 k6/\wpH P (Builtin.append_ #[87,87] 87 #[.slice t u v,.slice h6 h7 h8]) (fun p5 p6=>∃ (h9:OA) (i0 i1:Nat),p5= .slice h9 i0 i1/\∃ l9,g7=some l9/\wpH P (Instr.storeAt 87 (.pointer (some (l9.add 2))) (.slice h9 i0 i1)) (fun _ p7=>x p7) p6) k6) b5))/\(FCall P O6 #[.agg #[.bool z,.slice A B C],.agg #[.bool M,.slice N O Q]] c (fun p8 r=>∃ (a3:Bool) (a4:OA) (a5 a6:Nat) (a7:Bool) (a8:OA) (a9 b0:Nat),p8= .agg #[.bool a3,.slice a4 a5 a6,.bool a7,.slice a8 a9 b0]/\Heap.le c r/\(∃ (i2:OA),r.cell? b=some (.pointer i2)/\wpH P (Instr.buildSlice 87 1 #[(0,.agg #[.bool a3,.slice a4 a5 a6,.bool a7,.slice a8 a9 b0])]) (fun p9 k7=>∃ (i3:OA) (i4 i5:Nat),p9= .slice i3 i4 i5/\Heap.le r k7/\wpH P (Builtin.append_ #[87,87] 87 #[.slice t u v,.slice i3 i4 i5]) (fun q0 q1=>∃ (i6:OA) (i7 i8:Nat),q0= .slice i6 i7 i8/\∃ m0,i2=some m0/\wpH P (Instr.storeAt 87 (.pointer (some (m0.add 2))) (.slice i6 i7 i8)) (fun _ q2=>x q2) q1) k7) r)/\(wpH P (Instr.buildSlice 87 1 #[(0,.agg #[.bool a3,.slice a4 a5 a6,.bool a7,.slice a8 a9 b0])]) (fun q3 T=>∃ (b1:OA) (b2 b3:Nat),q3= .slice b1 b2 b3/\Heap.le r T/\(∃ (i9:OA),T.cell? b=some (.pointer i9)/\wpH P (Builtin.append_ #[87,87] 87 #[.slice t u v,.slice b1 b2 b3]) (fun q4 q5=>∃ (j0:OA) (j1 j2:Nat),q4= .slice j0 j1 j2/\∃ m1,i9=some m1/\wpH P (Instr.storeAt 87 (.pointer (some (m1.add 2))) (.slice j0 j1 j2)) (fun _ q6=>x q6) q5) T)/\(wpH P (Builtin.append_ #[87,87] 87 #[.slice t u v,.slice b1 b2 b3]) (fun q7 k8=>∃ (j3:OA) (j4 j5:Nat),q7= .slice j3 j4 j5/\∃ (j6:OA),k8.cell? b=some (.pointer j6)/\∃ m2,j6=some m2/\wpH P (Instr.storeAt 87 (.pointer (some (m2.add 2))) (.slice j3 j4 j5)) (fun _ q8=>x q8) k8) T)) r)))))))
 (fun k9=>∃ (j7:OA),k9.cell? b=some (.pointer j7)/\K (.pointer j7) k9))) n4) n2) h
theorem A1k(a:OA)(b d:Nat)(e:Int)(hvc:A1l Tryz.prog a b d e h K):FCall Tryz.prog R5 #[.slice a b d,I e] h K:=
 B8 Tryz.func68 (c:=C1 Tryz.f68) (by kernel_rfl) (rs:=[.tmp 4]) (by kernel_rfl) (fa:={ loops:=[(8,⟨[31],[(9,2)],[.int .i64 0,.bool false,.slice none 0 0],⟨([11,12]++Lrg 31 21),[9,11,12]⟩⟩),(17,⟨[62],[],[.int .i64 0],⟨([13,14]++Lrg 62 17),[14]⟩⟩)],cuts:=[(16,⟨[],[(9,2)],[.bool false,.slice none 0 0],⟨[52,53,54],[9]⟩⟩)],orders:=[(12,([1,2,3,4,5,0,6,7,8,9,10],[[],[],[1],[1,2],[1,2,3],[],[5],[1,2,3,4,5,6],(Lrg 0 8),(Lrg 0 9),(Lrg 0 10)])),(19,((Lrg 0 12),[[],[0],[0,1],[0,1,2],[],[],[4,5],[],[],[7,8],(Lrg 0 10),(Lrg 0 11)])),(21,([1,2,3,4,5,6,0,7,8,9,10,11,12],[[],[],[1],[1,2],[1,2,3],[],[],[5,6],[5,6,7],(Lrg 1 8),(Lrg 0 10),(Lrg 0 11),(Lrg 0 12)]))],alts:=[(12,[(0,[6,7])]),(21,[(0,[7,8,9])])],rounds:=[(4,[.slice none 0 0])] })
  (cfg:=⟨92,[7,9,11,12,14],none,[70,100,131,132,133,134,135,136],[1000000000],false⟩) (args:=[.slice a b d,I e]) (by kernel_rfl) (B0 Tryz.call70 (B0 Tryz.call100 (B0 Tryz.call131 (B0 Tryz.call132 (B0 Tryz.call133 (B0 Tryz.call134 (B0 Tryz.call135 (B0 Tryz.call136 Bodies.nil)))))))) (Eq.mp (by kernel_rfl) hvc)
def C1l(P:Program)(e:OA)(a:Int)(h:Heap)(K:Value->Heap->Prop):Prop:=
 ∃ g,e=some g/\∃ (f:OA) (k d:Nat),h.cell? (g.add 1)=some (.slice f k d)/\∃ i,e=some i/\∃ (b:Int),h.cell? (i.add 0)=some (I b)/\∃ j,e=some j/\∃ (c:Int),h.cell? (j.add 0)=some (I c)/\(0<=B4 ((B4 (a+1))*c)/\B4 ((B4 (a+1))*c)<=(d:Int))/\(0<=B4 (a*b)/\B4 (a*b)<=(((B4 ((B4 (a+1))*c)).toNat:Nat):Int))/\K (.slice (I8 f d ((B4 (a*b)).toNat) 2) (((B4 ((B4 (a+1))*c)).toNat)-((B4 (a*b)).toNat)) (d-((B4 (a*b)).toNat))) h
theorem B74(a:OA)(b:Int)(hvc:C1l Tryz.prog a b h K):FCall Tryz.prog Gm #[.pointer a,I b] h K:=
 B8 Tryz.func76 (c:=C1 Tryz.f76) (by kernel_rfl) (rs:=[.tmp 4]) (by kernel_rfl) (fa:=⟨[],[],[(1,((Lrg 0 19),[[],[0],[0,1],[0,1,2],[],[],[5],[5,6],[5,6,7],[4,5,6,7,8],[],[10],[],[12],[12,13],[12,13,14],[10,11,12,13,14,15],(Lrg 0 17),(Lrg 0 18)]))],[],[]⟩)
  (cfg:=⟨23,[],none,[],[],false⟩) (args:=[.pointer a,I b]) (by kernel_rfl) Bodies.nil (Eq.mp (by kernel_rfl) hvc)
def B9b(P:Program)(e:OA)(c:Int)(d:Int)(h:Heap)(K:Value->Heap->Prop):Prop:=
 FCall P Gm #[.pointer e,I c] h (fun b6 b7=>∃ (j:OA) (i b0:Nat),b6= .slice j i b0/\FCall P Gm #[.pointer e,I d] b7 (fun b8 b9=>∃ (k:OA) (l b1:Nat),b8= .slice k l b1/\∃ (m:List Value->Heap->Prop) (p:List Value->Heap->Nat),m [I 0] b9/\
 ∀ (b:Int),∀ a,m [I b] a->Br (decide (b<(i:Int))) (∃ n,k=some n/\0<=b/\b<(l:Int)/\∃ (q:Bool) (r:OA) (s t:Nat),a.cell? (Addr.add (n.add (b.toNat*2)) 0)=some (.bool q)/\a.cell? (Addr.add (n.add (b.toNat*2)) 1)=some (.slice r s t)/\∃ o,j=some o/\0<=b/\b<(i:Int)/\∃ (u:Bool) (v:OA) (w x:Nat),a.cell? (Addr.add (o.add (b.toNat*2)) 0)=some (.bool u)/\a.cell? (Addr.add (o.add (b.toNat*2)) 1)=some (.slice v w x)/\∃ a2,j=some a2/\0<=b/\b<(i:Int)/\wpH P (Instr.storeAt 94 (.pointer (some (a2.add (b.toNat*2)))) (.agg #[.bool q,.slice r s t])) (fun _ c0=>∃ a3,k=some a3/\0<=b/\b<(l:Int)/\wpH P (Instr.storeAt 94 (.pointer (some (a3.add (b.toNat*2)))) (.agg #[.bool u,.slice v w x])) (fun _ a1=>m [I (B4 (b+1))] a1/\p [I (B4 (b+1))] a1<p [I b] a) c0) a)
 (∃ a4,e=some a4/\∃ (y:OA) (z b2:Nat),a.cell? (a4.add 2)=some (.slice y z b2)/\∃ a5,e=some a5/\∃ (A:OA) (B b3:Nat),a.cell? (a5.add 2)=some (.slice A B b3)/\∃ a6,e=some a6/\∃ (C:OA) (D b4:Nat),a.cell? (a6.add 2)=some (.slice C D b4)/\∃ f,C=some f/\0<=d/\d<(D:Int)/\∃ (E:Bool) (F:OA) (G H:Nat) (J:Bool) (L:OA) (M N:Nat),a.cell? (Addr.add (f.add (d.toNat*4)) 0)=some (.bool E)/\a.cell? (Addr.add (f.add (d.toNat*4)) 1)=some (.slice F G H)/\a.cell? (Addr.add (f.add (d.toNat*4)) 2)=some (.bool J)/\a.cell? (Addr.add (f.add (d.toNat*4)) 3)=some (.slice L M N)/\∃ a7,e=some a7/\∃ (O:OA) (Q b5:Nat),a.cell? (a7.add 2)=some (.slice O Q b5)/\∃ g,O=some g/\0<=c/\c<(Q:Int)/\∃ (R:Bool) (S:OA) (T V:Nat) (W:Bool) (X:OA) (Z a0:Nat),a.cell? (Addr.add (g.add (c.toNat*4)) 0)=some (.bool R)/\a.cell? (Addr.add (g.add (c.toNat*4)) 1)=some (.slice S T V)/\a.cell? (Addr.add (g.add (c.toNat*4)) 2)=some (.bool W)/\a.cell? (Addr.add (g.add (c.toNat*4)) 3)=some (.slice X Z a0)/\∃ a8,y=some a8/\0<=c/\c<(z:Int)/\wpH P (Instr.storeAt 101 (.pointer (some (a8.add (c.toNat*4)))) (.agg #[.bool E,.slice F G H,.bool J,.slice L M N])) (fun _ c1=>∃ a9,A=some a9/\0<=d/\d<(B:Int)/\wpH P (Instr.storeAt 101 (.pointer (some (a9.add (d.toNat*4)))) (.agg #[.bool R,.slice S T V,.bool W,.slice X Z a0])) (fun _ c2=>K (.tuple #[]) c2) c1) a)))
theorem B3p(a:OA)(b:Int)(d:Int)(hvc:B9b Tryz.prog a b d h K):FCall Tryz.prog Xx #[.pointer a,I b,I d] h K:=
 B8 Tryz.func102 (c:=C1 Tryz.f102) (by kernel_rfl) (rs:=[]) (by kernel_rfl) (fa:=⟨[(2,⟨[17],[],[.int .i64 0],⟨([8]++Lrg 17 18),[]⟩⟩)],[],[(4,((Lrg 0 16),[[],[],[],[],[],[],[4,5],[4,5,6],[],[],[8,9],[8,9,10],([0,1]++Lrg 4 8),([0,1]++Lrg 4 9),(Lrg 0 14),(Lrg 0 15)])),(6,((Lrg 0 28),[[],[0],[0,1],[0,1,2],[],[],[5],[5,6],[5,6,7],[],[],[10],[10,11],[10,11,12],[],[10,11,12,13,14],[10,11,12,13,14,15],[],[17],[17,18],[17,18,19],[],[17,18,19,20,21],[17,18,19,20,21,22],(Lrg 0 9++Lrg 10 14),(Lrg 0 9++Lrg 10 15),(Lrg 0 26),(Lrg 0 27)]))],[],[]⟩)
  (cfg:=⟨61,[],none,[76],[],false⟩) (args:=[.pointer a,I b,I d]) (by kernel_rfl) (B0 Tryz.call76 Bodies.nil) (Eq.mp (by kernel_rfl) hvc)
def B9c(P:Program)(i:OA)(t:Int)(c:Int)(h:Heap)(K:Value->Heap->Prop):Prop:=
 ∃ (d:List Value->Heap->Prop) (j:List Value->Heap->Nat),d [I t] h/\
 ∀ (a:Int),∀ b,d [I a] b->∃ s,i=some s/\∃ (u:OA) (k v:Nat),b.cell? (s.add 2)=some (.slice u k v)/\Br (decide (a<(k:Int))) (FCall P Gm #[.pointer i,I a] b (fun x e=>∃ (l:OA) (m w:Nat),x= .slice l m w/\∃ g,l=some g/\0<=c/\c<(m:Int)/\∃ (n:Bool) (o:OA) (p q:Nat),e.cell? (Addr.add (g.add (c.toNat*2)) 0)=some (.bool n)/\e.cell? (Addr.add (g.add (c.toNat*2)) 1)=some (.slice o p q)/\FCall P H8 #[.agg #[.bool n,.slice o p q]] e (fun y f=>∃ (r:Bool),y= .bool r/\Br (!r) (K (.tuple #[I a,.bool true]) f)
 (d [I (B4 (a+1))] f/\j [I (B4 (a+1))] f<j [I a] b))))
 (K (.tuple #[I 0,.bool false]) b)
theorem B3q(a:OA)(b:Int)(d:Int)(hvc:B9c Tryz.prog a b d h K):FCall Tryz.prog Xy #[.pointer a,I b,I d] h K:=
 B8 Tryz.func101 (c:=C1 Tryz.f101) (by kernel_rfl) (rs:=[.tmp 6,.tmp 7]) (by kernel_rfl) (fa:=⟨[(2,⟨[8],[],[.int .i64 0],⟨([6,7,8]++Lrg 10 18),[]⟩⟩)],[],[],[],[]⟩)
  (cfg:=⟨28,[],none,[76,135],[],false⟩) (args:=[.pointer a,I b,I d]) (by kernel_rfl) (B0 Tryz.call76 (B0 Tryz.call135 Bodies.nil)) (Eq.mp (by kernel_rfl) hvc)
def B5c(P:Program)(F:OA)(b4:Int)(b5:Int)(b:Int)(b6:Bool)(b7:OA)(b8 b9:Nat)(h:Heap)(K:Value->Heap->Prop):Prop:=
 FCall P Gm #[.pointer F,I b4] h (fun c2 c3=>∃ (i:OA) (e c0:Nat),c2= .slice i e c0/\FCall P Gm #[.pointer F,I b5] c3 (fun c4 v=>∃ (j:OA) (k c1:Nat),c4= .slice j k c1/\∃ A,i=some A/\0<=b/\b<(e:Int)/\∃ (m:Bool) (n:OA) (o p:Nat),v.cell? (Addr.add (A.add (b.toNat*2)) 0)=some (.bool m)/\v.cell? (Addr.add (A.add (b.toNat*2)) 1)=some (.slice n o p)/\∃ (f:List Value->Heap->Prop) (d:List Value->Heap->Nat),f [I 0] v/\
 ∀ (a:Int),∀ c,f [I a] c->Br (decide (a<(e:Int))) (∃ B,i=some B/\0<=a/\a<(e:Int)/\∃ (q:Bool) (r:OA) (s t:Nat),c.cell? (Addr.add (B.add (a.toNat*2)) 0)=some (.bool q)/\c.cell? (Addr.add (B.add (a.toNat*2)) 1)=some (.slice r s t)/\∃ (u:List Value->Heap->Prop),(FCall P H8 #[.agg #[.bool q,.slice r s t]] c (fun c5 a8=>∃ (G:Bool),c5= .bool G/\Br G (FCall P H8 #[.agg #[.bool m,.slice n o p]] a8 (fun c6 g=>∃ (H:Bool),c6= .bool H/\Br H (f [I (B4 (a+1))] g/\d [I (B4 (a+1))] g<d [I a] c)
 (∃ C,j=some C/\0<=a/\a<(k:Int)/\∃ (J:Bool) (L:OA) (M N:Nat),g.cell? (Addr.add (C.add (a.toNat*2)) 0)=some (.bool J)/\g.cell? (Addr.add (C.add (a.toNat*2)) 1)=some (.slice L M N)/\FCall P H8 #[.agg #[.bool J,.slice L M N]] g (fun c7 w=>∃ (O:Bool),c7= .bool O/\Br O (f [I (B4 (a+1))] w/\d [I (B4 (a+1))] w<d [I a] c)
 (u [] w)))))
 (u [] a8)))/\
 ∀ b2,u [] b2->wpH P (Instr.alloc 185 true (.tuple #[])) (fun c8 x=>∃ (l:Addr),c8= .pointer (some l)/\∃ D,j=some D/\0<=b/\b<(k:Int)/\∃ (Q:Bool) (R:OA) (S T:Nat),x.cell? (Addr.add (D.add (b.toNat*2)) 0)=some (.bool Q)/\x.cell? (Addr.add (D.add (b.toNat*2)) 1)=some (.slice R S T)/\FCall P Ay #[.pointer (some l),.agg #[.bool Q,.slice R S T],.agg #[.bool q,.slice r s t]] x (fun c9 y=>c9= .tuple #[]/\∃ E,j=some E/\0<=a/\a<(k:Int)/\∃ (V:Bool) (W:OA) (X Z:Nat),y.cell? (Addr.add (E.add (a.toNat*2)) 0)=some (.bool V)/\y.cell? (Addr.add (E.add (a.toNat*2)) 1)=some (.slice W X Z)/\FCall P Eo #[.pointer (some l),.agg #[.bool m,.slice n o p],.agg #[.bool V,.slice W X Z]] y (fun d0 a9=>d0= .tuple #[]/\FCall P Xk #[.pointer (some l)] a9 (fun d1 z=>∃ (a0:Bool) (a1:OA) (a2 a3:Nat),d1= .agg #[.bool a0,.slice a1 a2 a3]/\Heap.le a9 z/\FCall P Kz #[.agg #[.bool a0,.slice a1 a2 a3],.agg #[.bool b6,.slice b7 b8 b9]] z (fun d2 b0=>∃ (a4:Bool) (a5:OA) (a6 a7:Nat),d2= .agg #[.bool a4,.slice a5 a6 a7]/\Heap.le z b0/\∃ b3,i=some b3/\0<=a/\a<(e:Int)/\wpH P (Instr.storeAt 94 (.pointer (some (b3.add (a.toNat*2)))) (.agg #[.bool a4,.slice a5 a6 a7])) (fun _ b1=>f [I (B4 (a+1))] b1/\d [I (B4 (a+1))] b1<d [I a] c) b0))))) b2)
 (K (.tuple #[]) c)))
theorem B11(a:OA)(b:Int)(d:Int)(e:Int)(f:Bool)(g:OA)(i j:Nat)(hvc:B5c Tryz.prog a b d e f g i j h K):FCall Tryz.prog Qd #[.pointer a,I b,I d,I e,.agg #[.bool f,.slice g i j]] h K:=
 B8 Tryz.func104 (c:=C1 Tryz.f104) (by kernel_rfl) (rs:=[]) (by kernel_rfl) (fa:=⟨[(4,⟨[28],[],[.int .i64 0],⟨([13,14,15]++Lrg 28 37),[14]⟩⟩)],[(7,⟨[],[],[],⟨(Lrg 33 13),[]⟩⟩)],[(8,([0,1,2,3,4,5],[[],[],[0,1],[0,1,2],[],[0,1,2,3,4]])),(9,([0,1,2,3,4,5],[[],[],[],[1,2],[1,2,3],[0,1,2,3,4]])),(10,([0,1,3,2,4,5,6],[[],[],[],[],[2,3],[0,1,2,3,4],[0,1,2,3,4,5]]))],[],[]⟩)
  (cfg:=⟨65,[9,12,14],none,[76,135,136,150,151,160],[150,160],false⟩) (args:=[.pointer a,I b,I d,I e,.agg #[.bool f,.slice g i j]]) (by kernel_rfl) (B0 Tryz.call76 (B0 Tryz.call135 (B0 Tryz.call136 (B0 Tryz.call150 (B0 Tryz.call151 (B0 Tryz.call160 Bodies.nil)))))) (Eq.mp (by kernel_rfl) hvc)
def B0x(P:Program)(m:OA)(Z:Int)(h:Heap)(K:Value->Heap->Prop):Prop:=
 FCall P Ou #[I 1] h (fun a3 a4=>∃ (G:Bool) (H:OA) (J L:Nat),a3= .agg #[.bool G,.slice H J L]/\∃ (o:List Value->Heap->Prop) (p:List Value->Heap->Nat),o [.slice none 0 0,I 1,I 0,.bool G,.slice H J L] a4/\
 ∀ (e:OA) (b f:Nat) (d:Int) (a:Int) (g:Bool) (i:OA) (j k:Nat),∀ n,o [.slice e b f,I d,I a,.bool g,.slice i j k] n->Br (decide (a<Z)) (FCall P Xy #[.pointer m,I (b:Int),I a] n (fun a5 s=>∃ (t:Int) (M:Bool),a5= .tuple #[I t,.bool M]/\Br (!M) (o [.slice e b f,I d,I (B4 (a+1)),.bool g,.slice i j k] s/\p [.slice e b f,I d,I (B4 (a+1)),.bool g,.slice i j k] s<p [.slice e b f,I d,I a,.bool g,.slice i j k] n)
 (∃ (u:List Value->Heap->Prop),(Br (t != (b:Int)) (FCall P Xx #[.pointer m,I (b:Int),I t] s (fun a6 a7=>a6= .tuple #[]/\u [I (B4 (0-d))] a7))
 (u [I d] s))/\
 ∀ (v:Int),∀ E,u [I v] E->∃ X,m=some X/\∃ (a0:OA) (N a1:Nat),E.cell? (X.add 2)=some (.slice a0 N a1)/\∃ (q:List Value->Heap->Prop) (r:List Value->Heap->Nat),q [I 0] E/\
 ∀ (c:Int),∀ l,q [I c] l->Br (decide (c<(N:Int))) (Br (c != (b:Int)) (FCall P Qd #[.pointer m,I c,I (b:Int),I a,.agg #[.bool g,.slice i j k]] l (fun a8 V=>a8= .tuple #[]/\q [I (B4 (c+1))] V/\r [I (B4 (c+1))] V<r [I c] l))
 (q [I (B4 (c+1))] l/\r [I (B4 (c+1))] l<r [I c] l))
 (FCall P Gm #[.pointer m,I (b:Int)] l (fun a9 D=>∃ (O:OA) (Q a2:Nat),a9= .slice O Q a2/\∃ F,O=some F/\0<=a/\a<(Q:Int)/\∃ (w:Bool) (x:OA) (y z:Nat),D.cell? (Addr.add (F.add (a.toNat*2)) 0)=some (.bool w)/\D.cell? (Addr.add (F.add (a.toNat*2)) 1)=some (.slice x y z)/\wpH P (Instr.buildSlice 27 1 #[(0,I a)]) (fun b0 b1=>∃ (R:OA) (S T:Nat),b0= .slice R S T/\wpH P (Builtin.append_ #[27,27] 27 #[.slice e b f,.slice R S T]) (fun b2 W=>∃ (A:OA) (B C:Nat),b2= .slice A B C/\o [.slice A B C,I v,I (B4 (a+1)),.bool w,.slice x y z] W/\p [.slice A B C,I v,I (B4 (a+1)),.bool w,.slice x y z] W<p [.slice e b f,I d,I a,.bool g,.slice i j k] n) b1) D)))))
 (K (.tuple #[.slice e b f,.agg #[.bool g,.slice i j k],I d]) n))
theorem A6w(a:OA)(b:Int)(hvc:B0x Tryz.prog a b h K):FCall Tryz.prog Dk #[.pointer a,I b] h K:=
 B8 Tryz.func69 (c:=C1 Tryz.f69) (by kernel_rfl) (rs:=[.tmp 4,.cell 5 94,.tmp 6]) (by kernel_rfl) (fa:=⟨[(4,⟨[7,9,17],[(8,2)],[.slice none 0 0,.int .i64 0,.int .i64 0,.bool false,.slice none 0 0],⟨([7,9,10,11,12,13,14]++Lrg 17 52),[8]⟩⟩),(13,⟨[45],[],[.int .i64 0],⟨([14]++Lrg 45 13),[]⟩⟩)],[(12,⟨[9],[],[.int .i64 0],⟨([9]++Lrg 31 9),[]⟩⟩)],[(21,([0,1,2,3,4,5],[[],[],[],[0],[0,1,3],[0,1,2,3,4]]))],[],[]⟩)
  (cfg:=⟨72,[5,8],none,[76,100,101,102,104],[102,104],false⟩) (args:=[.pointer a,I b]) (by kernel_rfl) (B0 Tryz.call76 (B0 Tryz.call100 (B0 Tryz.call101 (B0 Tryz.call102 (B0 Tryz.call104 Bodies.nil))))) (Eq.mp (by kernel_rfl) hvc)
def B52(P:Program)(e:OA)(f g:Nat)(i:Int)(h:Heap)(K:Value->Heap->Prop):Prop:=
 wpH P (Instr.box 87 (.slice e f g)) (fun j k=>∃ (b:Addr),j= .pointer (some b)/\wpH P (Instr.box 3 (I i)) (fun l d=>∃ (a:Addr),l= .pointer (some a)/\∃ (c:Int),d.cell? a=some (I c)/\Br (decide (c<(1:Int))) (False)
 (K (.func (.func 174) #[] #[.pointer (some b),.pointer (some a)]) d)) k) h
theorem B0m(a:OA)(b d:Nat)(e:Int)(hvc:B52 Tryz.prog a b d e h K):FCall Tryz.prog Xr #[.slice a b d,I e] h K:=
 B8 Tryz.func131 (c:=C1 Tryz.f131) (by kernel_rfl) (rs:=[.tmp 4]) (by kernel_rfl) (fa:=⟨[],[],[],[],[]⟩)
  (cfg:=⟨9,[],none,[],[],false⟩) (args:=[.slice a b d,I e]) (by kernel_rfl) Bodies.nil (Eq.mp (by kernel_rfl) hvc)
def B0n(P:Program)(p:Nat)(f:Addr)(j:Addr)(h:Heap)(K:Value->Heap->Prop):Prop:=
 ∃ (g:List Value->Heap->Prop) (k:List Value->Heap->Nat),g [I 0] h/\
 ∀ (a:Int),∀ d,g [I a] d->∃ (q:OA) (l r:Nat),d.cell? f=some (.slice q l r)/\Br (decide (a<(l:Int))) (∃ (c:Int),d.cell? j=some (I c)/\∃ (s:OA) (b t:Nat),d.cell? f=some (.slice s b t)/\(0<=a/\a<=(b:Int))/\∃ (m:OA) (u n:Nat),d.cell? f=some (.slice m u n)/\(0<=B4 (a+(if ((b-(a.toNat):Nat):Int)<c then ((b-(a.toNat):Nat):Int) else c))/\B4 (a+(if ((b-(a.toNat):Nat):Int)<c then ((b-(a.toNat):Nat):Int) else c))<=(n:Int))/\(0<=B4 (a+(if ((b-(a.toNat):Nat):Int)<c then ((b-(a.toNat):Nat):Int) else c))/\B4 (a+(if ((b-(a.toNat):Nat):Int)<c then ((b-(a.toNat):Nat):Int) else c))<=(((B4 (a+(if ((b-(a.toNat):Nat):Int)<c then ((b-(a.toNat):Nat):Int) else c))).toNat:Nat):Int))/\(0<=a/\a<=(((B4 (a+(if ((b-(a.toNat):Nat):Int)<c then ((b-(a.toNat):Nat):Int) else c))).toNat:Nat):Int))/\YCall P p #[.slice (I8 m ((B4 (a+(if ((b-(a.toNat):Nat):Int)<c then ((b-(a.toNat):Nat):Int) else c))).toNat) (a.toNat) 4) ((B4 (a+(if ((b-(a.toNat):Nat):Int)<c then ((b-(a.toNat):Nat):Int) else c))).toNat-a.toNat) ((B4 (a+(if ((b-(a.toNat):Nat):Int)<c then ((b-(a.toNat):Nat):Int) else c))).toNat-a.toNat)] d (fun v e=>∃ (o:Bool),v= .bool o/\Br (!o) (K (.tuple #[]) e)
 (∃ (i:Int),e.cell? j=some (I i)/\g [I (B4 (a+i))] e/\k [I (B4 (a+i))] e<k [I a] d)))
 (K (.tuple #[]) d)
theorem A6s(a:Nat)(b:Addr)(d:Addr)(hvc:B0n Tryz.prog a b d h K):FCall Tryz.prog Gi #[.func (.yield a) #[] #[],.pointer (some b),.pointer (some d)] h K:=
 B8 Tryz.func174 (c:=C1 Tryz.f174) (by kernel_rfl) (rs:=[]) (by kernel_rfl) (fa:=⟨[(1,⟨[4],[],[.int .i64 0],⟨(Lrg 4 27),[]⟩⟩)],[],[(3,([0,1,2,3,4,5,6],[[],[],[],[1,2],[1,2,3],[0,1,2,3,4],[0,1,2,3,4,5]]))],[],[]⟩)
  (cfg:=⟨31,[],none,[],[],false⟩) (args:=[.func (.yield a) #[] #[],.pointer (some b),.pointer (some d)]) (by kernel_rfl) Bodies.nil (Eq.mp (by kernel_rfl) hvc)
theorem Yw:∀ (args:Array Value) (W:World),(callFunc Gi args).run Tryz.prog W= .ok (.enter Gi args) W:=Tryz.call174
def B96(P:Program)(c:Int)(b:Int)(r:OA)(j s:Nat)(h:Heap)(K:Value->Heap->Prop):Prop:=
 Br (decide (c<(1:Int))) (K (.tuple #[.slice none 0 0,.bool false]) h)
 (Br (decide (c>(64:Int))) (K (.tuple #[.slice none 0 0,.bool false]) h)
 (Br (decide (b<(1:Int))) (K (.tuple #[.slice none 0 0,.bool false]) h)
 (Br (decide (b>(64:Int))) (K (.tuple #[.slice none 0 0,.bool false]) h)
 (Br ((j:Int) != (B4 (c*b))) (K (.tuple #[.slice none 0 0,.bool false]) h)
 (FCall P A2z #[.slice r j s] h (fun u o=>∃ (k:OA) (t d:Nat) (l:Bool),u= .tuple #[.slice k t d,.bool l]/\Br (!l) (K (.tuple #[.slice none 0 0,.bool false]) o)
 (wpH P (Instr.makeSlice 46 (I c) (I c)) (fun v w=>∃ (f:OA) (g m:Nat),v= .slice f g m/\∃ (i:List Value->Heap->Prop) (n:List Value->Heap->Nat),i [I 0] w/\
 ∀ (a:Int),∀ e,i [I a] e->Br (decide (a<c)) ((0<=B4 ((B4 (a+1))*b)/\B4 ((B4 (a+1))*b)<=(d:Int))/\(0<=B4 (a*b)/\B4 (a*b)<=(((B4 ((B4 (a+1))*b)).toNat:Nat):Int))/\∃ q,f=some q/\0<=a/\a<(g:Int)/\wpH P (Instr.storeAt 43 (.pointer (some (q.add (a.toNat*1)))) (.slice (I8 k d ((B4 (a*b)).toNat) 4) (((B4 ((B4 (a+1))*b)).toNat)-((B4 (a*b)).toNat)) (d-((B4 (a*b)).toNat)))) (fun _ p=>i [I (B4 (a+1))] p/\n [I (B4 (a+1))] p<n [I a] e) e)
 (K (.tuple #[.slice f g m,.bool true]) e)) o)))))))
theorem B3m(a:Int)(b:Int)(d:OA)(e f:Nat)(hvc:B96 Tryz.prog a b d e f h K):FCall Tryz.prog Rx #[.agg #[I a,I b,.slice d e f]] h K:=
 B8 Tryz.func27 (c:=C1 Tryz.f27) (by kernel_rfl) (rs:=[.tmp 2,.tmp 3]) (by kernel_rfl) (fa:=⟨[(8,⟨[7],[],[.int .i64 0],⟨([7]++Lrg 48 20),[]⟩⟩)],[],[],[],[]⟩)
  (cfg:=⟨69,[1],none,[26],[],false⟩) (args:=[.agg #[I a,I b,.slice d e f]]) (by kernel_rfl) (B0 Tryz.call26 Bodies.nil) (Eq.mp (by kernel_rfl) hvc)
def B97(P:Program)(n:OA)(c E:Nat)(h:Heap)(K:Value->Heap->Prop):Prop:=
 Br ((c:Int)==(0:Int)) (K (.agg #[I 0,I 0,.slice none 0 0]) h)
 (∃ y,n=some y/\0<=(0:Int)/\(0:Int)<(c:Int)/\∃ (A:OA) (o B:Nat),h.cell? (y.add (((0:Int)).toNat*1))=some (.slice A o B)/\∃ (j:List Value->Heap->Prop) (p:List Value->Heap->Nat),j [I 0,I (c:Int),I (o:Int),.slice none 0 0] h/\
 ∀ (a:Int) (d:Int) (e:Int) (f:OA) (g i:Nat),∀ b,j [I a,I d,I e,.slice f g i] b->Br (decide (a<(c:Int))) (∃ z,n=some z/\0<=a/\a<(c:Int)/\∃ (q:OA) (r s:Nat),b.cell? (z.add (a.toNat*1))=some (.slice q r s)/\FCall P Xl #[.slice q r s] b (fun C w=>∃ (t:OA) (u v:Nat),C= .slice t u v/\Heap.le b w/\wpH P (Builtin.append_ #[22,22] 22 #[.slice f g i,.slice t u v]) (fun D x=>∃ (k:OA) (l m:Nat),D= .slice k l m/\j [I (B4 (a+1)),I d,I e,.slice k l m] x/\p [I (B4 (a+1)),I d,I e,.slice k l m] x<p [I a,I d,I e,.slice f g i] b) w))
 (K (.agg #[I d,I e,.slice f g i]) b))
theorem B3n(a:OA)(b d:Nat)(hvc:B97 Tryz.prog a b d h K):FCall Tryz.prog Ry #[.slice a b d] h K:=
 B8 Tryz.func73 (c:=C1 Tryz.f73) (by kernel_rfl) (rs:=[.cell 2 24]) (by kernel_rfl) (fa:=⟨[(5,⟨[4],[(3,3)],[.int .i64 0,.int .i64 0,.int .i64 0,.slice none 0 0],⟨([4]++Lrg 16 15),[3]⟩⟩)],[],[(7,((Lrg 0 10),[[],[0],[],[],[2,3],[2,3,4],[2,3,4,5],[0,1,2,3,4,5,6],(Lrg 0 8),(Lrg 0 9)]))],[],[]⟩)
  (cfg:=⟨32,[2,3],none,[84],[1000000000],false⟩) (args:=[.slice a b d]) (by kernel_rfl) (B0 Tryz.call84 Bodies.nil) (Eq.mp (by kernel_rfl) hvc)
def B57(P:Program)(c:Int)(g:Int)(h:Heap)(K:Value->Heap->Prop):Prop:=
 wpH P (Instr.makeSlice 46 (I c) (I c)) (fun p q=>∃ (d:OA) (e i:Nat),p= .slice d e i/\∃ (f:List Value->Heap->Prop) (j:List Value->Heap->Nat),f [I 0] q/\
 ∀ (a:Int),∀ b,f [I a] b->Br (decide (a<c)) (wpH P (Instr.makeSlice 43 (I g) (I g)) (fun r s=>∃ (k:OA) (l m:Nat),r= .slice k l m/\∃ o,d=some o/\0<=a/\a<(e:Int)/\wpH P (Instr.storeAt 43 (.pointer (some (o.add (a.toNat*1)))) (.slice k l m)) (fun _ n=>f [I (B4 (a+1))] n/\j [I (B4 (a+1))] n<j [I a] b) s) b)
 (K (.slice d e i) b)) h
theorem B0u(a:Int)(b:Int)(hvc:B57 Tryz.prog a b h K):FCall Tryz.prog Qb #[I a,I b] h K:=
 B8 Tryz.func89 (c:=C1 Tryz.f89) (by kernel_rfl) (rs:=[.tmp 4]) (by kernel_rfl) (fa:=⟨[(3,⟨[6],[],[.int .i64 0],⟨([6]++Lrg 9 10),[]⟩⟩)],[],[],[],[]⟩)
  (cfg:=⟨20,[],none,[],[],false⟩) (args:=[I a,I b]) (by kernel_rfl) Bodies.nil (Eq.mp (by kernel_rfl) hvc)
def B95(P:Program)(c:Int)(h:Heap)(K:Value->Heap->Prop):Prop:=
 FCall P Qb #[I c,I c] h (fun y z=>∃ (d:OA) (e g:Nat),y= .slice d e g/\∃ (f:List Value->Heap->Prop) (i:List Value->Heap->Nat),f [I 0] z/\
 ∀ (a:Int),∀ b,f [I a] b->Br (decide (a<c)) (∃ v,d=some v/\0<=a/\a<(e:Int)/\∃ (j:OA) (k x:Nat),b.cell? (v.add (a.toNat*1))=some (.slice j k x)/\FCall P B80 #[I 1] b (fun A t=>∃ (l:Bool) (m:OA) (n o:Nat) (p:Bool) (q:OA) (r s:Nat),A= .agg #[.bool l,.slice m n o,.bool p,.slice q r s]/\Heap.le b t/\∃ w,j=some w/\0<=a/\a<(k:Int)/\wpH P (Instr.storeAt 54 (.pointer (some (w.add (a.toNat*4)))) (.agg #[.bool l,.slice m n o,.bool p,.slice q r s])) (fun _ u=>f [I (B4 (a+1))] u/\i [I (B4 (a+1))] u<i [I a] b) t))
 (K (.slice d e g) b))
theorem B3l(a:Int)(hvc:B95 Tryz.prog a h K):FCall Tryz.prog A30 #[I a] h K:=
 B8 Tryz.func115 (c:=C1 Tryz.f115) (by kernel_rfl) (rs:=[.tmp 2]) (by kernel_rfl) (fa:=⟨[(3,⟨[4],[],[.int .i64 0],⟨([4]++Lrg 8 12),[]⟩⟩)],[],[(5,((Lrg 0 8),[[],[],[0,1],[0,1,2],[],[],[0,1,2,3,4,5],[0,1,2,3,4,5,6]]))],[],[]⟩)
  (cfg:=⟨21,[],none,[59,89],[],false⟩) (args:=[I a]) (by kernel_rfl) (B0 Tryz.call59 (B0 Tryz.call89 Bodies.nil)) (Eq.mp (by kernel_rfl) hvc)
def B99(P:Program)(B:OA)(k J:Nat)(h:Heap)(K:Value->Heap->Prop):Prop:=
 ∃ (f:List Value->Heap->Prop) (l:List Value->Heap->Nat),f [.slice none 0 0,I 0] h/\
 ∀ (b:OA) (c d:Nat) (a:Int),∀ e,f [.slice b c d,I a] e->Br (decide (a<(k:Int))) (wpH P (Instr.buildSlice 43 0 #[]) (fun C y=>∃ (m:OA) (n o:Nat),C= .slice m n o/\∃ A,B=some A/\0<=a/\a<(k:Int)/\∃ (p:OA) (q r:Nat),y.cell? (A.add (a.toNat*1))=some (.slice p q r)/\wpH P (Builtin.append_ #[43,43] 43 #[.slice m n o,.slice p q r]) (fun D E=>∃ (s:OA) (t u:Nat),D= .slice s t u/\wpH P (Instr.buildSlice 46 1 #[(0,.slice s t u)]) (fun F G=>∃ (v:OA) (w x:Nat),F= .slice v w x/\wpH P (Builtin.append_ #[46,46] 46 #[.slice b c d,.slice v w x]) (fun H z=>∃ (g:OA) (i j:Nat),H= .slice g i j/\f [.slice g i j,I (B4 (a+1))] z/\l [.slice g i j,I (B4 (a+1))] z<l [.slice b c d,I a] e) G) E) y) e)
 (K (.slice b c d) e)
theorem B3o(a:OA)(b d:Nat)(hvc:B99 Tryz.prog a b d h K):FCall Tryz.prog Xv #[.slice a b d] h K:=
 B8 Tryz.func105 (c:=C1 Tryz.f105) (by kernel_rfl) (rs:=[.tmp 2]) (by kernel_rfl) (fa:=⟨[(3,⟨[3,4],[],[.slice none 0 0,.int .i64 0],⟨(Lrg 3 17),[]⟩⟩)],[],[],[],[]⟩)
  (cfg:=⟨21,[],none,[],[],false⟩) (args:=[.slice a b d]) (by kernel_rfl) Bodies.nil (Eq.mp (by kernel_rfl) hvc)
def Jk(P:Program)(f:OA)(g i:Nat)(b2:Int)(b3:List Value->Heap->Prop)(l:List Value->Heap->Nat)(c:Int)(b4:Bool)(b5:OA)(b6 b7:Nat)(b8:Bool)(b9:OA)(c0 c1:Nat)(c2:Heap)(c3:Heap):Prop:=
 ∃ (j:List Value->Heap->Prop) (m:List Value->Heap->Nat),j [I b2] c2/\
 ∀ (a:Int),∀ b,j [I a] b->∃ a7,f=some a7/\0<=c/\c<(g:Int)/\∃ (c4:OA) (n c5:Nat),b.cell? (a7.add (c.toNat*1))=some (.slice c4 n c5)/\Br (decide (a<(n:Int))) (∃ a8,f=some a8/\0<=c/\c<(g:Int)/\∃ (o:OA) (p c6:Nat),b.cell? (a8.add (c.toNat*1))=some (.slice o p c6)/\∃ a9,f=some a9/\0<=c/\c<(g:Int)/\∃ (q:OA) (r c7:Nat),b.cell? (a9.add (c.toNat*1))=some (.slice q r c7)/\∃ d,q=some d/\0<=a/\a<(r:Int)/\∃ (s:Bool) (t:OA) (u v:Nat) (w:Bool) (x:OA) (y z:Nat),b.cell? (Addr.add (d.add (a.toNat*4)) 0)=some (.bool s)/\b.cell? (Addr.add (d.add (a.toNat*4)) 1)=some (.slice t u v)/\b.cell? (Addr.add (d.add (a.toNat*4)) 2)=some (.bool w)/\b.cell? (Addr.add (d.add (a.toNat*4)) 3)=some (.slice x y z)/\∃ b0,f=some b0/\0<=(i:Int)/\(i:Int)<(g:Int)/\∃ (A:OA) (B c8:Nat),b.cell? (b0.add (((i:Int)).toNat*1))=some (.slice A B c8)/\∃ e,A=some e/\0<=a/\a<(B:Int)/\∃ (C:Bool) (D:OA) (E F:Nat) (G:Bool) (H:OA) (J L:Nat),b.cell? (Addr.add (e.add (a.toNat*4)) 0)=some (.bool C)/\b.cell? (Addr.add (e.add (a.toNat*4)) 1)=some (.slice D E F)/\b.cell? (Addr.add (e.add (a.toNat*4)) 2)=some (.bool G)/\b.cell? (Addr.add (e.add (a.toNat*4)) 3)=some (.slice H J L)/\FCall P Rv #[.agg #[.bool b4,.slice b5 b6 b7,.bool b8,.slice b9 c0 c1],.agg #[.bool C,.slice D E F,.bool G,.slice H J L]] b (fun c9 k=>∃ (M:Bool) (N:OA) (O Q:Nat) (R:Bool) (S:OA) (T V:Nat),c9= .agg #[.bool M,.slice N O Q,.bool R,.slice S T V]/\Heap.le b k/\FCall P Xn #[.agg #[.bool s,.slice t u v,.bool w,.slice x y z],.agg #[.bool M,.slice N O Q,.bool R,.slice S T V]] k (fun d0 a5=>∃ (W:Bool) (X:OA) (Z a0:Nat) (a1:Bool) (a2:OA) (a3 a4:Nat),d0= .agg #[.bool W,.slice X Z a0,.bool a1,.slice a2 a3 a4]/\Heap.le k a5/\∃ b1,o=some b1/\0<=a/\a<(p:Int)/\wpH P (Instr.storeAt 54 (.pointer (some (b1.add (a.toNat*4)))) (.agg #[.bool W,.slice X Z a0,.bool a1,.slice a2 a3 a4])) (fun _ a6=>j [I (B4 (a+1))] a6/\m [I (B4 (a+1))] a6<m [I a] b) a5)))
 (b3 [I (B4 (c+1))] b/\l [I (B4 (c+1))] b<l [I c] c3)
def Fa(P:Program)(v:OA)(i:Nat)(S:List Value->Heap->Prop)(w:List Value->Heap->Nat)(x:OA)(g y:Nat)(c:Int)(T:Bool)(V:OA)(W X:Nat)(Z:Bool)(a0:OA)(a1 a2:Nat)(z:Bool)(A:OA)(B C:Nat)(D:Bool)(E:OA)(F G:Nat)(a3:Heap)(a4:Heap):Prop:=
 ∃ (d:List Value->Heap->Prop) (e:List Value->Heap->Nat),d [I 0] a4/\
 ∀ (a:Int),∀ b,d [I a] b->Br (decide (a<(i:Int))) (∃ R,v=some R/\0<=a/\a<(i:Int)/\∃ (H:OA) (J a5:Nat),b.cell? (R.add (a.toNat*1))=some (.slice H J a5)/\∃ f,H=some f/\0<=c/\c<(J:Int)/\∃ (j:Bool) (k:OA) (l m:Nat) (n:Bool) (o:OA) (p q:Nat),b.cell? (Addr.add (f.add (c.toNat*4)) 0)=some (.bool j)/\b.cell? (Addr.add (f.add (c.toNat*4)) 1)=some (.slice k l m)/\b.cell? (Addr.add (f.add (c.toNat*4)) 2)=some (.bool n)/\b.cell? (Addr.add (f.add (c.toNat*4)) 3)=some (.slice o p q)/\Br (a==(g:Int)) (d [I (B4 (a+1))] b/\e [I (B4 (a+1))] b<e [I a] b)
 (FCall P Hr #[.agg #[.bool j,.slice k l m,.bool n,.slice o p q]] b (fun a6 u=>∃ (L:Int),a6=I L/\Br (L==(0:Int)) (d [I (B4 (a+1))] u/\e [I (B4 (a+1))] u<e [I a] b)
 (Jk P v i g c d e a j k l m n o p q u b))))
 (wpH P (Instr.buildSlice 27 1 #[(0,I c)]) (fun a7 a8=>∃ (M:OA) (N O:Nat),a7= .slice M N O/\wpH P (Builtin.append_ #[27,27] 27 #[.slice x g y,.slice M N O]) (fun a9 Q=>∃ (r:OA) (s t:Nat),a9= .slice r s t/\S [.slice r s t,I (B4 (c+1)),.bool z,.slice A B C,.bool D,.slice E F G] Q/\w [.slice r s t,I (B4 (c+1)),.bool z,.slice A B C,.bool D,.slice E F G] Q<w [.slice x g y,I c,.bool T,.slice V W X,.bool Z,.slice a0 a1 a2] a3) a8) b)
def Jl(P:Program)(e:OA)(f:Nat)(M:List Value->Heap->Prop)(N:List Value->Heap->Nat)(O:OA)(c Q:Nat)(R:Int)(S:Bool)(T:OA)(V W:Nat)(X:Bool)(Z:OA)(a0 a1:Nat)(a2:Bool)(a3:OA)(a4 a5:Nat)(a6:Bool)(a7:OA)(a8 a9:Nat)(b0:Bool)(b1:OA)(b2 b3:Nat)(b4:Bool)(b5:OA)(b6 b7:Nat)(b8:Heap)(b9:Heap):Prop:=
 ∃ (g:List Value->Heap->Prop) (i:List Value->Heap->Nat),g [I 0] b8/\
 ∀ (a:Int),∀ b,g [I a] b->∃ G,e=some G/\0<=(c:Int)/\(c:Int)<(f:Int)/\∃ (c0:OA) (j c1:Nat),b.cell? (G.add (((c:Int)).toNat*1))=some (.slice c0 j c1)/\Br (decide (a<(j:Int))) (∃ H,e=some H/\0<=(c:Int)/\(c:Int)<(f:Int)/\∃ (k:OA) (l c2:Nat),b.cell? (H.add (((c:Int)).toNat*1))=some (.slice k l c2)/\∃ J,e=some J/\0<=(c:Int)/\(c:Int)<(f:Int)/\∃ (m:OA) (n c3:Nat),b.cell? (J.add (((c:Int)).toNat*1))=some (.slice m n c3)/\∃ d,m=some d/\0<=a/\a<(n:Int)/\∃ (o:Bool) (p:OA) (q r:Nat) (s:Bool) (t:OA) (u v:Nat),b.cell? (Addr.add (d.add (a.toNat*4)) 0)=some (.bool o)/\b.cell? (Addr.add (d.add (a.toNat*4)) 1)=some (.slice p q r)/\b.cell? (Addr.add (d.add (a.toNat*4)) 2)=some (.bool s)/\b.cell? (Addr.add (d.add (a.toNat*4)) 3)=some (.slice t u v)/\FCall P Xp #[.agg #[.bool o,.slice p q r,.bool s,.slice t u v],.agg #[.bool a2,.slice a3 a4 a5,.bool a6,.slice a7 a8 a9]] b (fun c4 E=>∃ (w:Bool) (x:OA) (y z:Nat) (A:Bool) (B:OA) (C D:Nat),c4= .agg #[.bool w,.slice x y z,.bool A,.slice B C D]/\Heap.le b E/\∃ L,k=some L/\0<=a/\a<(l:Int)/\wpH P (Instr.storeAt 54 (.pointer (some (L.add (a.toNat*4)))) (.agg #[.bool w,.slice x y z,.bool A,.slice B C D])) (fun _ F=>g [I (B4 (a+1))] F/\i [I (B4 (a+1))] F<i [I a] b) E))
 (Fa P e f M N O c Q R S T V W X Z a0 a1 b0 b1 b2 b3 b4 b5 b6 b7 b9 b)
def Jm(P:Program)(n:OA)(o:Nat)(A:List Value->Heap->Prop)(B:List Value->Heap->Nat)(C:OA)(d D:Nat)(a:Int)(E:Bool)(F:OA)(G H:Nat)(J:Bool)(L:OA)(M N:Nat)(O:Bool)(Q:OA)(R S:Nat)(T:Bool)(V:OA)(W X:Nat)(Z:Heap)(b:Heap):Prop:=
 ∃ z,n=some z/\0<=(d:Int)/\(d:Int)<(o:Int)/\∃ (p:OA) (q a0:Nat),b.cell? (z.add (((d:Int)).toNat*1))=some (.slice p q a0)/\∃ c,p=some c/\0<=a/\a<(q:Int)/\∃ (e:Bool) (f:OA) (g i:Nat) (j:Bool) (k:OA) (l m:Nat),b.cell? (Addr.add (c.add (a.toNat*4)) 0)=some (.bool e)/\b.cell? (Addr.add (c.add (a.toNat*4)) 1)=some (.slice f g i)/\b.cell? (Addr.add (c.add (a.toNat*4)) 2)=some (.bool j)/\b.cell? (Addr.add (c.add (a.toNat*4)) 3)=some (.slice k l m)/\FCall P Rv #[.agg #[.bool O,.slice Q R S,.bool T,.slice V W X],.agg #[.bool e,.slice f g i,.bool j,.slice k l m]] b (fun a1 a2=>∃ (r:Bool) (s:OA) (t u:Nat) (v:Bool) (w:OA) (x y:Nat),a1= .agg #[.bool r,.slice s t u,.bool v,.slice w x y]/\Jl P n o A B C d D a E F G H J L M N e f g i j k l m r s t u v w x y a2 Z)
def Jn(P:Program)(e:OA)(c:Nat)(t:List Value->Heap->Prop)(r:List Value->Heap->Nat)(f:OA)(a g:Nat)(i:Int)(j:Bool)(k:OA)(l m:Nat)(n:Bool)(o:OA)(p q:Nat)(b:Int)(u:Heap)(d:Heap):Prop:=
 Br (b==(c:Int)) (t [.slice f a g,I (B4 (i+1)),.bool false,.slice none 0 0,.bool false,.slice none 0 0] d/\r [.slice f a g,I (B4 (i+1)),.bool false,.slice none 0 0,.bool false,.slice none 0 0] d<r [.slice f a g,I i,.bool j,.slice k l m,.bool n,.slice o p q] u)
 (∃ (s:List Value->Heap->Prop),(Br (b != (a:Int)) (∃ V,e=some V/\0<=(a:Int)/\(a:Int)<(c:Int)/\∃ (v:OA) (w x:Nat),d.cell? (V.add (((a:Int)).toNat*1))=some (.slice v w x)/\∃ W,e=some W/\0<=b/\b<(c:Int)/\∃ (y:OA) (z A:Nat),d.cell? (W.add (b.toNat*1))=some (.slice y z A)/\∃ X,e=some X/\0<=b/\b<(c:Int)/\wpH P (Instr.storeAt 43 (.pointer (some (X.add (b.toNat*1)))) (.slice v w x)) (fun _ a1=>∃ Z,e=some Z/\0<=(a:Int)/\(a:Int)<(c:Int)/\wpH P (Instr.storeAt 43 (.pointer (some (Z.add (((a:Int)).toNat*1)))) (.slice y z A)) (fun _ a2=>FCall P Xo #[.agg #[.bool j,.slice k l m,.bool n,.slice o p q]] a2 (fun a3 a4=>∃ (B:Bool) (C:OA) (D E:Nat) (F:Bool) (G:OA) (H J:Nat),a3= .agg #[.bool B,.slice C D E,.bool F,.slice G H J]/\s [.bool B,.slice C D E,.bool F,.slice G H J] a4)) a1) d)
 (s [.bool j,.slice k l m,.bool n,.slice o p q] d))/\
 ∀ (L:Bool) (M:OA) (N O:Nat) (Q:Bool) (R:OA) (S T:Nat),∀ a0,s [.bool L,.slice M N O,.bool Q,.slice R S T] a0->Jm P e c t r f a g i j k l m n o p q L M N O Q R S T u a0)
def A55(P:Program)(a1:OA)(a2 a3:Nat)(u:Int)(h:Heap)(K:Value->Heap->Prop):Prop:=
 FCall P Xv #[.slice a1 a2 a3] h (fun a6 a7=>∃ (f:OA) (c k:Nat),a6= .slice f c k/\FCall P B80 #[I 1] a7 (fun a8 a9=>∃ (z:Bool) (A:OA) (B C:Nat) (D:Bool) (E:OA) (F G:Nat),a8= .agg #[.bool z,.slice A B C,.bool D,.slice E F G]/\∃ (v:List Value->Heap->Prop) (a4:List Value->Heap->Nat),v [.slice none 0 0,I 0,.bool z,.slice A B C,.bool D,.slice E F G] a9/\
 ∀ (i:OA) (a j:Nat) (d:Int) (m:Bool) (n:OA) (o p:Nat) (q:Bool) (r:OA) (s t:Nat),∀ g,v [.slice i a j,I d,.bool m,.slice n o p,.bool q,.slice r s t] g->Br (decide (d<u)) (Br (decide ((a:Int)<(c:Int))) (∃ (w:List Value->Heap->Prop),(∃ (x:List Value->Heap->Prop) (H:List Value->Heap->Nat),x [I (a:Int)] g/\
 ∀ (b:Int),∀ e,x [I b] e->Br (decide (b<(c:Int))) (∃ Z,f=some Z/\0<=b/\b<(c:Int)/\∃ (J:OA) (L a5:Nat),e.cell? (Z.add (b.toNat*1))=some (.slice J L a5)/\∃ l,J=some l/\0<=d/\d<(L:Int)/\∃ (M:Bool) (N:OA) (O Q:Nat) (R:Bool) (S:OA) (T V:Nat),e.cell? (Addr.add (l.add (d.toNat*4)) 0)=some (.bool M)/\e.cell? (Addr.add (l.add (d.toNat*4)) 1)=some (.slice N O Q)/\e.cell? (Addr.add (l.add (d.toNat*4)) 2)=some (.bool R)/\e.cell? (Addr.add (l.add (d.toNat*4)) 3)=some (.slice S T V)/\FCall P Hr #[.agg #[.bool M,.slice N O Q,.bool R,.slice S T V]] e (fun b0 y=>∃ (W:Int),b0=I W/\Br (W==(0:Int)) (x [I (B4 (b+1))] y/\H [I (B4 (b+1))] y<H [I b] e)
 (w [I b] y)))
 (w [I b] e))/\
 ∀ (X:Int),∀ a0,w [I X] a0->Jn P f c v a4 i a j d m n o p q r s t X g a0)
 (Br (decide ((a:Int)<u)) (K (.tuple #[.slice f c k,.slice i a j,.agg #[.bool false,.slice none 0 0,.bool false,.slice none 0 0]]) g)
 (K (.tuple #[.slice f c k,.slice i a j,.agg #[.bool m,.slice n o p,.bool q,.slice r s t]]) g)))
 (Br (decide ((a:Int)<u)) (K (.tuple #[.slice f c k,.slice i a j,.agg #[.bool false,.slice none 0 0,.bool false,.slice none 0 0]]) g)
 (K (.tuple #[.slice f c k,.slice i a j,.agg #[.bool m,.slice n o p,.bool q,.slice r s t]]) g))))
theorem A3p(a:OA)(b d:Nat)(e:Int)(hvc:A55 Tryz.prog a b d e h K):FCall Tryz.prog Hw #[.slice a b d,I e] h K:=
 B8 Tryz.func72 (c:=C1 Tryz.f72) (by kernel_rfl) (rs:=[.tmp 4,.tmp 5,.cell 6 54]) (by kernel_rfl) (fa:=⟨[(5,⟨[8,10],[(9,4)],[.slice none 0 0,.int .i64 0,.bool false,.slice none 0 0,.bool false,.slice none 0 0],⟨([8]++Lrg 10 8++Lrg 21 148),[9,13,16]⟩⟩),(9,⟨[12],[],[.int .i64 0],⟨([12]++Lrg 36 17),[]⟩⟩),(19,⟨[14],[],[.int .i64 0],⟨([14]++Lrg 87 24),[]⟩⟩),(23,⟨[15],[],[.int .i64 0],⟨([15,16,17]++Lrg 111 54),[16]⟩⟩),(28,⟨[17],[],[.int .i64 0],⟨([17]++Lrg 133 32),[]⟩⟩)],[(11,⟨[12],[],[.int .i64 0],⟨([12]++Lrg 36 17),[]⟩⟩),(16,⟨[],[(9,4)],[.bool false,.slice none 0 0,.bool false,.slice none 0 0],⟨(Lrg 58 19),[9]⟩⟩)],[(14,((Lrg 0 16),[[],[],[],[],[],[],[4,5],[4,5,6],[],[],[8,9],[8,9,10],([0,1]++Lrg 4 8),([0,1]++Lrg 4 9),(Lrg 0 14),(Lrg 0 15)])),(21,((Lrg 0 16),[[],[],[0,1],[0,1,2],[],[],[],[5,6],[5,6,7],[],[5,6,7,8,9],[5,6,7,8,9,10],[],(Lrg 5 8),(Lrg 0 14),(Lrg 0 15)])),(30,((Lrg 0 24),[[],[],[0,1],[0,1,2],[],[],[],[5,6],[5,6,7],[],[5,6,7,8,9],[5,6,7,8,9,10],[],[],[],[13,14],[13,14,15],[],[13,14,15,16,17],[13,14,15,16,17,18],(Lrg 12 8),(Lrg 5 16),(Lrg 0 22),(Lrg 0 23)])),(34,([0,1,2,3,4,5],[[],[],[],[0],[0,1,3],[0,1,2,3,4]]))],[],[]⟩)
  (cfg:=⟨177,[6,9,13,16],none,[32,59,88,105,106,107,140],[],false⟩) (args:=[.slice a b d,I e]) (by kernel_rfl) (B0 Tryz.call32 (B0 Tryz.call59 (B0 Tryz.call88 (B0 Tryz.call105 (B0 Tryz.call106 (B0 Tryz.call107 (B0 Tryz.call140 Bodies.nil))))))) (Eq.mp (by kernel_rfl) hvc)
def C1k(P:Program)(c:Int)(a:Int)(r:OA)(s t:Nat)(h:Heap)(K:Value->Heap->Prop):Prop:=
 FCall P Rx #[.agg #[I c,I a,.slice r s t]] h (fun A b=>∃ (d:OA) (e f:Nat) (g:Bool),A= .tuple #[.slice d e f,.bool g]/\Br (!g) (K (.tuple #[.string ({ data:=#[] }:ByteArray),I 1]) b)
 (Br (c != a) (K (.tuple #[.string ({ data:=#[] }:ByteArray),I 4]) b)
 (FCall P Hw #[.slice d e f,I a] b (fun B C=>∃ (u:OA) (v w:Nat) (x:OA) (y z:Nat) (i:Bool) (j:OA) (k l:Nat) (m:Bool) (n:OA) (o p:Nat),B= .tuple #[.slice u v w,.slice x y z,.agg #[.bool i,.slice j k l,.bool m,.slice n o p]]/\FCall P Jf #[.agg #[.bool i,.slice j k l,.bool m,.slice n o p]] C (fun D E=>∃ (q:ByteArray),D= .string q/\K (.tuple #[.string q,I 0]) E)))))
theorem B73(a:Int)(b:Int)(d:OA)(e f:Nat)(hvc:C1k Tryz.prog a b d e f h K):FCall Tryz.prog A4i #[.agg #[I a,I b,.slice d e f]] h K:=
 B8 Tryz.func38 (c:=C1 Tryz.f38) (by kernel_rfl) (rs:=[.tmp 2,.tmp 3]) (by kernel_rfl) (fa:=⟨[],[],[],[],[]⟩)
  (cfg:=⟨31,[1,8],none,[27,28,72],[],false⟩) (args:=[.agg #[I a,I b,.slice d e f]]) (by kernel_rfl) (B0 Tryz.call27 (B0 Tryz.call28 (B0 Tryz.call72 Bodies.nil))) (Eq.mp (by kernel_rfl) hvc)
def B0t(P:Program)(f4:OA)(b i9:Nat)(h:Heap)(K:Value->Heap->Prop):Prop:=
 FCall P A30 #[I (b:Int)] h (fun g7 g8=>∃ (N:OA) (O f5:Nat),g7= .slice N O f5/\∃ (j:List Value->Heap->Prop) (i:List Value->Heap->Nat),j [.slice none 0 0,I 0] g8/\
 ∀ (d:OA) (e f:Nat) (a:Int),∀ c,j [.slice d e f,I a] c->Br (decide (a<(b:Int))) (∃ f2,f4=some f2/\0<=a/\a<(b:Int)/\∃ (l:OA) (m n:Nat),c.cell? (f2.add (a.toNat*1))=some (.slice l m n)/\∃ s,N=some s/\0<=a/\a<(O:Int)/\(∃ (Q:OA) (R S:Nat),c.cell? (s.add (a.toNat*1))=some (.slice Q R S)/\wpH P (Instr.buildSlice 43 0 #[]) (fun g9 d9=>∃ (T:OA) (V W:Nat),g9= .slice T V W/\Heap.le c d9/\wpH P (Builtin.append_ #[43,43] 43 #[.slice T V W,.slice l m n]) (fun h0 h1=>∃ (X:OA) (Z a0:Nat),h0= .slice X Z a0/\wpH P (Builtin.append_ #[43,43] 43 #[.slice X Z a0,.slice Q R S]) (fun h2 e0=>∃ (a1:OA) (a2 a3:Nat),h2= .slice a1 a2 a3/\wpH P (Instr.buildSlice 46 1 #[(0,.slice a1 a2 a3)]) (fun h3 e1=>∃ (a4:OA) (a5 a6:Nat),h3= .slice a4 a5 a6/\Heap.le e0 e1/\wpH P (Builtin.append_ #[46,46] 46 #[.slice d e f,.slice a4 a5 a6]) (fun h4 e2=>∃ (t:OA) (u v:Nat),h4= .slice t u v/\j [.slice t u v,I (B4 (a+1))] e2/\i [.slice t u v,I (B4 (a+1))] e2<i [.slice d e f,I a] c) e1) e0) h1) d9) c)/\(wpH P (Instr.buildSlice 43 0 #[]) (fun h5 r=>∃ (w:OA) (x y:Nat),h5= .slice w x y/\Heap.le c r/\(∃ (a7:OA) (a8 a9:Nat),r.cell? (s.add (a.toNat*1))=some (.slice a7 a8 a9)/\wpH P (Builtin.append_ #[43,43] 43 #[.slice w x y,.slice l m n]) (fun h6 h7=>∃ (b0:OA) (b1 b2:Nat),h6= .slice b0 b1 b2/\wpH P (Builtin.append_ #[43,43] 43 #[.slice b0 b1 b2,.slice a7 a8 a9]) (fun h8 e3=>∃ (b3:OA) (b4 b5:Nat),h8= .slice b3 b4 b5/\wpH P (Instr.buildSlice 46 1 #[(0,.slice b3 b4 b5)]) (fun h9 e4=>∃ (b6:OA) (b7 b8:Nat),h9= .slice b6 b7 b8/\Heap.le e3 e4/\wpH P (Builtin.append_ #[46,46] 46 #[.slice d e f,.slice b6 b7 b8]) (fun i0 e5=>∃ (z:OA) (A B:Nat),i0= .slice z A B/\j [.slice z A B,I (B4 (a+1))] e5/\i [.slice z A B,I (B4 (a+1))] e5<i [.slice d e f,I a] c) e4) e3) h7) r)/\(wpH P (Builtin.append_ #[43,43] 43 #[.slice w x y,.slice l m n]) (fun i1 e6=>∃ (b9:OA) (c0 c1:Nat),i1= .slice b9 c0 c1/\∃ (c2:OA) (c3 c4:Nat),e6.cell? (s.add (a.toNat*1))=some (.slice c2 c3 c4)/\wpH P (Builtin.append_ #[43,43] 43 #[.slice b9 c0 c1,.slice c2 c3 c4]) (fun i2 e7=>∃ (c5:OA) (c6 c7:Nat),i2= .slice c5 c6 c7/\wpH P (Instr.buildSlice 46 1 #[(0,.slice c5 c6 c7)]) (fun i3 e8=>∃ (c8:OA) (c9 d0:Nat),i3= .slice c8 c9 d0/\Heap.le e7 e8/\wpH P (Builtin.append_ #[46,46] 46 #[.slice d e f,.slice c8 c9 d0]) (fun i4 e9=>∃ (C:OA) (D E:Nat),i4= .slice C D E/\j [.slice C D E,I (B4 (a+1))] e9/\i [.slice C D E,I (B4 (a+1))] e9<i [.slice d e f,I a] c) e8) e7) e6) r)) c))
 (FCall P Hw #[.slice d e f,I (b:Int)] c (fun i5 f0=>∃ (d1:OA) (d2 f6:Nat) (f7:OA) (d3 f8:Nat) (f9:Bool) (g0:OA) (g1 g2:Nat) (g3:Bool) (g4:OA) (g5 g6:Nat),i5= .tuple #[.slice d1 d2 f6,.slice f7 d3 f8,.agg #[.bool f9,.slice g0 g1 g2,.bool g3,.slice g4 g5 g6]]/\Br (decide ((d3:Int)<(b:Int))) (K (.tuple #[.slice none 0 0,.bool false]) f0)
 (∃ (F:List Value->Heap->Prop) (d4:List Value->Heap->Nat),F [.slice none 0 0,I 0] f0/\
 ∀ (o:OA) (p q:Nat) (g:Int),∀ k,F [.slice o p q,I g] k->Br (decide (g<(b:Int))) (∃ f3,d1=some f3/\0<=g/\g<(d2:Int)/\∃ (d5:OA) (G H:Nat),k.cell? (f3.add (g.toNat*1))=some (.slice d5 G H)/\(0<=(b:Int)/\(b:Int)<=(G:Int))/\wpH P (Instr.buildSlice 46 1 #[(0,.slice (I8 d5 H (((b:Int)).toNat) 4) (G-(((b:Int)).toNat)) (H-(((b:Int)).toNat)))]) (fun i6 i7=>∃ (d6:OA) (d7 d8:Nat),i6= .slice d6 d7 d8/\wpH P (Builtin.append_ #[46,46] 46 #[.slice o p q,.slice d6 d7 d8]) (fun i8 f1=>∃ (J:OA) (L M:Nat),i8= .slice J L M/\F [.slice J L M,I (B4 (g+1))] f1/\d4 [.slice J L M,I (B4 (g+1))] f1<d4 [.slice o p q,I g] k) i7) k)
 (K (.tuple #[.slice o p q,.bool true]) k)))))
theorem A6u(a:OA)(b d:Nat)(hvc:B0t Tryz.prog a b d h K):FCall Tryz.prog Rz #[.slice a b d] h K:=
 B8 Tryz.func99 (c:=C1 Tryz.f99) (by kernel_rfl) (rs:=[.tmp 2,.tmp 3]) (by kernel_rfl) (fa:={ loops:=[(5,⟨[6,7],[],[.slice none 0 0,.int .i64 0],⟨([6,7]++Lrg 17 19),[]⟩⟩),(13,⟨[11,12],[],[.slice none 0 0,.int .i64 0],⟨([11,12]++Lrg 47 14),[]⟩⟩)],cuts:=[],orders:=[(7,([0,2,3,4,5,7,8,9,10,1,6,11,12,13,14],[[],[],[],[],[2,3],[2,3,4],[1,2,3,4,5],[],[],[7,8],[7,8,9],(Lrg 1 10),(Lrg 1 11),(Lrg 0 13),(Lrg 0 14)]))],alts:=[(7,[(10,[1,6])])] })
  (cfg:=⟨62,[10],none,[72,115],[1000000000],false⟩) (args:=[.slice a b d]) (by kernel_rfl) (B0 Tryz.call72 (B0 Tryz.call115 Bodies.nil)) (Eq.mp (by kernel_rfl) hvc)
def A54(P:Program)(b:Int)(c:Int)(s:OA)(t u:Nat)(h:Heap)(K:Value->Heap->Prop):Prop:=
 FCall P Rx #[.agg #[I b,I c,.slice s t u]] h (fun v a=>∃ (d:OA) (e f:Nat) (g:Bool),v= .tuple #[.slice d e f,.bool g]/\Br (!g) (K (.tuple #[.agg #[I 0,I 0,.slice none 0 0],I 1]) a)
 (Br (b != c) (K (.tuple #[.agg #[I 0,I 0,.slice none 0 0],I 4]) a)
 (FCall P Rz #[.slice d e f] a (fun w r=>∃ (i:OA) (j k:Nat) (l:Bool),w= .tuple #[.slice i j k,.bool l]/\Br (!l) (K (.tuple #[.agg #[I 0,I 0,.slice none 0 0],I 7]) r)
 (FCall P Ry #[.slice i j k] r (fun x y=>∃ (m:Int) (n:Int) (o:OA) (p q:Nat),x= .agg #[I m,I n,.slice o p q]/\K (.tuple #[.agg #[I m,I n,.slice o p q],I 0]) y))))))
theorem A3o(a:Int)(b:Int)(d:OA)(e f:Nat)(hvc:A54 Tryz.prog a b d e f h K):FCall Tryz.prog Nu #[.agg #[I a,I b,.slice d e f]] h K:=
 B8 Tryz.func40 (c:=C1 Tryz.f40) (by kernel_rfl) (rs:=[.cell 2 24,.tmp 3]) (by kernel_rfl) (fa:=⟨[],[],[],[],[]⟩)
  (cfg:=⟨32,[1,2],none,[27,73,99],[],false⟩) (args:=[.agg #[I a,I b,.slice d e f]]) (by kernel_rfl) (B0 Tryz.call27 (B0 Tryz.call73 (B0 Tryz.call99 Bodies.nil))) (Eq.mp (by kernel_rfl) hvc)
def FLU(P:Program)(j:Int)(b3:Int)(q0:OA)(q1 q2:Nat)(h:Heap)(K:Value->Heap->Prop):Prop:=
 FCall P Rx #[.agg #[I j,I b3,.slice q0 q1 q2]] h (fun r1 a6=>∃ (b4:OA) (b5 b6:Nat) (b7:Bool),r1= .tuple #[.slice b4 b5 b6,.bool b7]/\Br (!b7) (K (.tuple #[.slice none 0 0,.agg #[I 0,I 0,.slice none 0 0],.agg #[I 0,I 0,.slice none 0 0],I 1]) a6)
 (Br (j != b3) (K (.tuple #[.slice none 0 0,.agg #[I 0,I 0,.slice none 0 0],.agg #[I 0,I 0,.slice none 0 0],I 4]) a6)
 (FCall P Xv #[.slice b4 b5 b6] a6 (fun r2 r3=>∃ (g:OA) (i b8:Nat),r2= .slice g i b8/\FCall P Qb #[I j,I j] r3 (fun r4 r5=>∃ (m:OA) (n b9:Nat),r4= .slice m n b9/\∃ (M:List Value->Heap->Prop) (c0:List Value->Heap->Nat),M [.slice none 0 0,I 0] r5/\
 ∀ (o:OA) (p x:Nat) (q:Int),∀ J,M [.slice o p x,I q] J->Br (decide (q<j)) (wpH P (Instr.buildSlice 27 1 #[(0,I q)]) (fun r6 r7=>∃ (c1:OA) (c2 c3:Nat),r6= .slice c1 c2 c3/\wpH P (Builtin.append_ #[27,27] 27 #[.slice o p x,.slice c1 c2 c3]) (fun r8 n3=>∃ (N:OA) (O Q:Nat),r8= .slice N O Q/\M [.slice N O Q,I (B4 (q+1))] n3/\c0 [.slice N O Q,I (B4 (q+1))] n3<c0 [.slice o p x,I q] J) r7) J)
 (∃ (R:List Value->Heap->Prop) (c4:List Value->Heap->Nat),R [I 0,I 0,I 0,.slice none 0 0,I 0,I 0,.slice none 0 0] J/\
 ∀ (a:Int) (y:Int) (z:Int) (A:OA) (B C:Nat) (D:Int) (E:Int) (F:OA) (G H:Nat),∀ L,R [I a,I y,I z,.slice A B C,I D,I E,.slice F G H] L->Br (decide (a<j)) (∃ (S:List Value->Heap->Prop),(∃ (T:List Value->Heap->Prop) (c5:List Value->Heap->Nat),T [I a] L/\
 ∀ (k:Int),∀ l,T [I k] l->Br (decide (k<j)) (∃ n7,g=some n7/\0<=k/\k<(i:Int)/\∃ (c6:OA) (c7 q3:Nat),l.cell? (n7.add (k.toNat*1))=some (.slice c6 c7 q3)/\∃ r,c6=some r/\0<=a/\a<(c7:Int)/\∃ (c8:Bool) (c9:OA) (d0 d1:Nat) (d2:Bool) (d3:OA) (d4 d5:Nat),l.cell? (Addr.add (r.add (a.toNat*4)) 0)=some (.bool c8)/\l.cell? (Addr.add (r.add (a.toNat*4)) 1)=some (.slice c9 d0 d1)/\l.cell? (Addr.add (r.add (a.toNat*4)) 2)=some (.bool d2)/\l.cell? (Addr.add (r.add (a.toNat*4)) 3)=some (.slice d3 d4 d5)/\FCall P Hr #[.agg #[.bool c8,.slice c9 d0 d1,.bool d2,.slice d3 d4 d5]] l (fun r9 a7=>∃ (d6:Int),r9=I d6/\Br (d6==(0:Int)) (T [I (B4 (k+1))] a7/\c5 [I (B4 (k+1))] a7<c5 [I k] l)
 (S [I k] a7)))
 (S [I k] l))/\
 ∀ (b:Int),∀ s,S [I b] s->Br (b==j) (K (.tuple #[.slice none 0 0,.agg #[I 0,I 0,.slice none 0 0],.agg #[I 0,I 0,.slice none 0 0],I 7]) s)
 (∃ n8,g=some n8/\0<=a/\a<(i:Int)/\∃ (d7:OA) (d8 d9:Nat),s.cell? (n8.add (a.toNat*1))=some (.slice d7 d8 d9)/\∃ n9,g=some n9/\0<=b/\b<(i:Int)/\∃ (e0:OA) (e1 e2:Nat),s.cell? (n9.add (b.toNat*1))=some (.slice e0 e1 e2)/\∃ o0,g=some o0/\0<=b/\b<(i:Int)/\wpH P (Instr.storeAt 43 (.pointer (some (o0.add (b.toNat*1)))) (.slice d7 d8 d9)) (fun _ s0=>∃ o1,g=some o1/\0<=a/\a<(i:Int)/\wpH P (Instr.storeAt 43 (.pointer (some (o1.add (a.toNat*1)))) (.slice e0 e1 e2)) (fun _ a8=>∃ o2,m=some o2/\0<=a/\a<(n:Int)/\∃ (e3:OA) (e4 e5:Nat),a8.cell? (o2.add (a.toNat*1))=some (.slice e3 e4 e5)/\∃ o3,m=some o3/\0<=b/\b<(n:Int)/\∃ (e6:OA) (e7 e8:Nat),a8.cell? (o3.add (b.toNat*1))=some (.slice e6 e7 e8)/\∃ o4,m=some o4/\0<=b/\b<(n:Int)/\wpH P (Instr.storeAt 43 (.pointer (some (o4.add (b.toNat*1)))) (.slice e3 e4 e5)) (fun _ s1=>∃ o5,m=some o5/\0<=a/\a<(n:Int)/\wpH P (Instr.storeAt 43 (.pointer (some (o5.add (a.toNat*1)))) (.slice e6 e7 e8)) (fun _ a9=>∃ o6,o=some o6/\0<=a/\a<(p:Int)/\∃ (e9:Int),a9.cell? (o6.add (a.toNat*1))=some (I e9)/\∃ o7,o=some o7/\0<=b/\b<(p:Int)/\∃ (f0:Int),a9.cell? (o7.add (b.toNat*1))=some (I f0)/\∃ o8,o=some o8/\0<=b/\b<(p:Int)/\wpH P (Instr.storeAt 3 (.pointer (some (o8.add (b.toNat*1)))) (I e9)) (fun _ s2=>∃ o9,o=some o9/\0<=a/\a<(p:Int)/\wpH P (Instr.storeAt 3 (.pointer (some (o9.add (a.toNat*1)))) (I f0)) (fun _ b0=>∃ p0,m=some p0/\0<=a/\a<(n:Int)/\∃ (f1:OA) (f2 q4:Nat),b0.cell? (p0.add (a.toNat*1))=some (.slice f1 f2 q4)/\FCall P B80 #[I 1] b0 (fun s3 n4=>∃ (f3:Bool) (f4:OA) (f5 f6:Nat) (f7:Bool) (f8:OA) (f9 g0:Nat),s3= .agg #[.bool f3,.slice f4 f5 f6,.bool f7,.slice f8 f9 g0]/\Heap.le b0 n4/\∃ p1,f1=some p1/\0<=a/\a<(f2:Int)/\wpH P (Instr.storeAt 54 (.pointer (some (p1.add (a.toNat*4)))) (.agg #[.bool f3,.slice f4 f5 f6,.bool f7,.slice f8 f9 g0])) (fun _ s4=>∃ (V:List Value->Heap->Prop) (g1:List Value->Heap->Nat),V [I (B4 (a+1))] s4/\
 ∀ (d:Int),∀ f,V [I d] f->Br (decide (d<j)) (∃ p2,g=some p2/\0<=d/\d<(i:Int)/\∃ (g2:OA) (g3 q5:Nat),f.cell? (p2.add (d.toNat*1))=some (.slice g2 g3 q5)/\∃ t,g2=some t/\0<=a/\a<(g3:Int)/\∃ (g4:Bool) (g5:OA) (g6 g7:Nat) (g8:Bool) (g9:OA) (h0 h1:Nat),f.cell? (Addr.add (t.add (a.toNat*4)) 0)=some (.bool g4)/\f.cell? (Addr.add (t.add (a.toNat*4)) 1)=some (.slice g5 g6 g7)/\f.cell? (Addr.add (t.add (a.toNat*4)) 2)=some (.bool g8)/\f.cell? (Addr.add (t.add (a.toNat*4)) 3)=some (.slice g9 h0 h1)/\∃ p3,g=some p3/\0<=a/\a<(i:Int)/\∃ (h2:OA) (h3 q6:Nat),f.cell? (p3.add (a.toNat*1))=some (.slice h2 h3 q6)/\∃ u,h2=some u/\0<=a/\a<(h3:Int)/\∃ (h4:Bool) (h5:OA) (h6 h7:Nat) (h8:Bool) (h9:OA) (i0 i1:Nat),f.cell? (Addr.add (u.add (a.toNat*4)) 0)=some (.bool h4)/\f.cell? (Addr.add (u.add (a.toNat*4)) 1)=some (.slice h5 h6 h7)/\f.cell? (Addr.add (u.add (a.toNat*4)) 2)=some (.bool h8)/\f.cell? (Addr.add (u.add (a.toNat*4)) 3)=some (.slice h9 i0 i1)/\FCall P Xp #[.agg #[.bool g4,.slice g5 g6 g7,.bool g8,.slice g9 h0 h1],.agg #[.bool h4,.slice h5 h6 h7,.bool h8,.slice h9 i0 i1]] f (fun s5 b1=>∃ (W:Bool) (X:OA) (Z a0:Nat) (a1:Bool) (a2:OA) (a3 a4:Nat),s5= .agg #[.bool W,.slice X Z a0,.bool a1,.slice a2 a3 a4]/\Heap.le f b1/\∃ p4,m=some p4/\0<=d/\d<(n:Int)/\∃ (i2:OA) (i3 q7:Nat),b1.cell? (p4.add (d.toNat*1))=some (.slice i2 i3 q7)/\∃ p5,i2=some p5/\0<=a/\a<(i3:Int)/\wpH P (Instr.storeAt 54 (.pointer (some (p5.add (a.toNat*4)))) (.agg #[.bool W,.slice X Z a0,.bool a1,.slice a2 a3 a4])) (fun _ s6=>∃ (a5:List Value->Heap->Prop) (i4:List Value->Heap->Nat),a5 [I a] s6/\
 ∀ (c:Int),∀ e,a5 [I c] e->Br (decide (c<j)) (∃ p6,g=some p6/\0<=d/\d<(i:Int)/\∃ (i5:OA) (i6 q8:Nat),e.cell? (p6.add (d.toNat*1))=some (.slice i5 i6 q8)/\∃ p7,g=some p7/\0<=d/\d<(i:Int)/\∃ (i7:OA) (i8 q9:Nat),e.cell? (p7.add (d.toNat*1))=some (.slice i7 i8 q9)/\∃ v,i7=some v/\0<=c/\c<(i8:Int)/\∃ (i9:Bool) (j0:OA) (j1 j2:Nat) (j3:Bool) (j4:OA) (j5 j6:Nat),e.cell? (Addr.add (v.add (c.toNat*4)) 0)=some (.bool i9)/\e.cell? (Addr.add (v.add (c.toNat*4)) 1)=some (.slice j0 j1 j2)/\e.cell? (Addr.add (v.add (c.toNat*4)) 2)=some (.bool j3)/\e.cell? (Addr.add (v.add (c.toNat*4)) 3)=some (.slice j4 j5 j6)/\∃ p8,g=some p8/\0<=a/\a<(i:Int)/\∃ (j7:OA) (j8 r0:Nat),e.cell? (p8.add (a.toNat*1))=some (.slice j7 j8 r0)/\∃ w,j7=some w/\0<=c/\c<(j8:Int)/\∃ (j9:Bool) (k0:OA) (k1 k2:Nat) (k3:Bool) (k4:OA) (k5 k6:Nat),e.cell? (Addr.add (w.add (c.toNat*4)) 0)=some (.bool j9)/\e.cell? (Addr.add (w.add (c.toNat*4)) 1)=some (.slice k0 k1 k2)/\e.cell? (Addr.add (w.add (c.toNat*4)) 2)=some (.bool k3)/\e.cell? (Addr.add (w.add (c.toNat*4)) 3)=some (.slice k4 k5 k6)/\FCall P Rv #[.agg #[.bool W,.slice X Z a0,.bool a1,.slice a2 a3 a4],.agg #[.bool j9,.slice k0 k1 k2,.bool k3,.slice k4 k5 k6]] e (fun s7 b2=>∃ (k7:Bool) (k8:OA) (k9 l0:Nat) (l1:Bool) (l2:OA) (l3 l4:Nat),s7= .agg #[.bool k7,.slice k8 k9 l0,.bool l1,.slice l2 l3 l4]/\Heap.le e b2/\FCall P Xn #[.agg #[.bool i9,.slice j0 j1 j2,.bool j3,.slice j4 j5 j6],.agg #[.bool k7,.slice k8 k9 l0,.bool l1,.slice l2 l3 l4]] b2 (fun s8 n5=>∃ (l5:Bool) (l6:OA) (l7 l8:Nat) (l9:Bool) (m0:OA) (m1 m2:Nat),s8= .agg #[.bool l5,.slice l6 l7 l8,.bool l9,.slice m0 m1 m2]/\Heap.le b2 n5/\∃ p9,i5=some p9/\0<=c/\c<(i6:Int)/\wpH P (Instr.storeAt 54 (.pointer (some (p9.add (c.toNat*4)))) (.agg #[.bool l5,.slice l6 l7 l8,.bool l9,.slice m0 m1 m2])) (fun _ n6=>a5 [I (B4 (c+1))] n6/\i4 [I (B4 (c+1))] n6<i4 [I c] e) n5)))
 (V [I (B4 (d+1))] e/\g1 [I (B4 (d+1))] e<g1 [I d] f)) b1))
 (R [I (B4 (a+1)),I y,I z,.slice A B C,I D,I E,.slice F G H] f/\c4 [I (B4 (a+1)),I y,I z,.slice A B C,I D,I E,.slice F G H] f<c4 [I a,I y,I z,.slice A B C,I D,I E,.slice F G H] L)) n4)) s2) a9) s1) a8) s0) s))
 (FCall P Ry #[.slice m n b9] L (fun s9 t0=>∃ (m3:Int) (m4:Int) (m5:OA) (m6 m7:Nat),s9= .agg #[I m3,I m4,.slice m5 m6 m7]/\FCall P Ry #[.slice g i b8] t0 (fun t1 t2=>∃ (m8:Int) (m9:Int) (n0:OA) (n1 n2:Nat),t1= .agg #[I m8,I m9,.slice n0 n1 n2]/\K (.tuple #[.slice o p x,.agg #[I m3,I m4,.slice m5 m6 m7],.agg #[I m8,I m9,.slice n0 n1 n2],I 0]) t2)))))))))
theorem B98(a:Int)(b:Int)(d:OA)(e f:Nat)(hvc:FLU Tryz.prog a b d e f h K):FCall Tryz.prog B68 #[.agg #[I a,I b,.slice d e f]] h K:=
 B8 Tryz.func42 (c:=C1 Tryz.f42) (by kernel_rfl) (rs:=[.tmp 2,.cell 3 24,.cell 4 24,.tmp 5]) (by kernel_rfl) (fa:=⟨[(10,⟨[11,12],[],[.slice none 0 0,.int .i64 0],⟨([11,12]++Lrg 41 9),[]⟩⟩),(14,⟨[13],[(3,3),(4,3)],[.int .i64 0,.int .i64 0,.int .i64 0,.slice none 0 0,.int .i64 0,.int .i64 0,.slice none 0 0],⟨([2,5,13,14,15,16,17]++Lrg 50 134),[3,4,16]⟩⟩),(17,⟨[14],[],[.int .i64 0],⟨([14]++Lrg 56 16),[]⟩⟩),(26,⟨[15],[],[.int .i64 0],⟨([15,16,17]++Lrg 128 56),[16]⟩⟩),(31,⟨[17],[],[.int .i64 0],⟨([17]++Lrg 156 28),[]⟩⟩)],[(19,⟨[14],[],[.int .i64 0],⟨([14]++Lrg 56 16),[]⟩⟩)],[(21,((Lrg 0 16),[[],[],[],[],[],[],[4,5],[4,5,6],[],[],[8,9],[8,9,10],([0,1]++Lrg 4 8),([0,1]++Lrg 4 9),(Lrg 0 14),(Lrg 0 15)])),(22,((Lrg 0 16),[[],[],[],[],[],[],[4,5],[4,5,6],[],[],[8,9],[8,9,10],([0,1]++Lrg 4 8),([0,1]++Lrg 4 9),(Lrg 0 14),(Lrg 0 15)])),(23,((Lrg 0 16),[[],[],[],[],[],[],[4,5],[4,5,6],[],[],[8,9],[8,9,10],([0,1]++Lrg 4 8),([0,1]++Lrg 4 9),(Lrg 0 14),(Lrg 0 15)])),(24,((Lrg 0 8),[[],[],[0,1],[0,1,2],[],[],[0,1,2,3,4,5],[0,1,2,3,4,5,6]])),(28,((Lrg 0 14++[15,14,16]),[[],[],[0,1],[0,1,2],[],[0,1,2,3,4],[0,1,2,3,4,5],[],[],[7,8],[7,8,9],[],[7,8,9,10,11],[7,8,9,10,11,12],(Lrg 0 14),[],(Lrg 0 16)])),(29,((Lrg 0 8),[[],[],[0,1],[0,1,2],[],[],[0,1,2,3,4,5],[0,1,2,3,4,5,6]])),(33,((Lrg 0 24),[[],[],[0,1],[0,1,2],[],[],[],[5,6],[5,6,7],[],[5,6,7,8,9],[5,6,7,8,9,10],[],[],[],[13,14],[13,14,15],[],[13,14,15,16,17],[13,14,15,16,17,18],(Lrg 12 8),(Lrg 5 16),(Lrg 0 22),(Lrg 0 23)]))],[],[]⟩)
  (cfg:=⟨189,[1,3,4,16],none,[27,32,59,73,88,89,105,106,107],[],false⟩) (args:=[.agg #[I a,I b,.slice d e f]]) (by kernel_rfl) (B0 Tryz.call27 (B0 Tryz.call32 (B0 Tryz.call59 (B0 Tryz.call73 (B0 Tryz.call88 (B0 Tryz.call89 (B0 Tryz.call105 (B0 Tryz.call106 (B0 Tryz.call107 Bodies.nil))))))))) (Eq.mp (by kernel_rfl) hvc)
def B55(P:Program)(i:Int)(j:OA)(d k:Nat)(h:Heap)(K:Value->Heap->Prop):Prop:=
 ∃ (c:List Value->Heap->Prop) (e:List Value->Heap->Nat),c [I 0] h/\
 ∀ (a:Int),∀ b,c [I a] b->Br (decide (a<(d:Int))) (∃ g,j=some g/\0<=a/\a<(d:Int)/\∃ (f:ByteArray),b.cell? (g.add (a.toNat*1))=some (.string f)/\Br (decide (((ByteArray.size f:Nat):Int)>i)) (K (.bool false) b)
 (c [I (B4 (a+1))] b/\e [I (B4 (a+1))] b<e [I a] b))
 (K (.bool true) b)
theorem B0q(a:Int)(b:OA)(d e:Nat)(hvc:B55 Tryz.prog a b d e h K):FCall Tryz.prog Xt #[I a,.slice b d e] h K:=
 B8 Tryz.func22 (c:=C1 Tryz.f22) (by kernel_rfl) (rs:=[.tmp 4]) (by kernel_rfl) (fa:=⟨[(2,⟨[5],[],[.int .i64 0],⟨(Lrg 4 15),[]⟩⟩)],[],[],[],[]⟩)
  (cfg:=⟨19,[],none,[],[],false⟩) (args:=[I a,.slice b d e]) (by kernel_rfl) Bodies.nil (Eq.mp (by kernel_rfl) hvc)
def Pf(P:Program)(d:Int)(e:Int)(f:OA)(b g:Nat)(a:Int)(i:Int)(h:Heap)(K:Value->Heap->Prop):Prop:=
 Br (decide (d<=a)) (Br (decide (e<=a)) (Br (decide ((b:Int)<=(B4 ((B4 (a*a))+2)))) (FCall P Xt #[I i,.slice f b g] h (fun j k=>∃ (c:Bool),j= .bool c/\K (.bool c) k))
 (K (.bool false) h))
 (K (.bool false) h))
 (K (.bool false) h)
theorem Tk(a:Int)(b:Int)(d:OA)(e f:Nat)(g:Int)(i:Int)(hvc:Pf Tryz.prog a b d e f g i h K):FCall Tryz.prog Cw #[.agg #[I a,I b,.slice d e f],I g,I i] h K:=
 B8 Tryz.func48 (c:=C1 Tryz.f48) (by kernel_rfl) (rs:=[.tmp 6]) (by kernel_rfl) (fa:=⟨[],[],[],[],[]⟩)
  (cfg:=⟨33,[3],none,[22],[],false⟩) (args:=[.agg #[I a,I b,.slice d e f],I g,I i]) (by kernel_rfl) (B0 Tryz.call22 Bodies.nil) (Eq.mp (by kernel_rfl) hvc)
def A52(P:Program)(l:OA)(c n:Nat)(m:OA)(e o:Nat)(h:Heap)(K:Value->Heap->Prop):Prop:=
 Br ((c:Int) != (e:Int)) (K (.bool false) h)
 (∃ (d:List Value->Heap->Prop) (f:List Value->Heap->Nat),d [I 0] h/\
 ∀ (a:Int),∀ b,d [I a] b->Br (decide (a<(c:Int))) (∃ j,l=some j/\0<=a/\a<(c:Int)/\∃ (g:ByteArray),b.cell? (j.add (a.toNat*1))=some (.string g)/\∃ k,m=some k/\0<=a/\a<(e:Int)/\∃ (i:ByteArray),b.cell? (k.add (a.toNat*1))=some (.string i)/\Br (!(ByteArray.toList g==ByteArray.toList i)) (K (.bool false) b)
 (d [I (B4 (a+1))] b/\f [I (B4 (a+1))] b<f [I a] b))
 (K (.bool true) b))
theorem A3m(a:OA)(b d:Nat)(e:OA)(f g:Nat)(hvc:A52 Tryz.prog a b d e f g h K):FCall Tryz.prog Hu #[.slice a b d,.slice e f g] h K:=
 B8 Tryz.func25 (c:=C1 Tryz.f25) (by kernel_rfl) (rs:=[.tmp 4]) (by kernel_rfl) (fa:=⟨[(4,⟨[5],[],[.int .i64 0],⟨([4,5]++Lrg 11 15),[]⟩⟩)],[],[(6,((Lrg 0 9),[[],[],[0,1],[0,1,2],[],[],[4,5],[4,5,6],(Lrg 0 8)]))],[],[]⟩)
  (cfg:=⟨26,[],none,[],[],false⟩) (args:=[.slice a b d,.slice e f g]) (by kernel_rfl) Bodies.nil (Eq.mp (by kernel_rfl) hvc)
def B94(P:Program)(l:OA)(c n:Nat)(m:OA)(e o:Nat)(h:Heap)(K:Value->Heap->Prop):Prop:=
 Br ((c:Int) != (e:Int)) (K (.bool false) h)
 (∃ (d:List Value->Heap->Prop) (f:List Value->Heap->Nat),d [I 0] h/\
 ∀ (a:Int),∀ b,d [I a] b->Br (decide (a<(c:Int))) (∃ j,l=some j/\0<=a/\a<(c:Int)/\∃ (g:Int),b.cell? (j.add (a.toNat*1))=some (I g)/\∃ k,m=some k/\0<=a/\a<(e:Int)/\∃ (i:Int),b.cell? (k.add (a.toNat*1))=some (I i)/\Br (g != i) (K (.bool false) b)
 (d [I (B4 (a+1))] b/\f [I (B4 (a+1))] b<f [I a] b))
 (K (.bool true) b))
theorem B3j(a:OA)(b d:Nat)(e:OA)(f g:Nat)(hvc:B94 Tryz.prog a b d e f g h K):FCall Tryz.prog Xu #[.slice a b d,.slice e f g] h K:=
 B8 Tryz.func21 (c:=C1 Tryz.f21) (by kernel_rfl) (rs:=[.tmp 4]) (by kernel_rfl) (fa:=⟨[(4,⟨[5],[],[.int .i64 0],⟨([4,5]++Lrg 11 15),[]⟩⟩)],[],[(6,((Lrg 0 9),[[],[],[0,1],[0,1,2],[],[],[4,5],[4,5,6],(Lrg 0 8)]))],[],[]⟩)
  (cfg:=⟨26,[],none,[],[],false⟩) (args:=[.slice a b d,.slice e f g]) (by kernel_rfl) Bodies.nil (Eq.mp (by kernel_rfl) hvc)
def A1p(P:Program)(b:Int)(c:Int)(d:OA)(e f:Nat)(g:Int)(i:Int)(j:OA)(k l:Nat)(h:Heap)(K:Value->Heap->Prop):Prop:=
 Br (b==g) (Br (c==i) (FCall P Hu #[.slice d e f,.slice j k l] h (fun m n=>∃ (a:Bool),m= .bool a/\K (.bool a) n))
 (K (.bool false) h))
 (K (.bool false) h)
theorem A1o(a:Int)(b:Int)(d:OA)(e f:Nat)(g:Int)(i:Int)(j:OA)(k l:Nat)(hvc:A1p Tryz.prog a b d e f g i j k l h K):FCall Tryz.prog Bz #[.agg #[I a,I b,.slice d e f],.agg #[I g,I i,.slice j k l]] h K:=
 B8 Tryz.func20 (c:=C1 Tryz.f20) (by kernel_rfl) (rs:=[.tmp 4]) (by kernel_rfl) (fa:=⟨[],[],[],[],[]⟩)
  (cfg:=⟨24,[2,3],none,[25],[],false⟩) (args:=[.agg #[I a,I b,.slice d e f],.agg #[I g,I i,.slice j k l]]) (by kernel_rfl) (B0 Tryz.call25 Bodies.nil) (Eq.mp (by kernel_rfl) hvc)
def B54(P:Program) (h:Heap)(K:Value->Heap->Prop):Prop:=
 wpH P (Instr.buildSlice 22 4 #[(0,.string ({ data:=#[50] }:ByteArray)),(1,.string ({ data:=#[52] }:ByteArray)),(2,.string ({ data:=#[49] }:ByteArray)),(3,.string ({ data:=#[50] }:ByteArray))]) (fun D E=>∃ (b:OA) (c d:Nat),D= .slice b c d/\FCall P Rw #[.agg #[I 2,I 2,.slice b c d]] E (fun F G=>∃ (B:Int) (C:Int) (e:OA) (f g:Nat) (i:OA) (j k:Nat) (l:Int),F= .tuple #[.agg #[I B,I C,.slice e f g],.slice i j k,I l]/\wpH P (Instr.buildSlice 22 4 #[(0,.string ({ data:=#[49] }:ByteArray)),(1,.string ({ data:=#[50] }:ByteArray)),(2,.string ({ data:=#[51] }:ByteArray)),(3,.string ({ data:=#[52] }:ByteArray))]) (fun H J=>∃ (m:OA) (n o:Nat),H= .slice m n o/\FCall P A0q #[.agg #[I 2,I 2,.slice m n o]] J (fun L z=>∃ (p:ByteArray) (q:Int),L= .tuple #[.string p,I q]/\Br (l==(0:Int)) (wpH P (Instr.buildSlice 22 4 #[(0,.string ({ data:=#[49] }:ByteArray)),(1,.string ({ data:=#[50] }:ByteArray)),(2,.string ({ data:=#[48] }:ByteArray)),(3,.string ({ data:=#[48] }:ByteArray))]) (fun M N=>∃ (r:OA) (s t:Nat),M= .slice r s t/\FCall P Hu #[.slice e f g,.slice r s t] N (fun O A=>∃ (u:Bool),O= .bool u/\Br u (wpH P (Instr.buildSlice 27 1 #[(0,I 0)]) (fun Q R=>∃ (v:OA) (w x:Nat),Q= .slice v w x/\FCall P Xu #[.slice i j k,.slice v w x] R (fun S a=>∃ (y:Bool),S= .bool y/\Br y (Br (ByteArray.toList p==ByteArray.toList ({ data:=#[45,50] }:ByteArray)) (K (.bool (q==(0:Int))) a)
 (K (.bool false) a))
 (K (.bool false) a))) A)
 (K (.bool false) A))) z)
 (K (.bool false) z))) G)) h
theorem B0p (hvc:B54 Tryz.prog  h K):FCall Tryz.prog Ll #[] h K:=
 B8 Tryz.func14 (c:=C1 Tryz.f14) (by kernel_rfl) (rs:=[.tmp 0]) (by kernel_rfl) (fa:=⟨[],[],[],[],[]⟩)
  (cfg:=⟨42,[1,2],none,[15,21,25,37],[],false⟩) (args:=[]) (by kernel_rfl) (B0 Tryz.call15 (B0 Tryz.call21 (B0 Tryz.call25 (B0 Tryz.call37 Bodies.nil)))) (Eq.mp (by kernel_rfl) hvc)
def B53(P:Program)(b:Int)(c:Int)(d:OA)(e f:Nat)(h:Heap)(K:Value->Heap->Prop):Prop:=
 FCall P Cw #[.agg #[I b,I c,.slice d e f],I 6,I 12] h (fun g i=>∃ (a:Bool),g= .bool a/\K (.bool a) i)
theorem B0o(a:Int)(b:Int)(d:OA)(e f:Nat)(hvc:B53 Tryz.prog a b d e f h K):FCall Tryz.prog Xs #[.agg #[I a,I b,.slice d e f]] h K:=
 B8 Tryz.func13 (c:=C1 Tryz.f13) (by kernel_rfl) (rs:=[.tmp 2]) (by kernel_rfl) (fa:=⟨[],[],[],[],[]⟩)
  (cfg:=⟨5,[1],none,[48],[],false⟩) (args:=[.agg #[I a,I b,.slice d e f]]) (by kernel_rfl) (B0 Tryz.call48 Bodies.nil) (Eq.mp (by kernel_rfl) hvc)
def Io(P:Program)(a:Int)(b:Int)(c:OA)(d e:Nat)(h:Heap)(K:Value->Heap->Prop):Prop:=
 FCall P Xs #[.agg #[I a,I b,.slice c d e]] h (fun b6 b3=>∃ (j:Bool),b6= .bool j/\Br (!j) (FCall P Ll #[] b3 (fun b7 b8=>∃ (k:Bool),b7= .bool k/\K (.bool k) b8))
 (FCall P A0q #[.agg #[I a,I b,.slice c d e]] b3 (fun b9 c0=>∃ (l:ByteArray) (m:Int),b9= .tuple #[.string l,I m]/\FCall P A4i #[.agg #[I a,I b,.slice c d e]] c0 (fun c1 c2=>∃ (n:ByteArray) (o:Int),c1= .tuple #[.string n,I o]/\FCall P Nt #[.agg #[I a,I b,.slice c d e]] c2 (fun c3 c4=>∃ (p:Int) (q:Int) (r:OA) (s t:Nat) (u:Int),c3= .tuple #[.agg #[I p,I q,.slice r s t],I u]/\FCall P Nu #[.agg #[I a,I b,.slice c d e]] c4 (fun c5 c6=>∃ (v:Int) (w:Int) (x:OA) (y z:Nat) (A:Int),c5= .tuple #[.agg #[I v,I w,.slice x y z],I A]/\FCall P B64 #[.agg #[I a,I b,.slice c d e]] c6 (fun c7 c8=>∃ (B:OA) (C D:Nat) (E:Int) (F:Int) (G:OA) (H J:Nat) (L:Int) (M:Int) (N:OA) (O Q:Nat) (R:Int),c7= .tuple #[.slice B C D,.agg #[I E,I F,.slice G H J],.agg #[I L,I M,.slice N O Q],I R]/\FCall P B68 #[.agg #[I a,I b,.slice c d e]] c8 (fun c9 f=>∃ (S:OA) (T V:Nat) (W:Int) (X:Int) (Z:OA) (a0 a1:Nat) (a2:Int) (a3:Int) (a4:OA) (a5 a6:Nat) (a7:Int),c9= .tuple #[.slice S T V,.agg #[I W,I X,.slice Z a0 a1],.agg #[I a2,I a3,.slice a4 a5 a6],I a7]/\Br (ByteArray.toList l==ByteArray.toList n) (Br (m==o) (FCall P Bz #[.agg #[I p,I q,.slice r s t],.agg #[I v,I w,.slice x y z]] f (fun d0 g=>∃ (a8:Bool),d0= .bool a8/\Br a8 (Br (u==A) (FCall P Xu #[.slice B C D,.slice S T V] g (fun d1 b4=>∃ (a9:Bool),d1= .bool a9/\Br a9 (FCall P Bz #[.agg #[I E,I F,.slice G H J],.agg #[I W,I X,.slice Z a0 a1]] b4 (fun d2 b5=>∃ (b0:Bool),d2= .bool b0/\Br b0 (FCall P Bz #[.agg #[I L,I M,.slice N O Q],.agg #[I a2,I a3,.slice a4 a5 a6]] b5 (fun d3 i=>∃ (b1:Bool),d3= .bool b1/\Br b1 (Br (R==a7) (FCall P Ll #[] i (fun d4 d5=>∃ (b2:Bool),d4= .bool b2/\K (.bool b2) d5))
 (K (.bool false) i))
 (K (.bool false) i)))
 (K (.bool false) b5)))
 (K (.bool false) b4)))
 (K (.bool false) g))
 (K (.bool false) g)))
 (K (.bool false) f))
 (K (.bool false) f)))))))))
theorem Oi(a:Int)(b:Int)(d:OA)(e f:Nat)(hvc:Io Tryz.prog a b d e f h K):FCall Tryz.prog Fe #[.agg #[I a,I b,.slice d e f]] h K:=
 B8 Tryz.func6 (c:=C1 Tryz.f6) (by kernel_rfl) (rs:=[.tmp 2]) (by kernel_rfl) (fa:=⟨[],[],[],[],[]⟩)
  (cfg:=⟨98,[1,7,9,12,13,16,17],none,[13,14,20,21,37,38,39,40,41,42],[],false⟩) (args:=[.agg #[I a,I b,.slice d e f]]) (by kernel_rfl) (B0 Tryz.call13 (B0 Tryz.call14 (B0 Tryz.call20 (B0 Tryz.call21 (B0 Tryz.call37 (B0 Tryz.call38 (B0 Tryz.call39 (B0 Tryz.call40 (B0 Tryz.call41 (B0 Tryz.call42 Bodies.nil)))))))))) (Eq.mp (by kernel_rfl) hvc)
end Go.Proofs.YthilnfgnpdeofaaGreatDoor
