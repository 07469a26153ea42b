/-
  Texts of this proof, merged by a program of ours.
-/
import Derived.Test.YthilnfgnpdeofaaGreatDoorProg
import Derived.Test.YthilnfgnpdeofaaGreatDoorG05
import Derived.Test.YthilnfgnpdeofaaGreatDoorG12
import Derived.Test.YthilnfgnpdeofaaGreatDoorG06
import Derived.Test.YthilnfgnpdeofaaGreatDoorG09
import Derived.Test.YthilnfgnpdeofaaGreatDoorG26
import Derived.Test.YthilnfgnpdeofaaGreatDoorG08
namespace Go.Proofs.YthilnfgnpdeofaaGreatDoor
open Go
set_option maxRecDepth 100000
set_option linter.unusedVariables false
variable {h:Heap} {K:Value->Heap->Prop}
abbrev Jp:Nat:=79
abbrev Jo:Nat:=81
abbrev H8:Nat:=132
abbrev Sq:Nat:=96
abbrev Dt:Nat:=133
abbrev Fe:Nat:=43
abbrev Cg:Nat:=108
abbrev Jr:Nat:=67
abbrev Lr:Nat:=71
abbrev B4w:Nat:=49
abbrev A9q:Nat:=51
abbrev B5n:Nat:=54
abbrev E5:Nat:=45
abbrev B4x:Nat:=57
abbrev B4v:Nat:=60
abbrev B0w:Nat:=116
abbrev B33:Nat:=46
abbrev Fp:Nat:=33
abbrev B35:Nat:=35
abbrev Dv:Nat:=94
abbrev Fd:Nat:=91
abbrev Nq:Nat:=15
abbrev B46:Nat:=17
abbrev A3u:Nat:=37
abbrev B0v:Nat:=39
abbrev B32:Nat:=23
abbrev B1x:Nat:=18
abbrev B5m:Nat:=41
abbrev B1v:Nat:=80
abbrev Cf:Nat:=111
abbrev W5:Nat:=82
abbrev Ss:Nat:=92
abbrev Y6:Nat:=68
abbrev Km:Nat:=76
abbrev Yg:Nat:=102
abbrev Yh:Nat:=101
abbrev Sv:Nat:=104
abbrev Dz:Nat:=69
abbrev B3e:Nat:=270
abbrev Ls:Nat:=131
abbrev Dw:Nat:=174
abbrev A9r:Nat:=74
abbrev B34:Nat:=141
abbrev B1y:Nat:=113
abbrev B1w:Nat:=114
abbrev B47:Nat:=164
abbrev B38:Nat:=53
abbrev B4a:Nat:=27
abbrev B4b:Nat:=73
abbrev B3c:Nat:=89
abbrev B48:Nat:=115
abbrev B4d:Nat:=105
abbrev B49:Nat:=31
abbrev B39:Nat:=93
abbrev B52:Nat:=29
abbrev B54:Nat:=30
abbrev B0y:Nat:=72
abbrev B50:Nat:=50
abbrev A9t:Nat:=52
abbrev B5p:Nat:=55
abbrev A84:Nat:=56
abbrev B0z:Nat:=58
abbrev B3b:Nat:=61
abbrev B51:Nat:=34
abbrev B3d:Nat:=36
abbrev B1z:Nat:=16
abbrev B53:Nat:=38
abbrev B21:Nat:=99
abbrev B0x:Nat:=40
abbrev B4c:Nat:=78
abbrev B20:Nat:=19
abbrev A9s:Nat:=83
abbrev B3a:Nat:=24
abbrev B5o:Nat:=42
abbrev St:Nat:=22
abbrev O9:Nat:=48
abbrev Ff:Nat:=25
abbrev Yf:Nat:=21
abbrev P5:Nat:=20
abbrev A83:Nat:=44
abbrev B4y:Nat:=110
abbrev B37:Nat:=47
abbrev B4z:Nat:=64
abbrev J9:Nat:=14
abbrev B36:Nat:=13
abbrev A82:Nat:=9
abbrev A3w:Nat:=10
abbrev A14:Nat:=5
abbrev A3v:Nat:=3
abbrev A1w:Nat:=6
abbrev A5r:Nat:=4
abbrev If:Nat:=8
abbrev Wx:Nat:=12
abbrev A1x:Nat:=11
abbrev A81:Nat:=7
abbrev Fw:Nat:=185
abbrev Md:Nat:=99
abbrev Jb:Nat:=90
abbrev B3j:Nat:=24
abbrev B3h:Nat:=126
abbrev Zi:Nat:=27
abbrev I9:Nat:=3
theorem B19:SliceT Tryz.prog Zi I9 (I 0) 1 8:=⟨by kernel_rfl,by kernel_rfl,rfl,by decide⟩
abbrev Ab:Nat:=87
abbrev L0:Nat:=101
theorem B0r:SliceT Tryz.prog Ab L0 (.agg #[.bool false,.slice none 0 0,.bool false,.slice none 0 0]) 4 64:=⟨by kernel_rfl,by kernel_rfl,rfl,by decide⟩
theorem Rr:Tryz.prog.cellsOf L0=4/\(Tryz.prog.info? L0).isSome=true:=⟨by kernel_rfl,by kernel_rfl⟩
abbrev Kc:Nat:=97
abbrev Bn:Nat:=94
theorem tZs:SliceT Tryz.prog Kc Bn (.agg #[.bool false,.slice none 0 0]) 2 32:=⟨by kernel_rfl,by kernel_rfl,rfl,by decide⟩
theorem Rq:Tryz.prog.cellsOf Bn=2/\(Tryz.prog.info? Bn).isSome=true:=⟨by kernel_rfl,by kernel_rfl⟩
abbrev B3i:Nat:=46
abbrev B15:Nat:=43
abbrev He:Nat:=123
abbrev Qf:Nat:=126
theorem B3n:SliceT Tryz.prog He Qf (.agg #[.slice none 0 0,.bool false,.slice none 0 0]) 3 56:=⟨by kernel_rfl,by kernel_rfl,rfl,by decide⟩
abbrev B14:Nat:=71
abbrev A93:Nat:=22
def A0c(P:Program)(x:OA)(c B:Nat)(h:Heap)(K:Value->Heap->Prop):Prop:=
 wpH P (Instr.makeSlice 87 (I (c:Int)) (I (c:Int))) (fun y z=>∃ (d:OA) (e g:Nat),y= .slice d e g/\∃ (f:List Value->Heap->Prop) (i:List Value->Heap->Nat),f [I 0] z/\
 ∀ (a:Int),∀ b,f [I a] b->Br (decide (a<(c:Int))) (∃ v,x=some v/\0<=a/\a<(c:Int)/\∃ (j:ByteArray),b.cell? (v.add (a.toNat*1))=some (.string j)/\FCall P Ye #[.string j] b (fun A t=>∃ (k:Bool) (l:OA) (m n:Nat) (o:Bool) (p:OA) (q r:Nat) (s:Bool),A= .tuple #[.agg #[.bool k,.slice l m n,.bool o,.slice p q r],.bool s]/\Br (!s) (K (.tuple #[.slice none 0 0,.bool false]) t)
 (∃ w,d=some w/\0<=a/\a<(e:Int)/\wpH P (Instr.storeAt 101 (.pointer (some (w.add (a.toNat*4)))) (.agg #[.bool k,.slice l m n,.bool o,.slice p q r])) (fun _ u=>f [I (B4 (a+1))] u/\i [I (B4 (a+1))] u<i [I a] b) t)))
 (K (.tuple #[.slice d e g,.bool true]) b)) h
theorem Yw(a:OA)(b d:Nat)(hvc:A0c Tryz.prog a b d h K):FCall Tryz.prog Jp #[.slice a b d] h K:=
 B7 Tryz.func79 (c:=C2 Tryz.f79) (by kernel_rfl) (rs:=[.tmp 2,.tmp 3]) (by kernel_rfl) (fa:=⟨[(3,⟨[14],[],[.int .i64 0],⟨([2,3,5,6,7,8]++Lrg 14 17),[7]⟩⟩)],[],[],[],[]⟩)
  (cfg:=⟨32,[7],none,[112],[],false⟩) (args:=[.slice a b d]) (by kernel_rfl) (B0 Tryz.call112 Bodies.nil) (Eq.mp (by kernel_rfl) hvc)
def A0b(P:Program)(v:OA)(d A:Nat)(h:Heap)(K:Value->Heap->Prop):Prop:=
 wpH P (Instr.makeSlice 22 (I (d:Int)) (I (d:Int))) (fun w x=>∃ (e:OA) (f i:Nat),w= .slice e f i/\∃ (g:List Value->Heap->Prop) (j:List Value->Heap->Nat),g [I 0] x/\
 ∀ (a:Int),∀ b,g [I a] b->Br (decide (a<(d:Int))) (∃ c,v=some c/\0<=a/\a<(d:Int)/\∃ (k:Bool) (l:OA) (m n:Nat) (o:Bool) (p:OA) (q r:Nat),b.cell? (Addr.add (c.add (a.toNat*4)) 0)=some (.bool k)/\b.cell? (Addr.add (c.add (a.toNat*4)) 1)=some (.slice l m n)/\b.cell? (Addr.add (c.add (a.toNat*4)) 2)=some (.bool o)/\b.cell? (Addr.add (c.add (a.toNat*4)) 3)=some (.slice p q r)/\FCall P Ie #[.agg #[.bool k,.slice l m n,.bool o,.slice p q r]] b (fun y z=>∃ (s:ByteArray),y= .string s/\∃ u,e=some u/\0<=a/\a<(f:Int)/\wpH P (Instr.storeAt 9 (.pointer (some (u.add (a.toNat*1)))) (.string s)) (fun _ t=>g [I (B4 (a+1))] t/\j [I (B4 (a+1))] t<j [I a] b) z))
 (K (.slice e f i) b)) h
theorem Yv(a:OA)(b d:Nat)(hvc:A0b Tryz.prog a b d h K):FCall Tryz.prog Jo #[.slice a b d] h K:=
 B7 Tryz.func81 (c:=C2 Tryz.f81) (by kernel_rfl) (rs:=[.tmp 2]) (by kernel_rfl) (fa:=⟨[(3,⟨[11],[],[.int .i64 0],⟨([4,5]++Lrg 11 11),[5]⟩⟩)],[],[],[],[]⟩)
  (cfg:=⟨23,[5],none,[95],[],false⟩) (args:=[.slice a b d]) (by kernel_rfl) (B0 Tryz.call95 Bodies.nil) (Eq.mp (by kernel_rfl) hvc)
def Aa(P:Program)(C:OA)(u O:Nat)(h:Heap)(K:Value->Heap->Prop):Prop:=
 FCall P Qp #[I 1] h (fun H J=>∃ (v:Bool) (w:OA) (x y:Nat),H= .agg #[.bool v,.slice w x y]/\∃ (i:List Value->Heap->Prop) (g:List Value->Heap->Nat),i [I 0,.bool v,.slice w x y] J/\
 ∀ (a:Int) (b:Bool) (c:OA) (d e:Nat),∀ f,i [I a,.bool b,.slice c d e] f->Br (decide (a<(u:Int))) (∃ j,C=some j/\0<=a/\a<(u:Int)/\∃ (D:Bool) (E:OA) (F G:Nat) (k:Bool) (l:OA) (m n:Nat),f.cell? (Addr.add (j.add (a.toNat*4)) 0)=some (.bool D)/\f.cell? (Addr.add (j.add (a.toNat*4)) 1)=some (.slice E F G)/\f.cell? (Addr.add (j.add (a.toNat*4)) 2)=some (.bool k)/\f.cell? (Addr.add (j.add (a.toNat*4)) 3)=some (.slice l m n)/\FCall P F8 #[.agg #[.bool k,.slice l m n]] f (fun L s=>∃ (z:Bool),L= .bool z/\Br (!z) (FCall P So #[.agg #[.bool k,.slice l m n],.agg #[.bool b,.slice c d e]] s (fun M t=>∃ (A:Bool),M= .bool A/\Br (!A) (FCall P A3p #[.agg #[.bool b,.slice c d e],.agg #[.bool k,.slice l m n]] t (fun N B=>∃ (o:Bool) (p:OA) (q r:Nat),N= .agg #[.bool o,.slice p q r]/\i [I (B4 (a+1)),.bool o,.slice p q r] B/\g [I (B4 (a+1)),.bool o,.slice p q r] B<g [I a,.bool b,.slice c d e] f))
 (i [I (B4 (a+1)),.bool b,.slice c d e] t/\g [I (B4 (a+1)),.bool b,.slice c d e] t<g [I a,.bool b,.slice c d e] f)))
 (i [I (B4 (a+1)),.bool b,.slice c d e] s/\g [I (B4 (a+1)),.bool b,.slice c d e] s<g [I a,.bool b,.slice c d e] f)))
 (K (.agg #[.bool b,.slice c d e]) f))
theorem Eo(a:OA)(b d:Nat)(hvc:Aa Tryz.prog a b d h K):FCall Tryz.prog H8 #[.slice a b d] h K:=
 B7 Tryz.func132 (c:=C2 Tryz.f132) (by kernel_rfl) (rs:=[.cell 2 94]) (by kernel_rfl) (fa:=⟨[(3,⟨[9],[(3,2)],[.int .i64 0,.bool false,.slice none 0 0],⟨([5]++Lrg 9 20),[3,5]⟩⟩)],[],[],[],[]⟩)
  (cfg:=⟨30,[2,3,5],none,[100,135,175,176],[],false⟩) (args:=[.slice a b d]) (by kernel_rfl) (B0 Tryz.call100 (B0 Tryz.call135 (B0 Tryz.call175 (B0 Tryz.call176 Bodies.nil)))) (Eq.mp (by kernel_rfl) hvc)
def A8j(P:Program)(a:Bool)(b:OA)(c d:Nat)(h:Heap)(K:Value->Heap->Prop):Prop:=
 K (.agg #[.bool a,.slice b c d,.bool false,.slice none 0 0]) h
theorem A4x(a:Bool)(b:OA)(d e:Nat)(hvc:A8j Tryz.prog a b d e h K):FCall Tryz.prog Sq #[.agg #[.bool a,.slice b d e]] h K:=
 B7 Tryz.func96 (c:=C2 Tryz.f96) (by kernel_rfl) (rs:=[.cell 2 101]) (by kernel_rfl) (fa:=⟨[],[],[],[],[]⟩)
  (cfg:=⟨5,[1,2],none,[],[],false⟩) (args:=[.agg #[.bool a,.slice b d e]]) (by kernel_rfl) Bodies.nil (Eq.mp (by kernel_rfl) hvc)
def A56(P:Program)(c:Bool)(d:OA)(e f:Nat)(g:Bool)(i:OA)(j k:Nat)(l:Bool)(m:OA)(n o:Nat)(h:Heap)(K:Value->Heap->Prop):Prop:=
 FCall P F8 #[.agg #[.bool g,.slice i j k]] h (fun D a=>∃ (p:Bool),D= .bool p/\Br p (FCall P Ki #[.agg #[.bool c,.slice d e f],.agg #[.bool l,.slice m n o]] a (fun E F=>∃ (q:Bool) (r:OA) (s t:Nat),E= .agg #[.bool q,.slice r s t]/\K (.agg #[.bool q,.slice r s t]) F))
 (FCall P Ia #[.agg #[.bool l,.slice m n o],.agg #[.bool g,.slice i j k]] a (fun G b=>∃ (u:Bool) (v:OA) (w x:Nat),G= .agg #[.bool u,.slice v w x]/\Heap.le a b/\FCall P Ki #[.agg #[.bool c,.slice d e f],.agg #[.bool u,.slice v w x]] b (fun H C=>∃ (y:Bool) (z:OA) (A B:Nat),H= .agg #[.bool y,.slice z A B]/\Heap.le b C/\K (.agg #[.bool y,.slice z A B]) C))))
theorem A1o(a:Bool)(b:OA)(d e:Nat)(f:Bool)(g:OA)(i j:Nat)(k:Bool)(l:OA)(m n:Nat)(hvc:A56 Tryz.prog a b d e f g i j k l m n h K):FCall Tryz.prog Dt #[.agg #[.bool a,.slice b d e,.bool f,.slice g i j],.agg #[.bool k,.slice l m n]] h K:=
 B7 Tryz.func133 (c:=C2 Tryz.f133) (by kernel_rfl) (rs:=[.cell 4 94]) (by kernel_rfl) (fa:=⟨[],[],[(3,((Lrg 0 8),[[],[0],[],[],[3],[2,3,4],[0,1,2,3,4,5],[0,1,2,3,4,5,6]]))],[],[]⟩)
  (cfg:=⟨19,[2,3,4],none,[135,136,152],[],false⟩) (args:=[.agg #[.bool a,.slice b d e,.bool f,.slice g i j],.agg #[.bool k,.slice l m n]]) (by kernel_rfl) (B0 Tryz.call135 (B0 Tryz.call136 (B0 Tryz.call152 Bodies.nil))) (Eq.mp (by kernel_rfl) hvc)
def A8q(P:Program)(n:Int)(o:Int)(f:OA)(c p:Nat)(h:Heap)(K:Value->Heap->Prop):Prop:=
 FCall P Cg #[.agg #[I n,I o,.slice f c p]] h (fun q l=>∃ (g:Bool),q= .bool g/\Br (!g) (K (.bool false) l)
 (∃ (d:List Value->Heap->Prop) (i:List Value->Heap->Nat),d [I 0] l/\
 ∀ (a:Int),∀ b,d [I a] b->Br (decide (a<(c:Int))) (∃ m,f=some m/\0<=a/\a<(c:Int)/\∃ (j:ByteArray),b.cell? (m.add (a.toNat*1))=some (.string j)/\FCall P Sr #[.string j] b (fun r e=>∃ (k:Bool),r= .bool k/\Br (!k) (K (.bool false) e)
 (d [I (B4 (a+1))] e/\i [I (B4 (a+1))] e<i [I a] b)))
 (K (.bool true) b)))
theorem A5a(a:Int)(b:Int)(d:OA)(e f:Nat)(hvc:A8q Tryz.prog a b d e f h K):FCall Tryz.prog Fe #[.agg #[I a,I b,.slice d e f]] h K:=
 B7 Tryz.func43 (c:=C2 Tryz.f43) (by kernel_rfl) (rs:=[.tmp 2]) (by kernel_rfl) (fa:=⟨[(4,⟨[11],[],[.int .i64 0],⟨([2,4]++Lrg 11 8),[]⟩⟩)],[],[],[],[]⟩)
  (cfg:=⟨19,[1],none,[108,109],[],false⟩) (args:=[.agg #[I a,I b,.slice d e f]]) (by kernel_rfl) (B0 Tryz.call108 (B0 Tryz.call109 Bodies.nil)) (Eq.mp (by kernel_rfl) hvc)
def Wn(P:Program)(a:Int)(b:Int)(d:OA)(c e:Nat)(h:Heap)(K:Value->Heap->Prop):Prop:=
 Br (decide ((1:Int)<=a)) (Br (decide (a<=(64:Int))) (Br (decide ((1:Int)<=b)) (Br (decide (b<=(64:Int))) (K (.bool ((c:Int)==(B4 (a*b)))) h)
 (K (.bool false) h))
 (K (.bool false) h))
 (K (.bool false) h))
 (K (.bool false) h)
theorem Wm(a:Int)(b:Int)(d:OA)(e f:Nat)(hvc:Wn Tryz.prog a b d e f h K):FCall Tryz.prog Cg #[.agg #[I a,I b,.slice d e f]] h K:=
 B7 Tryz.func108 (c:=C2 Tryz.f108) (by kernel_rfl) (rs:=[.tmp 2]) (by kernel_rfl) (fa:=⟨[],[],[],[],[]⟩)
  (cfg:=⟨32,[1],none,[],[],false⟩) (args:=[.agg #[I a,I b,.slice d e f]]) (by kernel_rfl) Bodies.nil (Eq.mp (by kernel_rfl) hvc)
def B2n(P:Program)(k:Int)(l:Int)(a:OA)(b c:Nat)(h:Heap)(K:Value->Heap->Prop):Prop:=
 FCall P Cg #[.agg #[I k,I l,.slice a b c]] h (fun m j=>∃ (d:Bool),m= .bool d/\Br (!d) (K (.tuple #[.slice none 0 0,.bool false]) j)
 (FCall P Jp #[.slice a b c] j (fun n o=>∃ (e:OA) (f g:Nat) (i:Bool),n= .tuple #[.slice e f g,.bool i]/\K (.tuple #[.slice e f g,.bool i]) o)))
theorem A7d(a:Int)(b:Int)(d:OA)(e f:Nat)(hvc:B2n Tryz.prog a b d e f h K):FCall Tryz.prog Jr #[.agg #[I a,I b,.slice d e f]] h K:=
 B7 Tryz.func67 (c:=C2 Tryz.f67) (by kernel_rfl) (rs:=[.tmp 2,.tmp 3]) (by kernel_rfl) (fa:=⟨[],[],[],[],[]⟩)
  (cfg:=⟨12,[1],none,[79,108],[],false⟩) (args:=[.agg #[I a,I b,.slice d e f]]) (by kernel_rfl) (B0 Tryz.call79 (B0 Tryz.call108 Bodies.nil)) (Eq.mp (by kernel_rfl) hvc)
def A8p(P:Program)(d:Int)(e:Int)(f:OA)(g i:Nat)(h:Heap)(K:Value->Heap->Prop):Prop:=
 FCall P Jo #[.slice f g i] h (fun j k=>∃ (a:OA) (b c:Nat),j= .slice a b c/\K (.agg #[I d,I e,.slice a b c]) k)
theorem A59(a:Int)(b:Int)(d:OA)(e f:Nat)(hvc:A8p Tryz.prog a b d e f h K):FCall Tryz.prog Lr #[I a,I b,.slice d e f] h K:=
 B7 Tryz.func71 (c:=C2 Tryz.f71) (by kernel_rfl) (rs:=[.cell 6 24]) (by kernel_rfl) (fa:=⟨[],[],[],[],[]⟩)
  (cfg:=⟨12,[6],none,[81],[],false⟩) (args:=[I a,I b,.slice d e f]) (by kernel_rfl) (B0 Tryz.call81 Bodies.nil) (Eq.mp (by kernel_rfl) hvc)
def Ri(P:Program)(a:Int)(b:Int)(d:OA)(e f:Nat)(h:Heap)(K:Value->Heap->Prop):Prop:=
 FCall P Fe #[.agg #[I a,I b,.slice d e f]] h (fun m c=>∃ (g:Bool),m= .bool g/\Br (!g) (K (.tuple #[.agg #[I 0,I 0,.slice none 0 0],I 1]) c)
 (FCall P Cf #[.slice d e f,I a,I b] c (fun n l=>∃ (i:OA) (j k:Nat),n= .slice i j k/\Heap.le c l/\K (.tuple #[.agg #[I b,I a,.slice i j k],I 0]) l)))
theorem Tt(a:Int)(b:Int)(d:OA)(e f:Nat)(hvc:Ri Tryz.prog a b d e f h K):FCall Tryz.prog E5 #[.agg #[I a,I b,.slice d e f]] h K:=
 B7 Tryz.func45 (c:=C2 Tryz.f45) (by kernel_rfl) (rs:=[.cell 2 24,.tmp 3]) (by kernel_rfl) (fa:=⟨[],[],[(3,((Lrg 0 14),[[],[0],[],[2],[],[4],[],[6],[],[8],[4,5,6,7,8,9],(Lrg 0 11),(Lrg 0 12),(Lrg 0 13)]))],[],[]⟩)
  (cfg:=⟨20,[1,2],none,[43,111],[],false⟩) (args:=[.agg #[I a,I b,.slice d e f]]) (by kernel_rfl) (B0 Tryz.call43 (B0 Tryz.call111 Bodies.nil)) (Eq.mp (by kernel_rfl) hvc)
def B5g(P:Program)(q:Int)(c:Int)(c9:OA)(d0 d1:Nat)(j:Int)(k:Int)(d2:OA)(d3 d4:Nat)(h:Heap)(K:Value->Heap->Prop):Prop:=
 FCall P Jr #[.agg #[I q,I c,.slice c9 d0 d1]] h (fun d7 d8=>∃ (z:OA) (A B:Nat) (C:Bool),d7= .tuple #[.slice z A B,.bool C]/\FCall P Jr #[.agg #[I j,I k,.slice d2 d3 d4]] d8 (fun d9 o=>∃ (D:OA) (E F:Nat) (G:Bool),d9= .tuple #[.slice D E F,.bool G]/\Br (!C) (K (.tuple #[.agg #[I 0,I 0,.slice none 0 0],I 1]) o)
 (Br (!G) (K (.tuple #[.agg #[I 0,I 0,.slice none 0 0],I 1]) o)
 (Br (c != j) (K (.tuple #[.agg #[I 0,I 0,.slice none 0 0],I 4]) o)
 (FCall P Fd #[.slice z A B,I c] o (fun e0 c6=>∃ (H:OA) (r d5:Nat),e0= .slice H r d5/\FCall P W5 #[.slice D E F,I j,I k] c6 (fun e1 y=>∃ (J:OA) (L M:Nat),e1= .slice J L M/\Heap.le c6 y/\FCall P Fd #[.slice J L M,I j] y (fun e2 c7=>∃ (N:OA) (s d6:Nat),e2= .slice N s d6/\Heap.le y c7/\wpH P (Instr.makeSlice 87 (I 0) (I (B4 (q*k)))) (fun e3 e4=>∃ (O:OA) (Q R:Nat),e3= .slice O Q R/\∃ (t:List Value->Heap->Prop) (S:List Value->Heap->Nat),t [.slice O Q R,I 0] e4/\
 ∀ (l:OA) (m n:Nat) (a:Int),∀ e,t [.slice l m n,I a] e->Br (decide (a<(r:Int))) (∃ p,H=some p/\0<=a/\a<(r:Int)/\∃ (T:OA) (V W:Nat) (X:Bool) (Z:OA) (a0 a1:Nat),e.cell? (Addr.add (p.add (a.toNat*3)) 0)=some (.slice T V W)/\e.cell? (Addr.add (p.add (a.toNat*3)) 1)=some (.bool X)/\e.cell? (Addr.add (p.add (a.toNat*3)) 2)=some (.slice Z a0 a1)/\∃ (u:List Value->Heap->Prop) (a2:List Value->Heap->Nat),u [.slice l m n,I 0] e/\
 ∀ (f:OA) (g i:Nat) (b:Int),∀ d,u [.slice f g i,I b] d->Br (decide (b<(s:Int))) (∃ c,N=some c/\0<=b/\b<(s:Int)/\∃ (a3:OA) (a4 a5:Nat) (a6:Bool) (a7:OA) (a8 a9:Nat),d.cell? (Addr.add (c.add (b.toNat*3)) 0)=some (.slice a3 a4 a5)/\d.cell? (Addr.add (c.add (b.toNat*3)) 1)=some (.bool a6)/\d.cell? (Addr.add (c.add (b.toNat*3)) 2)=some (.slice a7 a8 a9)/\FCall P Ss #[.agg #[.slice T V W,.bool X,.slice Z a0 a1],.agg #[.slice a3 a4 a5,.bool a6,.slice a7 a8 a9]] d (fun e5 e6=>∃ (b0:Bool) (b1:OA) (b2 b3:Nat) (b4:Bool) (b5:OA) (b6 b7:Nat),e5= .agg #[.bool b0,.slice b1 b2 b3,.bool b4,.slice b5 b6 b7]/\wpH P (Instr.buildSlice 87 1 #[(0,.agg #[.bool b0,.slice b1 b2 b3,.bool b4,.slice b5 b6 b7])]) (fun e7 e8=>∃ (b8:OA) (b9 c0:Nat),e7= .slice b8 b9 c0/\wpH P (Builtin.append_ #[87,87] 87 #[.slice f g i,.slice b8 b9 c0]) (fun e9 c8=>∃ (v:OA) (w x:Nat),e9= .slice v w x/\u [.slice v w x,I (B4 (b+1))] c8/\a2 [.slice v w x,I (B4 (b+1))] c8<a2 [.slice f g i,I b] d) e8) e6))
 (t [.slice f g i,I (B4 (a+1))] d/\S [.slice f g i,I (B4 (a+1))] d<S [.slice l m n,I a] e))
 (FCall P Lr #[I q,I k,.slice l m n] e (fun f0 f1=>∃ (c1:Int) (c2:Int) (c3:OA) (c4 c5:Nat),f0= .agg #[I c1,I c2,.slice c3 c4 c5]/\K (.tuple #[.agg #[I c1,I c2,.slice c3 c4 c5],I 0]) f1))) c7))))))))
theorem B0k(a:Int)(b:Int)(d:OA)(e f:Nat)(g:Int)(i:Int)(j:OA)(k l:Nat)(hvc:B5g Tryz.prog a b d e f g i j k l h K):FCall Tryz.prog Fp #[.agg #[I a,I b,.slice d e f],.agg #[I g,I i,.slice j k l]] h K:=
 B7 Tryz.func33 (c:=C2 Tryz.f33) (by kernel_rfl) (rs:=[.cell 4 24,.tmp 5]) (by kernel_rfl) (fa:=⟨[(11,⟨[12,61],[],[.slice none 0 0,.int .i64 0],⟨([12,14,16]++Lrg 61 18),[14,16]⟩⟩),(14,⟨[12,67],[],[.slice none 0 0,.int .i64 0],⟨([12,16]++Lrg 67 11),[16]⟩⟩)],[],[(8,([0,1,2,3,4,6,7,5,8,9],[[],[],[1],[],[3],[0,1,2,3,4],[],[6],(Lrg 0 8),(Lrg 0 9)]))],[],[]⟩)
  (cfg:=⟨85,[2,3,4,14,16],none,[67,71,82,91,92],[],false⟩) (args:=[.agg #[I a,I b,.slice d e f],.agg #[I g,I i,.slice j k l]]) (by kernel_rfl) (B0 Tryz.call67 (B0 Tryz.call71 (B0 Tryz.call82 (B0 Tryz.call91 (B0 Tryz.call92 Bodies.nil))))) (Eq.mp (by kernel_rfl) hvc)
def Rj(P:Program)(i:OA)(c z:Nat)(h:Heap)(K:Value->Heap->Prop):Prop:=
 (wpH P (Instr.makeSlice 97 (I (c:Int)) (I (c:Int))) (fun b5 x=>∃ (j:OA) (k A:Nat),b5= .slice j k A/\Heap.le h x/\FCall P H8 #[.slice i c z] x (fun b6 a7=>∃ (l:Bool) (m:OA) (n o:Nat),b6= .agg #[.bool l,.slice m n o]/\Heap.le x a7/\∃ (p:List Value->Heap->Prop) (B:List Value->Heap->Nat),p [I 0] a7/\
 ∀ (a:Int),∀ d,p [I a] d->Br (decide (a<(c:Int))) (∃ f,i=some f/\0<=a/\a<(c:Int)/\∃ (C:Bool) (D:OA) (E F:Nat) (G:Bool) (H:OA) (J L:Nat),d.cell? (Addr.add (f.add (a.toNat*4)) 0)=some (.bool C)/\d.cell? (Addr.add (f.add (a.toNat*4)) 1)=some (.slice D E F)/\d.cell? (Addr.add (f.add (a.toNat*4)) 2)=some (.bool G)/\d.cell? (Addr.add (f.add (a.toNat*4)) 3)=some (.slice H J L)/\FCall P Dt #[.agg #[.bool C,.slice D E F,.bool G,.slice H J L],.agg #[.bool l,.slice m n o]] d (fun b7 a8=>∃ (M:Bool) (N:OA) (O Q:Nat),b7= .agg #[.bool M,.slice N O Q]/\Heap.le d a8/\∃ b3,j=some b3/\0<=a/\a<(k:Int)/\wpH P (Instr.storeAt 94 (.pointer (some (b3.add (a.toNat*2)))) (.agg #[.bool M,.slice N O Q])) (fun _ a9=>p [I (B4 (a+1))] a9/\B [I (B4 (a+1))] a9<B [I a] d) a8))
 (K (.agg #[.slice j k A,.bool l,.slice m n o]) d))) h)/\(FCall P H8 #[.slice i c z] h (fun b8 y=>∃ (q:Bool) (r:OA) (s t:Nat),b8= .agg #[.bool q,.slice r s t]/\Heap.le h y/\wpH P (Instr.makeSlice 97 (I (c:Int)) (I (c:Int))) (fun b9 b0=>∃ (u:OA) (v R:Nat),b9= .slice u v R/\Heap.le y b0/\∃ (w:List Value->Heap->Prop) (S:List Value->Heap->Nat),w [I 0] b0/\
 ∀ (b:Int),∀ e,w [I b] e->Br (decide (b<(c:Int))) (∃ g,i=some g/\0<=b/\b<(c:Int)/\∃ (T:Bool) (V:OA) (W X:Nat) (Z:Bool) (a0:OA) (a1 a2:Nat),e.cell? (Addr.add (g.add (b.toNat*4)) 0)=some (.bool T)/\e.cell? (Addr.add (g.add (b.toNat*4)) 1)=some (.slice V W X)/\e.cell? (Addr.add (g.add (b.toNat*4)) 2)=some (.bool Z)/\e.cell? (Addr.add (g.add (b.toNat*4)) 3)=some (.slice a0 a1 a2)/\FCall P Dt #[.agg #[.bool T,.slice V W X,.bool Z,.slice a0 a1 a2],.agg #[.bool q,.slice r s t]] e (fun c0 b1=>∃ (a3:Bool) (a4:OA) (a5 a6:Nat),c0= .agg #[.bool a3,.slice a4 a5 a6]/\Heap.le e b1/\∃ b4,u=some b4/\0<=b/\b<(v:Int)/\wpH P (Instr.storeAt 94 (.pointer (some (b4.add (b.toNat*2)))) (.agg #[.bool a3,.slice a4 a5 a6])) (fun _ b2=>w [I (B4 (b+1))] b2/\S [I (B4 (b+1))] b2<S [I b] e) b1))
 (K (.agg #[.slice u v R,.bool q,.slice r s t]) e)) y))
theorem Tu(a:OA)(b d:Nat)(hvc:Rj Tryz.prog a b d h K):FCall Tryz.prog Dv #[.slice a b d] h K:=
 B7 Tryz.func94 (c:=C2 Tryz.f94) (by kernel_rfl) (rs:=[.cell 2 126]) (by kernel_rfl) (fa:={ loops:=[(3,⟨[14],[],[.int .i64 0],⟨([4,5]++Lrg 14 14),[5]⟩⟩)],cuts:=[],orders:=[(1,([0,1,3,6,2,4,5,7],[[],[0],[0,1],[],[3],[0,1,2,3,4],[],[0,1,2,3,4,5,6]])),(5,((Lrg 0 9),[[],[0],[],[],[],[4],[3,4,5],[0,1,2,3,4,5,6],(Lrg 0 8)]))],alts:=[(1,[(2,[4])])] })
  (cfg:=⟨29,[2,3,5],none,[132,133],[],false⟩) (args:=[.slice a b d]) (by kernel_rfl) (B0 Tryz.call132 (B0 Tryz.call133 Bodies.nil)) (Eq.mp (by kernel_rfl) hvc)
def A0f(P:Program)(D:OA)(E F:Nat)(G:Int)(h:Heap)(K:Value->Heap->Prop):Prop:=
 wpH P (Instr.alloc 123 true (.tuple #[])) (fun L M=>∃ (a:Addr),L= .pointer (some a)/\FCall P Ls #[.slice D E F,I G] M (fun N O=>∃ (d:Value),N=d/\Wj P (d) O (fun (H:List Value) (b:Heap) (J:Heap->Prop)=>∃ (e:OA) (f g:Nat),H=[.slice e f g]/\∃ (i:OA) (j k:Nat),b.cell? a=some (.slice i j k)/\FCall P Dv #[.slice e f g] b (fun Q c=>∃ (l:OA) (m n:Nat) (o:Bool) (p:OA) (q r:Nat),Q= .agg #[.slice l m n,.bool o,.slice p q r]/\Heap.le b c/\wpH P (Instr.buildSlice 123 1 #[(0,.agg #[.slice l m n,.bool o,.slice p q r])]) (fun R B=>∃ (s:OA) (t u:Nat),R= .slice s t u/\Heap.le c B/\wpH P (Builtin.append_ #[123,123] 123 #[.slice i j k,.slice s t u]) (fun S T=>∃ (v:OA) (w x:Nat),S= .slice v w x/\wpH P (Instr.storeAt 123 (.pointer (some a)) (.slice v w x)) (fun _ V=>J V) T) B) c))
 (fun C=>∃ (y:OA) (z A:Nat),C.cell? a=some (.slice y z A)/\K (.slice y z A) C))) h
theorem Yz(a:OA)(b d:Nat)(e:Int)(hvc:A0f Tryz.prog a b d e h K):FCall Tryz.prog Fd #[.slice a b d,I e] h K:=
 B7 Tryz.func91 (c:=C2 Tryz.f91) (by kernel_rfl) (rs:=[.tmp 4]) (by kernel_rfl) (fa:={ loops:=[],cuts:=[],orders:=[(4,([0,1,2,3,4,5],[[],[],[1],[1,2],[0,1,2,3],[0,1,2,3,4]]))],rounds:=[(4,[.slice none 0 0])] })
  (cfg:=⟨17,[],none,[94,131],[1000000000],false⟩) (args:=[.slice a b d,I e]) (by kernel_rfl) (B0 Tryz.call94 (B0 Tryz.call131 Bodies.nil)) (Eq.mp (by kernel_rfl) hvc)
def A5c(P:Program)(l:Int)(c:Int)(W:OA)(X Z:Nat)(h:Heap)(K:Value->Heap->Prop):Prop:=
 FCall P Jr #[.agg #[I l,I c,.slice W X Z]] h (fun a2 Q=>∃ (d:OA) (e f:Nat) (m:Bool),a2= .tuple #[.slice d e f,.bool m]/\Br (!m) (K (.tuple #[.agg #[I 0,I 0,.slice none 0 0],.slice none 0 0,I 1]) Q)
 (FCall P Y6 #[.slice d e f,I c] Q (fun a3 a4=>∃ (g:OA),a3= .pointer g/\FCall P Dz #[.pointer g,I c] a4 (fun a5 R=>∃ (n:OA) (o p:Nat) (q:Bool) (r:OA) (s t:Nat) (a0:Int),a5= .tuple #[.slice n o p,.agg #[.bool q,.slice r s t],I a0]/\∃ T,g=some T/\∃ (u:OA) (i a1:Nat),R.cell? (T.add 1)=some (.slice u i a1)/\∃ (j:List Value->Heap->Prop) (v:List Value->Heap->Nat),j [I 0] R/\
 ∀ (a:Int),∀ b,j [I a] b->Br (decide (a<(i:Int))) (∃ k,u=some k/\0<=a/\a<(i:Int)/\∃ (w:Bool) (x:OA) (y z:Nat),b.cell? (Addr.add (k.add (a.toNat*2)) 0)=some (.bool w)/\b.cell? (Addr.add (k.add (a.toNat*2)) 1)=some (.slice x y z)/\FCall P S0 #[.agg #[.bool w,.slice x y z],.agg #[.bool q,.slice r s t]] b (fun a6 a7=>∃ (A:Bool) (B:OA) (C D:Nat) (E:Bool) (F:OA) (G H:Nat),a6= .agg #[.bool A,.slice B C D,.bool E,.slice F G H]/\∃ V,d=some V/\0<=a/\a<(e:Int)/\wpH P (Instr.storeAt 101 (.pointer (some (V.add (a.toNat*4)))) (.agg #[.bool A,.slice B C D,.bool E,.slice F G H])) (fun _ S=>j [I (B4 (a+1))] S/\v [I (B4 (a+1))] S<v [I a] b) a7))
 (FCall P Lr #[I l,I c,.slice d e f] b (fun a8 a9=>∃ (J:Int) (L:Int) (M:OA) (N O:Nat),a8= .agg #[I J,I L,.slice M N O]/\K (.tuple #[.agg #[I J,I L,.slice M N O],.slice n o p,I 0]) a9))))))
theorem A1p(a:Int)(b:Int)(d:OA)(e f:Nat)(hvc:A5c Tryz.prog a b d e f h K):FCall Tryz.prog Nq #[.agg #[I a,I b,.slice d e f]] h K:=
 B7 Tryz.func15 (c:=C2 Tryz.f15) (by kernel_rfl) (rs:=[.cell 2 24,.tmp 3,.tmp 4]) (by kernel_rfl) (fa:=⟨[(7,⟨[38],[],[.int .i64 0],⟨([11,12]++Lrg 38 12),[12]⟩⟩)],[],[],[],[]⟩)
  (cfg:=⟨57,[1,2,9,12],none,[67,68,69,70,71],[69],false⟩) (args:=[.agg #[I a,I b,.slice d e f]]) (by kernel_rfl) (B0 Tryz.call67 (B0 Tryz.call68 (B0 Tryz.call69 (B0 Tryz.call70 (B0 Tryz.call71 Bodies.nil))))) (Eq.mp (by kernel_rfl) hvc)
def B5h(P:Program)(n:Int)(d:Int)(d0:OA)(d1 d2:Nat)(h:Heap)(K:Value->Heap->Prop):Prop:=
 FCall P Jr #[.agg #[I n,I d,.slice d0 d1 d2]] h (fun d6 J=>∃ (M:OA) (N O:Nat) (Q:Bool),d6= .tuple #[.slice M N O,.bool Q]/\Br (!Q) (K (.tuple #[.string ({ data:=#[] }:ByteArray),I 1]) J)
 (Br (n != d) (K (.tuple #[.string ({ data:=#[] }:ByteArray),I 4]) J)
 (FCall P Y6 #[.slice M N O,I d] J (fun d7 d8=>∃ (o:OA),d7= .pointer o/\FCall P Dz #[.pointer o,I d] d8 (fun d9 c6=>∃ (d3:OA) (R d4:Nat) (S:Bool) (T:OA) (V W:Nat) (X:Int),d9= .tuple #[.slice d3 R d4,.agg #[.bool S,.slice T V W],I X]/\Br (decide ((R:Int)<n)) (K (.tuple #[.string ({ data:=#[48] }:ByteArray),I 0]) c6)
 (FCall P Sq #[.agg #[.bool S,.slice T V W]] c6 (fun e0 c7=>∃ (p:Bool) (q:OA) (r s:Nat) (t:Bool) (u:OA) (v w:Nat),e0= .agg #[.bool p,.slice q r s,.bool t,.slice u v w]/\∃ (x:List Value->Heap->Prop),(Br (decide (X<(0:Int))) (FCall P A3r #[.agg #[.bool p,.slice q r s,.bool t,.slice u v w]] c7 (fun e1 e2=>∃ (Z:Bool) (a0:OA) (a1 a2:Nat) (a3:Bool) (a4:OA) (a5 a6:Nat),e1= .agg #[.bool Z,.slice a0 a1 a2,.bool a3,.slice a4 a5 a6]/\x [.bool Z,.slice a0 a1 a2,.bool a3,.slice a4 a5 a6] e2))
 (x [.bool p,.slice q r s,.bool t,.slice u v w] c7))/\
 ∀ (a7:Bool) (a8:OA) (a9 b0:Nat) (b1:Bool) (b2:OA) (b3 b4:Nat),∀ L,x [.bool a7,.slice a8 a9 b0,.bool b1,.slice b2 b3 b4] L->∃ c9,o=some c9/\∃ (b5:OA) (y d5:Nat),L.cell? (c9.add 2)=some (.slice b5 y d5)/\∃ (z:List Value->Heap->Prop) (b6:List Value->Heap->Nat),z [I 0,.bool a7,.slice a8 a9 b0,.bool b1,.slice b2 b3 b4] L/\
 ∀ (a:Int) (e:Bool) (f:OA) (g i:Nat) (j:Bool) (k:OA) (l m:Nat),∀ b,z [I a,.bool e,.slice f g i,.bool j,.slice k l m] b->Br (decide (a<(y:Int))) (∃ c,b5=some c/\0<=a/\a<(y:Int)/\∃ (b7:Bool) (b8:OA) (b9 c0:Nat) (c1:Bool) (c2:OA) (c3 c4:Nat),b.cell? (Addr.add (c.add (a.toNat*4)) 0)=some (.bool b7)/\b.cell? (Addr.add (c.add (a.toNat*4)) 1)=some (.slice b8 b9 c0)/\b.cell? (Addr.add (c.add (a.toNat*4)) 2)=some (.bool c1)/\b.cell? (Addr.add (c.add (a.toNat*4)) 3)=some (.slice c2 c3 c4)/\FCall P A3t #[.agg #[.bool e,.slice f g i,.bool j,.slice k l m],.agg #[.bool b7,.slice b8 b9 c0,.bool c1,.slice c2 c3 c4]] b (fun e3 c8=>∃ (A:Bool) (B:OA) (C D:Nat) (E:Bool) (F:OA) (G H:Nat),e3= .agg #[.bool A,.slice B C D,.bool E,.slice F G H]/\z [I (B4 (a+1)),.bool A,.slice B C D,.bool E,.slice F G H] c8/\b6 [I (B4 (a+1)),.bool A,.slice B C D,.bool E,.slice F G H] c8<b6 [I a,.bool e,.slice f g i,.bool j,.slice k l m] b))
 (FCall P Ie #[.agg #[.bool e,.slice f g i,.bool j,.slice k l m]] b (fun e4 e5=>∃ (c5:ByteArray),e4= .string c5/\K (.tuple #[.string c5,I 0]) e5)))))))))
theorem B0l(a:Int)(b:Int)(d:OA)(e f:Nat)(hvc:B5h Tryz.prog a b d e f h K):FCall Tryz.prog A3u #[.agg #[I a,I b,.slice d e f]] h K:=
 B7 Tryz.func37 (c:=C2 Tryz.f37) (by kernel_rfl) (rs:=[.tmp 2,.tmp 3]) (by kernel_rfl) (fa:=⟨[(14,⟨[53],[(10,4)],[.int .i64 0,.bool false,.slice none 0 0,.bool false,.slice none 0 0],⟨([12]++Lrg 53 8),[10,12]⟩⟩)],[(13,⟨[],[(10,4)],[.bool false,.slice none 0 0,.bool false,.slice none 0 0],⟨[44,45,46,47],[10]⟩⟩)],[],[],[]⟩)
  (cfg:=⟨63,[1,8,10,12],none,[67,68,69,95,96,97,98],[69],false⟩) (args:=[.agg #[I a,I b,.slice d e f]]) (by kernel_rfl) (B0 Tryz.call67 (B0 Tryz.call68 (B0 Tryz.call69 (B0 Tryz.call95 (B0 Tryz.call96 (B0 Tryz.call97 (B0 Tryz.call98 Bodies.nil))))))) (Eq.mp (by kernel_rfl) hvc)
def Ox(P:Program)(D:OA)(r M:Nat)(E:Int)(g:Int)(h:Heap)(K:Value->Heap->Prop):Prop:=
 wpH P (Instr.makeSlice 22 (I 0) (I (r:Int))) (fun F G=>∃ (s:OA) (t u:Nat),F= .slice s t u/\∃ (m:List Value->Heap->Prop) (v:List Value->Heap->Nat),m [.slice s t u,I 0] G/\
 ∀ (i:OA) (j k:Nat) (a:Int),∀ l,m [.slice i j k,I a] l->Br (decide (a<g)) (∃ (n:List Value->Heap->Prop) (w:List Value->Heap->Nat),n [.slice i j k,I 0] l/\
 ∀ (d:OA) (e f:Nat) (b:Int),∀ c,n [.slice d e f,I b] c->Br (decide (b<E)) (∃ C,D=some C/\0<=B4 ((B4 (b*g))+a)/\B4 ((B4 (b*g))+a)<(r:Int)/\∃ (x:ByteArray),c.cell? (C.add ((B4 ((B4 (b*g))+a)).toNat*1))=some (.string x)/\wpH P (Instr.buildSlice 22 1 #[(0,.string x)]) (fun H J=>∃ (y:OA) (z A:Nat),H= .slice y z A/\wpH P (Builtin.append_ #[22,22] 22 #[.slice d e f,.slice y z A]) (fun L B=>∃ (o:OA) (p q:Nat),L= .slice o p q/\n [.slice o p q,I (B4 (b+1))] B/\w [.slice o p q,I (B4 (b+1))] B<w [.slice d e f,I b] c) J) c)
 (m [.slice d e f,I (B4 (a+1))] c/\v [.slice d e f,I (B4 (a+1))] c<v [.slice i j k,I a] l))
 (K (.slice i j k) l)) h
theorem Px(a:OA)(b d:Nat)(e:Int)(f:Int)(hvc:Ox Tryz.prog a b d e f h K):FCall Tryz.prog Cf #[.slice a b d,I e,I f] h K:=
 B7 Tryz.func111 (c:=C2 Tryz.f111) (by kernel_rfl) (rs:=[.tmp 6]) (by kernel_rfl) (fa:=⟨[(3,⟨[7,14],[],[.slice none 0 0,.int .i64 0],⟨([7,8,9]++Lrg 14 20),[]⟩⟩),(6,⟨[7,18],[],[.slice none 0 0,.int .i64 0],⟨([7,9]++Lrg 18 15),[]⟩⟩)],[],[],[],[]⟩)
  (cfg:=⟨35,[],none,[],[],false⟩) (args:=[.slice a b d,I e,I f]) (by kernel_rfl) Bodies.nil (Eq.mp (by kernel_rfl) hvc)
def Oy(P:Program)(M:OA)(s V:Nat)(N:Int)(d:Int)(h:Heap)(K:Value->Heap->Prop):Prop:=
 wpH P (Instr.makeSlice 87 (I 0) (I (s:Int))) (fun O Q=>∃ (t:OA) (u v:Nat),O= .slice t u v/\∃ (n:List Value->Heap->Prop) (w:List Value->Heap->Nat),n [.slice t u v,I 0] Q/\
 ∀ (j:OA) (k l:Nat) (a:Int),∀ m,n [.slice j k l,I a] m->Br (decide (a<d)) (∃ (o:List Value->Heap->Prop) (x:List Value->Heap->Nat),o [.slice j k l,I 0] m/\
 ∀ (e:OA) (f g:Nat) (b:Int),∀ c,o [.slice e f g,I b] c->Br (decide (b<N)) (∃ i,M=some i/\0<=B4 ((B4 (b*d))+a)/\B4 ((B4 (b*d))+a)<(s:Int)/\∃ (y:Bool) (z:OA) (A B:Nat) (C:Bool) (D:OA) (E F:Nat),c.cell? (Addr.add (i.add ((B4 ((B4 (b*d))+a)).toNat*4)) 0)=some (.bool y)/\c.cell? (Addr.add (i.add ((B4 ((B4 (b*d))+a)).toNat*4)) 1)=some (.slice z A B)/\c.cell? (Addr.add (i.add ((B4 ((B4 (b*d))+a)).toNat*4)) 2)=some (.bool C)/\c.cell? (Addr.add (i.add ((B4 ((B4 (b*d))+a)).toNat*4)) 3)=some (.slice D E F)/\wpH P (Instr.buildSlice 87 1 #[(0,.agg #[.bool y,.slice z A B,.bool C,.slice D E F])]) (fun R S=>∃ (G:OA) (H J:Nat),R= .slice G H J/\wpH P (Builtin.append_ #[87,87] 87 #[.slice e f g,.slice G H J]) (fun T L=>∃ (p:OA) (q r:Nat),T= .slice p q r/\o [.slice p q r,I (B4 (b+1))] L/\x [.slice p q r,I (B4 (b+1))] L<x [.slice e f g,I b] c) S) c)
 (n [.slice e f g,I (B4 (a+1))] c/\w [.slice e f g,I (B4 (a+1))] c<w [.slice j k l,I a] m))
 (K (.slice j k l) m)) h
theorem Py(a:OA)(b d:Nat)(e:Int)(f:Int)(hvc:Oy Tryz.prog a b d e f h K):FCall Tryz.prog W5 #[.slice a b d,I e,I f] h K:=
 B7 Tryz.func82 (c:=C2 Tryz.f82) (by kernel_rfl) (rs:=[.tmp 6]) (by kernel_rfl) (fa:=⟨[(3,⟨[7,14],[],[.slice none 0 0,.int .i64 0],⟨([7,8,9]++Lrg 14 20),[]⟩⟩),(6,⟨[7,18],[],[.slice none 0 0,.int .i64 0],⟨([7,9]++Lrg 18 15),[]⟩⟩)],[],[],[],[]⟩)
  (cfg:=⟨35,[],none,[],[],false⟩) (args:=[.slice a b d,I e,I f]) (by kernel_rfl) Bodies.nil (Eq.mp (by kernel_rfl) hvc)
def A8r(P:Program)(N:OA)(j a7:Nat)(O:Bool)(Q:OA)(R S:Nat)(T:OA)(V a8:Nat)(W:Bool)(X:OA)(Z a0:Nat)(h:Heap)(K:Value->Heap->Prop):Prop:=
 wpH P (Instr.alloc 185 true (.tuple #[])) (fun a1 a2=>∃ (c:Addr),a1= .pointer (some c)/\∃ (d:List Value->Heap->Prop) (k:List Value->Heap->Nat),d [I 0] a2/\
 ∀ (a:Int),∀ b,d [I a] b->Br (decide (a<(j:Int))) (∃ g,N=some g/\0<=a/\a<(j:Int)/\∃ (l:Bool) (m:OA) (n o:Nat),b.cell? (Addr.add (g.add (a.toNat*2)) 0)=some (.bool l)/\b.cell? (Addr.add (g.add (a.toNat*2)) 1)=some (.slice m n o)/\∃ i,T=some i/\0<=a/\a<(V:Int)/\∃ (p:Bool) (q:OA) (r s:Nat),b.cell? (Addr.add (i.add (a.toNat*2)) 0)=some (.bool p)/\b.cell? (Addr.add (i.add (a.toNat*2)) 1)=some (.slice q r s)/\FCall P Q8 #[.pointer (some c),.agg #[.bool l,.slice m n o],.agg #[.bool p,.slice q r s]] b (fun a3 L=>a3= .tuple #[]/\d [I (B4 (a+1))] L/\k [I (B4 (a+1))] L<k [I a] b))
 (FCall P Lp #[.pointer (some c)] b (fun a4 e=>∃ (t:Bool) (u:OA) (v w:Nat),a4= .agg #[.bool t,.slice u v w]/\Heap.le b e/\FCall P Ki #[.agg #[.bool O,.slice Q R S],.agg #[.bool W,.slice X Z a0]] e (fun a5 f=>∃ (x:Bool) (y:OA) (z A:Nat),a5= .agg #[.bool x,.slice y z A]/\Heap.le e f/\FCall P S0 #[.agg #[.bool t,.slice u v w],.agg #[.bool x,.slice y z A]] f (fun a6 M=>∃ (B:Bool) (C:OA) (D E:Nat) (F:Bool) (G:OA) (H J:Nat),a6= .agg #[.bool B,.slice C D E,.bool F,.slice G H J]/\Heap.le f M/\K (.agg #[.bool B,.slice C D E,.bool F,.slice G H J]) M))))) h
theorem A5b(a:OA)(b d:Nat)(e:Bool)(f:OA)(g i:Nat)(j:OA)(k l:Nat)(m:Bool)(n:OA)(o p:Nat)(hvc:A8r Tryz.prog a b d e f g i j k l m n o p h K):FCall Tryz.prog Ss #[.agg #[.slice a b d,.bool e,.slice f g i],.agg #[.slice j k l,.bool m,.slice n o p]] h K:=
 B7 Tryz.func92 (c:=C2 Tryz.f92) (by kernel_rfl) (rs:=[.cell 4 101]) (by kernel_rfl) (fa:=⟨[(3,⟨[11],[],[.int .i64 0],⟨([6,7]++Lrg 11 13),[7]⟩⟩)],[],[(5,([0,1,2,3,4,5,6],[[],[],[1],[],[1,2,3],[1,2,3,4],[0,1,2,3,4,5]])),(7,([1,2,3,4,0,5,6,7],[[],[],[1],[],[3],[0,1,2,3,4],[0,1,2,3,4,5],[0,1,2,3,4,5,6]]))],[],[]⟩)
  (cfg:=⟨31,[2,3,4,7],none,[70,150,151,152],[150],false⟩) (args:=[.agg #[.slice a b d,.bool e,.slice f g i],.agg #[.slice j k l,.bool m,.slice n o p]]) (by kernel_rfl) (B0 Tryz.call70 (B0 Tryz.call150 (B0 Tryz.call151 (B0 Tryz.call152 Bodies.nil)))) (Eq.mp (by kernel_rfl) hvc)
def Wl(P:Program)(m3:OA)(m4 m5:Nat)(b7:Int)(h:Heap)(K:Value->Heap->Prop):Prop:=
 wpH P (Instr.box 99 (.agg #[I b7,.slice none 0 0,.slice none 0 0])) (fun n1 n2=>∃ (b8:Addr),n1= .pointer (some b8)/\wpH P (Instr.alloc 90 true (.tuple #[])) (fun n3 n4=>∃ (b:Addr),n3= .pointer (some b)/\wpH P (Instr.storeAt 90 (.pointer (some b)) (.pointer (some b8))) (fun _ n5=>FCall P Ls #[.slice m3 m4 m5,I b7] n5 (fun n6 n7=>∃ (b9:Value),n6=b9/\Wj P (b9) n7 (fun (m6:List Value) (m7:Heap) (x:Heap->Prop)=>∃ (W:OA) (y c0:Nat),m6=[.slice W y c0]/\FCall P H8 #[.slice W y c0] m7 (fun n8 b4=>∃ (z:Bool) (A:OA) (B C:Nat),n8= .agg #[.bool z,.slice A B C]/\∃ (c1:OA),b4.cell? b=some (.pointer c1)/\∃ l0,c1=some l0/\∃ (m8:OA) (f m9:Nat),b4.cell? (l0.add 1)=some (.slice m8 f m9)/\∃ (s:List Value->Heap->Prop) (q:List Value->Heap->Nat),s [I 0,.bool false,.slice none 0 0] b4/\
 ∀ (a:Int) (g:Bool) (i:OA) (j k:Nat),∀ e,s [I a,.bool g,.slice i j k] e->Br (decide (a<(y:Int))) (∃ w,W=some w/\0<=a/\a<(y:Int)/\∃ (c2:Bool) (c3:OA) (c4 c5:Nat) (c6:Bool) (c7:OA) (c8 c9:Nat),e.cell? (Addr.add (w.add (a.toNat*4)) 0)=some (.bool c2)/\e.cell? (Addr.add (w.add (a.toNat*4)) 1)=some (.slice c3 c4 c5)/\e.cell? (Addr.add (w.add (a.toNat*4)) 2)=some (.bool c6)/\e.cell? (Addr.add (w.add (a.toNat*4)) 3)=some (.slice c7 c8 c9)/\FCall P Dt #[.agg #[.bool c2,.slice c3 c4 c5,.bool c6,.slice c7 c8 c9],.agg #[.bool z,.slice A B C]] e (fun n9 o0=>∃ (D:Bool) (E:OA) (F G:Nat),n9= .agg #[.bool D,.slice E F G]/\FCall P No #[.agg #[.bool g,.slice i j k],.agg #[.bool D,.slice E F G]] o0 (fun o1 p=>∃ (l:Bool) (m:OA) (n o:Nat),o1= .agg #[.bool l,.slice m n o]/\∃ (d0:OA),p.cell? b=some (.pointer d0)/\∃ l1,d0=some l1/\∃ (H:OA) (J L:Nat),p.cell? (l1.add 1)=some (.slice H J L)/\(∃ (d1:OA),p.cell? b=some (.pointer d1)/\wpH P (Instr.buildSlice 97 1 #[(0,.agg #[.bool D,.slice E F G])]) (fun o2 j8=>∃ (d2:OA) (d3 d4:Nat),o2= .slice d2 d3 d4/\Heap.le p j8/\wpH P (Builtin.append_ #[97,97] 97 #[.slice H J L,.slice d2 d3 d4]) (fun o3 o4=>∃ (d5:OA) (d6 d7:Nat),o3= .slice d5 d6 d7/\∃ l2,d1=some l2/\wpH P (Instr.storeAt 97 (.pointer (some (l2.add 1))) (.slice d5 d6 d7)) (fun _ j9=>s [I (B4 (a+1)),.bool l,.slice m n o] j9/\q [I (B4 (a+1)),.bool l,.slice m n o] j9<q [I a,.bool g,.slice i j k] e) o4) j8) p)/\(wpH P (Instr.buildSlice 97 1 #[(0,.agg #[.bool D,.slice E F G])]) (fun o5 S=>∃ (X:OA) (Z a0:Nat),o5= .slice X Z a0/\Heap.le p S/\(∃ (d8:OA),S.cell? b=some (.pointer d8)/\wpH P (Builtin.append_ #[97,97] 97 #[.slice H J L,.slice X Z a0]) (fun o6 o7=>∃ (d9:OA) (e0 e1:Nat),o6= .slice d9 e0 e1/\∃ l3,d8=some l3/\wpH P (Instr.storeAt 97 (.pointer (some (l3.add 1))) (.slice d9 e0 e1)) (fun _ k0=>s [I (B4 (a+1)),.bool l,.slice m n o] k0/\q [I (B4 (a+1)),.bool l,.slice m n o] k0<q [I a,.bool g,.slice i j k] e) o7) S)/\(wpH P (Builtin.append_ #[97,97] 97 #[.slice H J L,.slice X Z a0]) (fun o8 k1=>∃ (e2:OA) (e3 e4:Nat),o8= .slice e2 e3 e4/\∃ (e5:OA),k1.cell? b=some (.pointer e5)/\∃ l4,e5=some l4/\wpH P (Instr.storeAt 97 (.pointer (some (l4.add 1))) (.slice e2 e3 e4)) (fun _ k2=>s [I (B4 (a+1)),.bool l,.slice m n o] k2/\q [I (B4 (a+1)),.bool l,.slice m n o] k2<q [I a,.bool g,.slice i j k] e) k1) S)) p))))
 (∃ (a1:List Value->Heap->Prop),(FCall P F8 #[.agg #[.bool g,.slice i j k]] e (fun o9 k3=>∃ (e6:Bool),o9= .bool e6/\Br e6 (FCall P Qp #[I 1] k3 (fun p0 p1=>∃ (e7:Bool) (e8:OA) (e9 f0:Nat),p0= .agg #[.bool e7,.slice e8 e9 f0]/\a1 [.bool e7,.slice e8 e9 f0] p1))
 (a1 [.bool g,.slice i j k] k3)))/\
 ∀ (M:Bool) (N:OA) (O Q:Nat),∀ V,a1 [.bool M,.slice N O Q] V->∃ (f1:OA),V.cell? b=some (.pointer f1)/\∃ l5,f1=some l5/\∃ (f2:OA) (R f3:Nat),V.cell? (l5.add 1)=some (.slice f2 R f3)/\(0<=(f:Int)/\(f:Int)<=(R:Int))/\∃ (a2:List Value->Heap->Prop) (f4:List Value->Heap->Nat),a2 [I 0] V/\
 ∀ (d:Int),∀ c,a2 [I d] c->Br (decide (d<((R-(((f:Int)).toNat):Nat):Int))) (∃ b6,J5 f2 f3 (((f:Int)).toNat) 2=some b6/\0<=d/\d<((R-(((f:Int)).toNat):Nat):Int)/\∃ (f5:Bool) (f6:OA) (f7 f8:Nat),c.cell? (Addr.add (b6.add (d.toNat*2)) 0)=some (.bool f5)/\c.cell? (Addr.add (b6.add (d.toNat*2)) 1)=some (.slice f6 f7 f8)/\∃ (f9:OA),c.cell? b=some (.pointer f9)/\∃ l6,f9=some l6/\∃ (g0:OA) (g1 n0:Nat),c.cell? (l6.add 1)=some (.slice g0 g1 n0)/\FCall P Ia #[.agg #[.bool f5,.slice f6 f7 f8],.agg #[.bool M,.slice N O Q]] c (fun p2 k4=>∃ (g2:Bool) (g3:OA) (g4 g5:Nat),p2= .agg #[.bool g2,.slice g3 g4 g5]/\Heap.le c k4/\∃ l7,g0=some l7/\0<=B4 ((f:Int)+d)/\B4 ((f:Int)+d)<(g1:Int)/\wpH P (Instr.storeAt 94 (.pointer (some (l7.add ((B4 ((f:Int)+d)).toNat*2)))) (.agg #[.bool g2,.slice g3 g4 g5])) (fun _ k5=>a2 [I (B4 (d+1))] k5/\f4 [I (B4 (d+1))] k5<f4 [I d] c) k4))
 (∃ (g6:OA),c.cell? b=some (.pointer g6)/\∃ l8,g6=some l8/\∃ (t:OA) (u v:Nat),c.cell? (l8.add 2)=some (.slice t u v)/\(∃ (g7:OA),c.cell? b=some (.pointer g7)/\FCall P S0 #[.agg #[.bool z,.slice A B C],.agg #[.bool M,.slice N O Q]] c (fun p3 b5=>∃ (g8:Bool) (g9:OA) (h0 h1:Nat) (h2:Bool) (h3:OA) (h4 h5:Nat),p3= .agg #[.bool g8,.slice g9 h0 h1,.bool h2,.slice h3 h4 h5]/\Heap.le c b5/\wpH P (Instr.buildSlice 87 1 #[(0,.agg #[.bool g8,.slice g9 h0 h1,.bool h2,.slice h3 h4 h5])]) (fun p4 k6=>∃ (h6:OA) (h7 h8:Nat),p4= .slice h6 h7 h8/\Heap.le b5 k6/\wpH P (Builtin.append_ #[87,87] 87 #[.slice t u v,.slice h6 h7 h8]) (fun p5 p6=>∃ (h9:OA) (i0 i1:Nat),p5= .slice h9 i0 i1/\∃ l9,g7=some l9/\wpH P (Instr.storeAt 87 (.pointer (some (l9.add 2))) (.slice h9 i0 i1)) (fun _ p7=>x p7) p6) k6) b5))/\(FCall P S0 #[.agg #[.bool z,.slice A B C],.agg #[.bool M,.slice N O Q]] c (fun p8 r=>∃ (a3:Bool) (a4:OA) (a5 a6:Nat) (a7:Bool) (a8:OA) (a9 b0:Nat),p8= .agg #[.bool a3,.slice a4 a5 a6,.bool a7,.slice a8 a9 b0]/\Heap.le c r/\(∃ (i2:OA),r.cell? b=some (.pointer i2)/\wpH P (Instr.buildSlice 87 1 #[(0,.agg #[.bool a3,.slice a4 a5 a6,.bool a7,.slice a8 a9 b0])]) (fun p9 k7=>∃ (i3:OA) (i4 i5:Nat),p9= .slice i3 i4 i5/\Heap.le r k7/\wpH P (Builtin.append_ #[87,87] 87 #[.slice t u v,.slice i3 i4 i5]) (fun q0 q1=>∃ (i6:OA) (i7 i8:Nat),q0= .slice i6 i7 i8/\∃ m0,i2=some m0/\wpH P (Instr.storeAt 87 (.pointer (some (m0.add 2))) (.slice i6 i7 i8)) (fun _ q2=>x q2) q1) k7) r)/\(wpH P (Instr.buildSlice 87 1 #[(0,.agg #[.bool a3,.slice a4 a5 a6,.bool a7,.slice a8 a9 b0])]) (fun q3 T=>∃ (b1:OA) (b2 b3:Nat),q3= .slice b1 b2 b3/\Heap.le r T/\(∃ (i9:OA),T.cell? b=some (.pointer i9)/\wpH P (Builtin.append_ #[87,87] 87 #[.slice t u v,.slice b1 b2 b3]) (fun q4 q5=>∃ (j0:OA) (j1 j2:Nat),q4= .slice j0 j1 j2/\∃ m1,i9=some m1/\wpH P (Instr.storeAt 87 (.pointer (some (m1.add 2))) (.slice j0 j1 j2)) (fun _ q6=>x q6) q5) T)/\(wpH P (Builtin.append_ #[87,87] 87 #[.slice t u v,.slice b1 b2 b3]) (fun q7 k8=>∃ (j3:OA) (j4 j5:Nat),q7= .slice j3 j4 j5/\∃ (j6:OA),k8.cell? b=some (.pointer j6)/\∃ m2,j6=some m2/\wpH P (Instr.storeAt 87 (.pointer (some (m2.add 2))) (.slice j3 j4 j5)) (fun _ q8=>x q8) k8) T)) r)))))))
 (fun k9=>∃ (j7:OA),k9.cell? b=some (.pointer j7)/\K (.pointer j7) k9))) n4) n2) h
theorem Wk(a:OA)(b d:Nat)(e:Int)(hvc:Wl Tryz.prog a b d e h K):FCall Tryz.prog Y6 #[.slice a b d,I e] h K:=
 B7 Tryz.func68 (c:=C2 Tryz.f68) (by kernel_rfl) (rs:=[.tmp 4]) (by kernel_rfl) (fa:={ loops:=[(8,⟨[31],[(9,2)],[.int .i64 0,.bool false,.slice none 0 0],⟨([11,12]++Lrg 31 21),[9,11,12]⟩⟩),(17,⟨[62],[],[.int .i64 0],⟨([13,14]++Lrg 62 17),[14]⟩⟩)],cuts:=[(16,⟨[],[(9,2)],[.bool false,.slice none 0 0],⟨[52,53,54],[9]⟩⟩)],orders:=[(12,([1,2,3,4,5,0,6,7,8,9,10],[[],[],[1],[1,2],[1,2,3],[],[5],[1,2,3,4,5,6],(Lrg 0 8),(Lrg 0 9),(Lrg 0 10)])),(19,((Lrg 0 12),[[],[0],[0,1],[0,1,2],[],[],[4,5],[],[],[7,8],(Lrg 0 10),(Lrg 0 11)])),(21,([1,2,3,4,5,6,0,7,8,9,10,11,12],[[],[],[1],[1,2],[1,2,3],[],[],[5,6],[5,6,7],(Lrg 1 8),(Lrg 0 10),(Lrg 0 11),(Lrg 0 12)]))],alts:=[(12,[(0,[6,7])]),(21,[(0,[7,8,9])])],rounds:=[(4,[.slice none 0 0])] })
  (cfg:=⟨92,[7,9,11,12,14],none,[70,100,131,132,133,134,135,136],[1000000000],false⟩) (args:=[.slice a b d,I e]) (by kernel_rfl) (B0 Tryz.call70 (B0 Tryz.call100 (B0 Tryz.call131 (B0 Tryz.call132 (B0 Tryz.call133 (B0 Tryz.call134 (B0 Tryz.call135 (B0 Tryz.call136 Bodies.nil)))))))) (Eq.mp (by kernel_rfl) hvc)
def B5i(P:Program)(e:OA)(a:Int)(h:Heap)(K:Value->Heap->Prop):Prop:=
 ∃ g,e=some g/\∃ (f:OA) (k d:Nat),h.cell? (g.add 1)=some (.slice f k d)/\∃ i,e=some i/\∃ (b:Int),h.cell? (i.add 0)=some (I b)/\∃ j,e=some j/\∃ (c:Int),h.cell? (j.add 0)=some (I c)/\(0<=B4 ((B4 (a+1))*c)/\B4 ((B4 (a+1))*c)<=(d:Int))/\(0<=B4 (a*b)/\B4 (a*b)<=(((B4 ((B4 (a+1))*c)).toNat:Nat):Int))/\K (.slice (J5 f d ((B4 (a*b)).toNat) 2) (((B4 ((B4 (a+1))*c)).toNat)-((B4 (a*b)).toNat)) (d-((B4 (a*b)).toNat))) h
theorem B0m(a:OA)(b:Int)(hvc:B5i Tryz.prog a b h K):FCall Tryz.prog Km #[.pointer a,I b] h K:=
 B7 Tryz.func76 (c:=C2 Tryz.f76) (by kernel_rfl) (rs:=[.tmp 4]) (by kernel_rfl) (fa:=⟨[],[],[(1,((Lrg 0 19),[[],[0],[0,1],[0,1,2],[],[],[5],[5,6],[5,6,7],[4,5,6,7,8],[],[10],[],[12],[12,13],[12,13,14],[10,11,12,13,14,15],(Lrg 0 17),(Lrg 0 18)]))],[],[]⟩)
  (cfg:=⟨23,[],none,[],[],false⟩) (args:=[.pointer a,I b]) (by kernel_rfl) Bodies.nil (Eq.mp (by kernel_rfl) hvc)
def B2q(P:Program)(e:OA)(c:Int)(d:Int)(h:Heap)(K:Value->Heap->Prop):Prop:=
 FCall P Km #[.pointer e,I c] h (fun b6 b7=>∃ (j:OA) (i b0:Nat),b6= .slice j i b0/\FCall P Km #[.pointer e,I d] b7 (fun b8 b9=>∃ (k:OA) (l b1:Nat),b8= .slice k l b1/\∃ (m:List Value->Heap->Prop) (p:List Value->Heap->Nat),m [I 0] b9/\
 ∀ (b:Int),∀ a,m [I b] a->Br (decide (b<(i:Int))) (∃ n,k=some n/\0<=b/\b<(l:Int)/\∃ (q:Bool) (r:OA) (s t:Nat),a.cell? (Addr.add (n.add (b.toNat*2)) 0)=some (.bool q)/\a.cell? (Addr.add (n.add (b.toNat*2)) 1)=some (.slice r s t)/\∃ o,j=some o/\0<=b/\b<(i:Int)/\∃ (u:Bool) (v:OA) (w x:Nat),a.cell? (Addr.add (o.add (b.toNat*2)) 0)=some (.bool u)/\a.cell? (Addr.add (o.add (b.toNat*2)) 1)=some (.slice v w x)/\∃ a2,j=some a2/\0<=b/\b<(i:Int)/\wpH P (Instr.storeAt 94 (.pointer (some (a2.add (b.toNat*2)))) (.agg #[.bool q,.slice r s t])) (fun _ c0=>∃ a3,k=some a3/\0<=b/\b<(l:Int)/\wpH P (Instr.storeAt 94 (.pointer (some (a3.add (b.toNat*2)))) (.agg #[.bool u,.slice v w x])) (fun _ a1=>m [I (B4 (b+1))] a1/\p [I (B4 (b+1))] a1<p [I b] a) c0) a)
 (∃ a4,e=some a4/\∃ (y:OA) (z b2:Nat),a.cell? (a4.add 2)=some (.slice y z b2)/\∃ a5,e=some a5/\∃ (A:OA) (B b3:Nat),a.cell? (a5.add 2)=some (.slice A B b3)/\∃ a6,e=some a6/\∃ (C:OA) (D b4:Nat),a.cell? (a6.add 2)=some (.slice C D b4)/\∃ f,C=some f/\0<=d/\d<(D:Int)/\∃ (E:Bool) (F:OA) (G H:Nat) (J:Bool) (L:OA) (M N:Nat),a.cell? (Addr.add (f.add (d.toNat*4)) 0)=some (.bool E)/\a.cell? (Addr.add (f.add (d.toNat*4)) 1)=some (.slice F G H)/\a.cell? (Addr.add (f.add (d.toNat*4)) 2)=some (.bool J)/\a.cell? (Addr.add (f.add (d.toNat*4)) 3)=some (.slice L M N)/\∃ a7,e=some a7/\∃ (O:OA) (Q b5:Nat),a.cell? (a7.add 2)=some (.slice O Q b5)/\∃ g,O=some g/\0<=c/\c<(Q:Int)/\∃ (R:Bool) (S:OA) (T V:Nat) (W:Bool) (X:OA) (Z a0:Nat),a.cell? (Addr.add (g.add (c.toNat*4)) 0)=some (.bool R)/\a.cell? (Addr.add (g.add (c.toNat*4)) 1)=some (.slice S T V)/\a.cell? (Addr.add (g.add (c.toNat*4)) 2)=some (.bool W)/\a.cell? (Addr.add (g.add (c.toNat*4)) 3)=some (.slice X Z a0)/\∃ a8,y=some a8/\0<=c/\c<(z:Int)/\wpH P (Instr.storeAt 101 (.pointer (some (a8.add (c.toNat*4)))) (.agg #[.bool E,.slice F G H,.bool J,.slice L M N])) (fun _ c1=>∃ a9,A=some a9/\0<=d/\d<(B:Int)/\wpH P (Instr.storeAt 101 (.pointer (some (a9.add (d.toNat*4)))) (.agg #[.bool R,.slice S T V,.bool W,.slice X Z a0])) (fun _ c2=>K (.tuple #[]) c2) c1) a)))
theorem A7h(a:OA)(b:Int)(d:Int)(hvc:B2q Tryz.prog a b d h K):FCall Tryz.prog Yg #[.pointer a,I b,I d] h K:=
 B7 Tryz.func102 (c:=C2 Tryz.f102) (by kernel_rfl) (rs:=[]) (by kernel_rfl) (fa:=⟨[(2,⟨[17],[],[.int .i64 0],⟨([8]++Lrg 17 18),[]⟩⟩)],[],[(4,((Lrg 0 16),[[],[],[],[],[],[],[4,5],[4,5,6],[],[],[8,9],[8,9,10],([0,1]++Lrg 4 8),([0,1]++Lrg 4 9),(Lrg 0 14),(Lrg 0 15)])),(6,((Lrg 0 28),[[],[0],[0,1],[0,1,2],[],[],[5],[5,6],[5,6,7],[],[],[10],[10,11],[10,11,12],[],[10,11,12,13,14],[10,11,12,13,14,15],[],[17],[17,18],[17,18,19],[],[17,18,19,20,21],[17,18,19,20,21,22],(Lrg 0 9++Lrg 10 14),(Lrg 0 9++Lrg 10 15),(Lrg 0 26),(Lrg 0 27)]))],[],[]⟩)
  (cfg:=⟨61,[],none,[76],[],false⟩) (args:=[.pointer a,I b,I d]) (by kernel_rfl) (B0 Tryz.call76 Bodies.nil) (Eq.mp (by kernel_rfl) hvc)
def B2r(P:Program)(i:OA)(t:Int)(c:Int)(h:Heap)(K:Value->Heap->Prop):Prop:=
 ∃ (d:List Value->Heap->Prop) (j:List Value->Heap->Nat),d [I t] h/\
 ∀ (a:Int),∀ b,d [I a] b->∃ s,i=some s/\∃ (u:OA) (k v:Nat),b.cell? (s.add 2)=some (.slice u k v)/\Br (decide (a<(k:Int))) (FCall P Km #[.pointer i,I a] b (fun x e=>∃ (l:OA) (m w:Nat),x= .slice l m w/\∃ g,l=some g/\0<=c/\c<(m:Int)/\∃ (n:Bool) (o:OA) (p q:Nat),e.cell? (Addr.add (g.add (c.toNat*2)) 0)=some (.bool n)/\e.cell? (Addr.add (g.add (c.toNat*2)) 1)=some (.slice o p q)/\FCall P F8 #[.agg #[.bool n,.slice o p q]] e (fun y f=>∃ (r:Bool),y= .bool r/\Br (!r) (K (.tuple #[I a,.bool true]) f)
 (d [I (B4 (a+1))] f/\j [I (B4 (a+1))] f<j [I a] b))))
 (K (.tuple #[I 0,.bool false]) b)
theorem A7i(a:OA)(b:Int)(d:Int)(hvc:B2r Tryz.prog a b d h K):FCall Tryz.prog Yh #[.pointer a,I b,I d] h K:=
 B7 Tryz.func101 (c:=C2 Tryz.f101) (by kernel_rfl) (rs:=[.tmp 6,.tmp 7]) (by kernel_rfl) (fa:=⟨[(2,⟨[8],[],[.int .i64 0],⟨([6,7,8]++Lrg 10 18),[]⟩⟩)],[],[],[],[]⟩)
  (cfg:=⟨28,[],none,[76,135],[],false⟩) (args:=[.pointer a,I b,I d]) (by kernel_rfl) (B0 Tryz.call76 (B0 Tryz.call135 Bodies.nil)) (Eq.mp (by kernel_rfl) hvc)
def A90(P:Program)(F:OA)(b4:Int)(b5:Int)(b:Int)(b6:Bool)(b7:OA)(b8 b9:Nat)(h:Heap)(K:Value->Heap->Prop):Prop:=
 FCall P Km #[.pointer F,I b4] h (fun c2 c3=>∃ (i:OA) (e c0:Nat),c2= .slice i e c0/\FCall P Km #[.pointer F,I b5] c3 (fun c4 v=>∃ (j:OA) (k c1:Nat),c4= .slice j k c1/\∃ A,i=some A/\0<=b/\b<(e:Int)/\∃ (m:Bool) (n:OA) (o p:Nat),v.cell? (Addr.add (A.add (b.toNat*2)) 0)=some (.bool m)/\v.cell? (Addr.add (A.add (b.toNat*2)) 1)=some (.slice n o p)/\∃ (f:List Value->Heap->Prop) (d:List Value->Heap->Nat),f [I 0] v/\
 ∀ (a:Int),∀ c,f [I a] c->Br (decide (a<(e:Int))) (∃ B,i=some B/\0<=a/\a<(e:Int)/\∃ (q:Bool) (r:OA) (s t:Nat),c.cell? (Addr.add (B.add (a.toNat*2)) 0)=some (.bool q)/\c.cell? (Addr.add (B.add (a.toNat*2)) 1)=some (.slice r s t)/\∃ (u:List Value->Heap->Prop),(FCall P F8 #[.agg #[.bool q,.slice r s t]] c (fun c5 a8=>∃ (G:Bool),c5= .bool G/\Br G (FCall P F8 #[.agg #[.bool m,.slice n o p]] a8 (fun c6 g=>∃ (H:Bool),c6= .bool H/\Br H (f [I (B4 (a+1))] g/\d [I (B4 (a+1))] g<d [I a] c)
 (∃ C,j=some C/\0<=a/\a<(k:Int)/\∃ (J:Bool) (L:OA) (M N:Nat),g.cell? (Addr.add (C.add (a.toNat*2)) 0)=some (.bool J)/\g.cell? (Addr.add (C.add (a.toNat*2)) 1)=some (.slice L M N)/\FCall P F8 #[.agg #[.bool J,.slice L M N]] g (fun c7 w=>∃ (O:Bool),c7= .bool O/\Br O (f [I (B4 (a+1))] w/\d [I (B4 (a+1))] w<d [I a] c)
 (u [] w)))))
 (u [] a8)))/\
 ∀ b2,u [] b2->wpH P (Instr.alloc 185 true (.tuple #[])) (fun c8 x=>∃ (l:Addr),c8= .pointer (some l)/\∃ D,j=some D/\0<=b/\b<(k:Int)/\∃ (Q:Bool) (R:OA) (S T:Nat),x.cell? (Addr.add (D.add (b.toNat*2)) 0)=some (.bool Q)/\x.cell? (Addr.add (D.add (b.toNat*2)) 1)=some (.slice R S T)/\FCall P Q8 #[.pointer (some l),.agg #[.bool Q,.slice R S T],.agg #[.bool q,.slice r s t]] x (fun c9 y=>c9= .tuple #[]/\∃ E,j=some E/\0<=a/\a<(k:Int)/\∃ (V:Bool) (W:OA) (X Z:Nat),y.cell? (Addr.add (E.add (a.toNat*2)) 0)=some (.bool V)/\y.cell? (Addr.add (E.add (a.toNat*2)) 1)=some (.slice W X Z)/\FCall P Cd #[.pointer (some l),.agg #[.bool m,.slice n o p],.agg #[.bool V,.slice W X Z]] y (fun d0 a9=>d0= .tuple #[]/\FCall P Lp #[.pointer (some l)] a9 (fun d1 z=>∃ (a0:Bool) (a1:OA) (a2 a3:Nat),d1= .agg #[.bool a0,.slice a1 a2 a3]/\Heap.le a9 z/\FCall P Ia #[.agg #[.bool a0,.slice a1 a2 a3],.agg #[.bool b6,.slice b7 b8 b9]] z (fun d2 b0=>∃ (a4:Bool) (a5:OA) (a6 a7:Nat),d2= .agg #[.bool a4,.slice a5 a6 a7]/\Heap.le z b0/\∃ b3,i=some b3/\0<=a/\a<(e:Int)/\wpH P (Instr.storeAt 94 (.pointer (some (b3.add (a.toNat*2)))) (.agg #[.bool a4,.slice a5 a6 a7])) (fun _ b1=>f [I (B4 (a+1))] b1/\d [I (B4 (a+1))] b1<d [I a] c) b0))))) b2)
 (K (.tuple #[]) c)))
theorem A5o(a:OA)(b:Int)(d:Int)(e:Int)(f:Bool)(g:OA)(i j:Nat)(hvc:A90 Tryz.prog a b d e f g i j h K):FCall Tryz.prog Sv #[.pointer a,I b,I d,I e,.agg #[.bool f,.slice g i j]] h K:=
 B7 Tryz.func104 (c:=C2 Tryz.f104) (by kernel_rfl) (rs:=[]) (by kernel_rfl) (fa:=⟨[(4,⟨[28],[],[.int .i64 0],⟨([13,14,15]++Lrg 28 37),[14]⟩⟩)],[(7,⟨[],[],[],⟨(Lrg 33 13),[]⟩⟩)],[(8,([0,1,2,3,4,5],[[],[],[0,1],[0,1,2],[],[0,1,2,3,4]])),(9,([0,1,2,3,4,5],[[],[],[],[1,2],[1,2,3],[0,1,2,3,4]])),(10,([0,1,3,2,4,5,6],[[],[],[],[],[2,3],[0,1,2,3,4],[0,1,2,3,4,5]]))],[],[]⟩)
  (cfg:=⟨65,[9,12,14],none,[76,135,136,150,151,160],[150,160],false⟩) (args:=[.pointer a,I b,I d,I e,.agg #[.bool f,.slice g i j]]) (by kernel_rfl) (B0 Tryz.call76 (B0 Tryz.call135 (B0 Tryz.call136 (B0 Tryz.call150 (B0 Tryz.call151 (B0 Tryz.call160 Bodies.nil)))))) (Eq.mp (by kernel_rfl) hvc)
def A5k(P:Program)(m:OA)(Z:Int)(h:Heap)(K:Value->Heap->Prop):Prop:=
 FCall P Qp #[I 1] h (fun a3 a4=>∃ (G:Bool) (H:OA) (J L:Nat),a3= .agg #[.bool G,.slice H J L]/\∃ (o:List Value->Heap->Prop) (p:List Value->Heap->Nat),o [.slice none 0 0,I 1,I 0,.bool G,.slice H J L] a4/\
 ∀ (e:OA) (b f:Nat) (d:Int) (a:Int) (g:Bool) (i:OA) (j k:Nat),∀ n,o [.slice e b f,I d,I a,.bool g,.slice i j k] n->Br (decide (a<Z)) (FCall P Yh #[.pointer m,I (b:Int),I a] n (fun a5 s=>∃ (t:Int) (M:Bool),a5= .tuple #[I t,.bool M]/\Br (!M) (o [.slice e b f,I d,I (B4 (a+1)),.bool g,.slice i j k] s/\p [.slice e b f,I d,I (B4 (a+1)),.bool g,.slice i j k] s<p [.slice e b f,I d,I a,.bool g,.slice i j k] n)
 (∃ (u:List Value->Heap->Prop),(Br (t != (b:Int)) (FCall P Yg #[.pointer m,I (b:Int),I t] s (fun a6 a7=>a6= .tuple #[]/\u [I (B4 (0-d))] a7))
 (u [I d] s))/\
 ∀ (v:Int),∀ E,u [I v] E->∃ X,m=some X/\∃ (a0:OA) (N a1:Nat),E.cell? (X.add 2)=some (.slice a0 N a1)/\∃ (q:List Value->Heap->Prop) (r:List Value->Heap->Nat),q [I 0] E/\
 ∀ (c:Int),∀ l,q [I c] l->Br (decide (c<(N:Int))) (Br (c != (b:Int)) (FCall P Sv #[.pointer m,I c,I (b:Int),I a,.agg #[.bool g,.slice i j k]] l (fun a8 V=>a8= .tuple #[]/\q [I (B4 (c+1))] V/\r [I (B4 (c+1))] V<r [I c] l))
 (q [I (B4 (c+1))] l/\r [I (B4 (c+1))] l<r [I c] l))
 (FCall P Km #[.pointer m,I (b:Int)] l (fun a9 D=>∃ (O:OA) (Q a2:Nat),a9= .slice O Q a2/\∃ F,O=some F/\0<=a/\a<(Q:Int)/\∃ (w:Bool) (x:OA) (y z:Nat),D.cell? (Addr.add (F.add (a.toNat*2)) 0)=some (.bool w)/\D.cell? (Addr.add (F.add (a.toNat*2)) 1)=some (.slice x y z)/\wpH P (Instr.buildSlice 27 1 #[(0,I a)]) (fun b0 b1=>∃ (R:OA) (S T:Nat),b0= .slice R S T/\wpH P (Builtin.append_ #[27,27] 27 #[.slice e b f,.slice R S T]) (fun b2 W=>∃ (A:OA) (B C:Nat),b2= .slice A B C/\o [.slice A B C,I v,I (B4 (a+1)),.bool w,.slice x y z] W/\p [.slice A B C,I v,I (B4 (a+1)),.bool w,.slice x y z] W<p [.slice e b f,I d,I a,.bool g,.slice i j k] n) b1) D)))))
 (K (.tuple #[.slice e b f,.agg #[.bool g,.slice i j k],I d]) n))
theorem A1s(a:OA)(b:Int)(hvc:A5k Tryz.prog a b h K):FCall Tryz.prog Dz #[.pointer a,I b] h K:=
 B7 Tryz.func69 (c:=C2 Tryz.f69) (by kernel_rfl) (rs:=[.tmp 4,.cell 5 94,.tmp 6]) (by kernel_rfl) (fa:=⟨[(4,⟨[7,9,17],[(8,2)],[.slice none 0 0,.int .i64 0,.int .i64 0,.bool false,.slice none 0 0],⟨([7,9,10,11,12,13,14]++Lrg 17 52),[8]⟩⟩),(13,⟨[45],[],[.int .i64 0],⟨([14]++Lrg 45 13),[]⟩⟩)],[(12,⟨[9],[],[.int .i64 0],⟨([9]++Lrg 31 9),[]⟩⟩)],[(21,([0,1,2,3,4,5],[[],[],[],[0],[0,1,3],[0,1,2,3,4]]))],[],[]⟩)
  (cfg:=⟨72,[5,8],none,[76,100,101,102,104],[102,104],false⟩) (args:=[.pointer a,I b]) (by kernel_rfl) (B0 Tryz.call76 (B0 Tryz.call100 (B0 Tryz.call101 (B0 Tryz.call102 (B0 Tryz.call104 Bodies.nil))))) (Eq.mp (by kernel_rfl) hvc)
def A8s(P:Program)(e:OA)(f g:Nat)(i:Int)(h:Heap)(K:Value->Heap->Prop):Prop:=
 wpH P (Instr.box 87 (.slice e f g)) (fun j k=>∃ (b:Addr),j= .pointer (some b)/\wpH P (Instr.box 3 (I i)) (fun l d=>∃ (a:Addr),l= .pointer (some a)/\∃ (c:Int),d.cell? a=some (I c)/\Br (decide (c<(1:Int))) (False)
 (K (.func (.func 174) #[] #[.pointer (some b),.pointer (some a)]) d)) k) h
theorem A5d(a:OA)(b d:Nat)(e:Int)(hvc:A8s Tryz.prog a b d e h K):FCall Tryz.prog Ls #[.slice a b d,I e] h K:=
 B7 Tryz.func131 (c:=C2 Tryz.f131) (by kernel_rfl) (rs:=[.tmp 4]) (by kernel_rfl) (fa:=⟨[],[],[],[],[]⟩)
  (cfg:=⟨9,[],none,[],[],false⟩) (args:=[.slice a b d,I e]) (by kernel_rfl) Bodies.nil (Eq.mp (by kernel_rfl) hvc)
def A5e(P:Program)(p:Nat)(f:Addr)(j:Addr)(h:Heap)(K:Value->Heap->Prop):Prop:=
 ∃ (g:List Value->Heap->Prop) (k:List Value->Heap->Nat),g [I 0] h/\
 ∀ (a:Int),∀ d,g [I a] d->∃ (q:OA) (l r:Nat),d.cell? f=some (.slice q l r)/\Br (decide (a<(l:Int))) (∃ (c:Int),d.cell? j=some (I c)/\∃ (s:OA) (b t:Nat),d.cell? f=some (.slice s b t)/\(0<=a/\a<=(b:Int))/\∃ (m:OA) (u n:Nat),d.cell? f=some (.slice m u n)/\(0<=B4 (a+(if ((b-(a.toNat):Nat):Int)<c then ((b-(a.toNat):Nat):Int) else c))/\B4 (a+(if ((b-(a.toNat):Nat):Int)<c then ((b-(a.toNat):Nat):Int) else c))<=(n:Int))/\(0<=B4 (a+(if ((b-(a.toNat):Nat):Int)<c then ((b-(a.toNat):Nat):Int) else c))/\B4 (a+(if ((b-(a.toNat):Nat):Int)<c then ((b-(a.toNat):Nat):Int) else c))<=(((B4 (a+(if ((b-(a.toNat):Nat):Int)<c then ((b-(a.toNat):Nat):Int) else c))).toNat:Nat):Int))/\(0<=a/\a<=(((B4 (a+(if ((b-(a.toNat):Nat):Int)<c then ((b-(a.toNat):Nat):Int) else c))).toNat:Nat):Int))/\YCall P p #[.slice (J5 m ((B4 (a+(if ((b-(a.toNat):Nat):Int)<c then ((b-(a.toNat):Nat):Int) else c))).toNat) (a.toNat) 4) ((B4 (a+(if ((b-(a.toNat):Nat):Int)<c then ((b-(a.toNat):Nat):Int) else c))).toNat-a.toNat) ((B4 (a+(if ((b-(a.toNat):Nat):Int)<c then ((b-(a.toNat):Nat):Int) else c))).toNat-a.toNat)] d (fun v e=>∃ (o:Bool),v= .bool o/\Br (!o) (K (.tuple #[]) e)
 (∃ (i:Int),e.cell? j=some (I i)/\g [I (B4 (a+i))] e/\k [I (B4 (a+i))] e<k [I a] d)))
 (K (.tuple #[]) d)
theorem A1q(a:Nat)(b:Addr)(d:Addr)(hvc:A5e Tryz.prog a b d h K):FCall Tryz.prog Dw #[.func (.yield a) #[] #[],.pointer (some b),.pointer (some d)] h K:=
 B7 Tryz.func174 (c:=C2 Tryz.f174) (by kernel_rfl) (rs:=[]) (by kernel_rfl) (fa:=⟨[(1,⟨[4],[],[.int .i64 0],⟨(Lrg 4 27),[]⟩⟩)],[],[(3,([0,1,2,3,4,5,6],[[],[],[],[1,2],[1,2,3],[0,1,2,3,4],[0,1,2,3,4,5]]))],[],[]⟩)
  (cfg:=⟨31,[],none,[],[],false⟩) (args:=[.func (.yield a) #[] #[],.pointer (some b),.pointer (some d)]) (by kernel_rfl) Bodies.nil (Eq.mp (by kernel_rfl) hvc)
theorem Tv:∀ (args:Array Value) (W:World),(callFunc Dw args).run Tryz.prog W= .ok (.enter Dw args) W:=Tryz.call174
def A8u(P:Program)(i:Int)(j:OA)(d k:Nat)(h:Heap)(K:Value->Heap->Prop):Prop:=
 ∃ (c:List Value->Heap->Prop) (e:List Value->Heap->Nat),c [I 0] h/\
 ∀ (a:Int),∀ b,c [I a] b->Br (decide (a<(d:Int))) (∃ g,j=some g/\0<=a/\a<(d:Int)/\∃ (f:ByteArray),b.cell? (g.add (a.toNat*1))=some (.string f)/\Br (decide (((ByteArray.size f:Nat):Int)>i)) (K (.bool false) b)
 (c [I (B4 (a+1))] b/\e [I (B4 (a+1))] b<e [I a] b))
 (K (.bool true) b)
theorem A5g(a:Int)(b:OA)(d e:Nat)(hvc:A8u Tryz.prog a b d e h K):FCall Tryz.prog St #[I a,.slice b d e] h K:=
 B7 Tryz.func22 (c:=C2 Tryz.f22) (by kernel_rfl) (rs:=[.tmp 4]) (by kernel_rfl) (fa:=⟨[(2,⟨[5],[],[.int .i64 0],⟨(Lrg 4 15),[]⟩⟩)],[],[],[],[]⟩)
  (cfg:=⟨19,[],none,[],[],false⟩) (args:=[I a,.slice b d e]) (by kernel_rfl) Bodies.nil (Eq.mp (by kernel_rfl) hvc)
def Ku(P:Program)(d:Int)(e:Int)(f:OA)(b g:Nat)(a:Int)(i:Int)(h:Heap)(K:Value->Heap->Prop):Prop:=
 Br (decide (d<=a)) (Br (decide (e<=a)) (Br (decide ((b:Int)<=(B4 ((B4 (a*a))+2)))) (FCall P St #[I i,.slice f b g] h (fun j k=>∃ (c:Bool),j= .bool c/\K (.bool c) k))
 (K (.bool false) h))
 (K (.bool false) h))
 (K (.bool false) h)
theorem Pa(a:Int)(b:Int)(d:OA)(e f:Nat)(g:Int)(i:Int)(hvc:Ku Tryz.prog a b d e f g i h K):FCall Tryz.prog O9 #[.agg #[I a,I b,.slice d e f],I g,I i] h K:=
 B7 Tryz.func48 (c:=C2 Tryz.f48) (by kernel_rfl) (rs:=[.tmp 6]) (by kernel_rfl) (fa:=⟨[],[],[],[],[]⟩)
  (cfg:=⟨33,[3],none,[22],[],false⟩) (args:=[.agg #[I a,I b,.slice d e f],I g,I i]) (by kernel_rfl) (B0 Tryz.call22 Bodies.nil) (Eq.mp (by kernel_rfl) hvc)
def A0g(P:Program)(l:OA)(c n:Nat)(m:OA)(e o:Nat)(h:Heap)(K:Value->Heap->Prop):Prop:=
 Br ((c:Int) != (e:Int)) (K (.bool false) h)
 (∃ (d:List Value->Heap->Prop) (f:List Value->Heap->Nat),d [I 0] h/\
 ∀ (a:Int),∀ b,d [I a] b->Br (decide (a<(c:Int))) (∃ j,l=some j/\0<=a/\a<(c:Int)/\∃ (g:ByteArray),b.cell? (j.add (a.toNat*1))=some (.string g)/\∃ k,m=some k/\0<=a/\a<(e:Int)/\∃ (i:ByteArray),b.cell? (k.add (a.toNat*1))=some (.string i)/\Br (!(ByteArray.toList g==ByteArray.toList i)) (K (.bool false) b)
 (d [I (B4 (a+1))] b/\f [I (B4 (a+1))] b<f [I a] b))
 (K (.bool true) b))
theorem Za(a:OA)(b d:Nat)(e:OA)(f g:Nat)(hvc:A0g Tryz.prog a b d e f g h K):FCall Tryz.prog Ff #[.slice a b d,.slice e f g] h K:=
 B7 Tryz.func25 (c:=C2 Tryz.f25) (by kernel_rfl) (rs:=[.tmp 4]) (by kernel_rfl) (fa:=⟨[(4,⟨[5],[],[.int .i64 0],⟨([4,5]++Lrg 11 15),[]⟩⟩)],[],[(6,((Lrg 0 9),[[],[],[0,1],[0,1,2],[],[],[4,5],[4,5,6],(Lrg 0 8)]))],[],[]⟩)
  (cfg:=⟨26,[],none,[],[],false⟩) (args:=[.slice a b d,.slice e f g]) (by kernel_rfl) Bodies.nil (Eq.mp (by kernel_rfl) hvc)
def B2o(P:Program)(l:OA)(c n:Nat)(m:OA)(e o:Nat)(h:Heap)(K:Value->Heap->Prop):Prop:=
 Br ((c:Int) != (e:Int)) (K (.bool false) h)
 (∃ (d:List Value->Heap->Prop) (f:List Value->Heap->Nat),d [I 0] h/\
 ∀ (a:Int),∀ b,d [I a] b->Br (decide (a<(c:Int))) (∃ j,l=some j/\0<=a/\a<(c:Int)/\∃ (g:Int),b.cell? (j.add (a.toNat*1))=some (I g)/\∃ k,m=some k/\0<=a/\a<(e:Int)/\∃ (i:Int),b.cell? (k.add (a.toNat*1))=some (I i)/\Br (g != i) (K (.bool false) b)
 (d [I (B4 (a+1))] b/\f [I (B4 (a+1))] b<f [I a] b))
 (K (.bool true) b))
theorem A7f(a:OA)(b d:Nat)(e:OA)(f g:Nat)(hvc:B2o Tryz.prog a b d e f g h K):FCall Tryz.prog Yf #[.slice a b d,.slice e f g] h K:=
 B7 Tryz.func21 (c:=C2 Tryz.f21) (by kernel_rfl) (rs:=[.tmp 4]) (by kernel_rfl) (fa:=⟨[(4,⟨[5],[],[.int .i64 0],⟨([4,5]++Lrg 11 15),[]⟩⟩)],[],[(6,((Lrg 0 9),[[],[],[0,1],[0,1,2],[],[],[4,5],[4,5,6],(Lrg 0 8)]))],[],[]⟩)
  (cfg:=⟨26,[],none,[],[],false⟩) (args:=[.slice a b d,.slice e f g]) (by kernel_rfl) Bodies.nil (Eq.mp (by kernel_rfl) hvc)
def Wp(P:Program)(b:Int)(c:Int)(d:OA)(e f:Nat)(g:Int)(i:Int)(j:OA)(k l:Nat)(h:Heap)(K:Value->Heap->Prop):Prop:=
 Br (b==g) (Br (c==i) (FCall P Ff #[.slice d e f,.slice j k l] h (fun m n=>∃ (a:Bool),m= .bool a/\K (.bool a) n))
 (K (.bool false) h))
 (K (.bool false) h)
theorem Wo(a:Int)(b:Int)(d:OA)(e f:Nat)(g:Int)(i:Int)(j:OA)(k l:Nat)(hvc:Wp Tryz.prog a b d e f g i j k l h K):FCall Tryz.prog P5 #[.agg #[I a,I b,.slice d e f],.agg #[I g,I i,.slice j k l]] h K:=
 B7 Tryz.func20 (c:=C2 Tryz.f20) (by kernel_rfl) (rs:=[.tmp 4]) (by kernel_rfl) (fa:=⟨[],[],[],[],[]⟩)
  (cfg:=⟨24,[2,3],none,[25],[],false⟩) (args:=[.agg #[I a,I b,.slice d e f],.agg #[I g,I i,.slice j k l]]) (by kernel_rfl) (B0 Tryz.call25 Bodies.nil) (Eq.mp (by kernel_rfl) hvc)
def A8t(P:Program) (h:Heap)(K:Value->Heap->Prop):Prop:=
 wpH P (Instr.buildSlice 22 4 #[(0,.string ({ data:=#[50] }:ByteArray)),(1,.string ({ data:=#[52] }:ByteArray)),(2,.string ({ data:=#[49] }:ByteArray)),(3,.string ({ data:=#[50] }:ByteArray))]) (fun D E=>∃ (b:OA) (c d:Nat),D= .slice b c d/\FCall P Nq #[.agg #[I 2,I 2,.slice b c d]] E (fun F G=>∃ (B:Int) (C:Int) (e:OA) (f g:Nat) (i:OA) (j k:Nat) (l:Int),F= .tuple #[.agg #[I B,I C,.slice e f g],.slice i j k,I l]/\wpH P (Instr.buildSlice 22 4 #[(0,.string ({ data:=#[49] }:ByteArray)),(1,.string ({ data:=#[50] }:ByteArray)),(2,.string ({ data:=#[51] }:ByteArray)),(3,.string ({ data:=#[52] }:ByteArray))]) (fun H J=>∃ (m:OA) (n o:Nat),H= .slice m n o/\FCall P A3u #[.agg #[I 2,I 2,.slice m n o]] J (fun L z=>∃ (p:ByteArray) (q:Int),L= .tuple #[.string p,I q]/\Br (l==(0:Int)) (wpH P (Instr.buildSlice 22 4 #[(0,.string ({ data:=#[49] }:ByteArray)),(1,.string ({ data:=#[50] }:ByteArray)),(2,.string ({ data:=#[48] }:ByteArray)),(3,.string ({ data:=#[48] }:ByteArray))]) (fun M N=>∃ (r:OA) (s t:Nat),M= .slice r s t/\FCall P Ff #[.slice e f g,.slice r s t] N (fun O A=>∃ (u:Bool),O= .bool u/\Br u (wpH P (Instr.buildSlice 27 1 #[(0,I 0)]) (fun Q R=>∃ (v:OA) (w x:Nat),Q= .slice v w x/\FCall P Yf #[.slice i j k,.slice v w x] R (fun S a=>∃ (y:Bool),S= .bool y/\Br y (Br (ByteArray.toList p==ByteArray.toList ({ data:=#[45,50] }:ByteArray)) (K (.bool (q==(0:Int))) a)
 (K (.bool false) a))
 (K (.bool false) a))) A)
 (K (.bool false) A))) z)
 (K (.bool false) z))) G)) h
theorem A5f (hvc:A8t Tryz.prog  h K):FCall Tryz.prog J9 #[] h K:=
 B7 Tryz.func14 (c:=C2 Tryz.f14) (by kernel_rfl) (rs:=[.tmp 0]) (by kernel_rfl) (fa:=⟨[],[],[],[],[]⟩)
  (cfg:=⟨42,[1,2],none,[15,21,25,37],[],false⟩) (args:=[]) (by kernel_rfl) (B0 Tryz.call15 (B0 Tryz.call21 (B0 Tryz.call25 (B0 Tryz.call37 Bodies.nil)))) (Eq.mp (by kernel_rfl) hvc)
def Oz(P:Program)(d:Int)(a:Int)(e:OA)(f g:Nat)(b:Int)(c:Int)(i:OA)(j k:Nat)(n:Int)(w:Int)(x:OA)(y z:Nat)(h:Heap)(K:Value->Heap->Prop):Prop:=
 FCall P O9 #[.agg #[I d,I a,.slice e f g],I 4,I 10] h (fun k2 j3=>∃ (D:Bool),k2= .bool D/\Br (!D) (FCall P J9 #[] j3 (fun k3 k4=>∃ (E:Bool),k3= .bool E/\K (.bool E) k4))
 (FCall P O9 #[.agg #[I b,I c,.slice i j k],I 4,I 10] j3 (fun k5 j4=>∃ (F:Bool),k5= .bool F/\Br (!F) (FCall P J9 #[] j4 (fun k6 k7=>∃ (G:Bool),k6= .bool G/\K (.bool G) k7))
 (FCall P O9 #[.agg #[I n,I w,.slice x y z],I 4,I 10] j4 (fun k8 j5=>∃ (H:Bool),k8= .bool H/\Br (!H) (FCall P J9 #[] j5 (fun k9 l0=>∃ (J:Bool),k9= .bool J/\K (.bool J) l0))
 (FCall P Fe #[.agg #[I d,I a,.slice e f g]] j5 (fun l1 j6=>∃ (L:Bool),l1= .bool L/\Br (!L) (FCall P J9 #[] j6 (fun l2 l3=>∃ (M:Bool),l2= .bool M/\K (.bool M) l3))
 (FCall P Fe #[.agg #[I b,I c,.slice i j k]] j6 (fun l4 j7=>∃ (N:Bool),l4= .bool N/\Br (!N) (FCall P J9 #[] j7 (fun l5 l6=>∃ (O:Bool),l5= .bool O/\K (.bool O) l6))
 (FCall P Fe #[.agg #[I n,I w,.slice x y z]] j7 (fun l7 j8=>∃ (Q:Bool),l7= .bool Q/\Br (!Q) (FCall P J9 #[] j8 (fun l8 l9=>∃ (R:Bool),l8= .bool R/\K (.bool R) l9))
 (FCall P Fp #[.agg #[I d,I a,.slice e f g],.agg #[I b,I c,.slice i j k]] j8 (fun m0 m1=>∃ (o:Int) (p:Int) (q:OA) (r s:Nat) (m:Int),m0= .tuple #[.agg #[I o,I p,.slice q r s],I m]/\FCall P Fp #[.agg #[I b,I c,.slice i j k],.agg #[I n,I w,.slice x y z]] m1 (fun m2 l=>∃ (S:Int) (T:Int) (V:OA) (W X:Nat) (A:Int),m2= .tuple #[.agg #[I S,I T,.slice V W X],I A]/\Br (!((m==(0:Int))==(a==b))) (K (.bool false) l)
 (Br (!((A==(0:Int))==(c==n))) (K (.bool false) l)
 (Br (m==(0:Int)) (Br (A==(0:Int)) (FCall P Fp #[.agg #[I o,I p,.slice q r s],.agg #[I n,I w,.slice x y z]] l (fun m3 m4=>∃ (Z:Int) (a0:Int) (a1:OA) (a2 a3:Nat) (a4:Int),m3= .tuple #[.agg #[I Z,I a0,.slice a1 a2 a3],I a4]/\FCall P Fp #[.agg #[I d,I a,.slice e f g],.agg #[I S,I T,.slice V W X]] m4 (fun m5 B=>∃ (a5:Int) (a6:Int) (a7:OA) (a8 a9:Nat) (b0:Int),m5= .tuple #[.agg #[I a5,I a6,.slice a7 a8 a9],I b0]/\Br (a4 != (0:Int)) (K (.bool false) B)
 (Br (b0 != (0:Int)) (K (.bool false) B)
 (FCall P P5 #[.agg #[I Z,I a0,.slice a1 a2 a3],.agg #[I a5,I a6,.slice a7 a8 a9]] B (fun m6 C=>∃ (b1:Bool),m6= .bool b1/\Br (!b1) (K (.bool false) C)
 (Br (m != (0:Int)) (FCall P J9 #[] C (fun m7 m8=>∃ (b2:Bool),m7= .bool b2/\K (.bool b2) m8))
 (FCall P E5 #[.agg #[I o,I p,.slice q r s]] C (fun m9 n0=>∃ (b3:Int) (b4:Int) (b5:OA) (b6 b7:Nat) (b8:Int),m9= .tuple #[.agg #[I b3,I b4,.slice b5 b6 b7],I b8]/\FCall P E5 #[.agg #[I b,I c,.slice i j k]] n0 (fun n1 n2=>∃ (b9:Int) (c0:Int) (c1:OA) (c2 c3:Nat) (c4:Int),n1= .tuple #[.agg #[I b9,I c0,.slice c1 c2 c3],I c4]/\FCall P E5 #[.agg #[I d,I a,.slice e f g]] n2 (fun n3 n4=>∃ (c5:Int) (c6:Int) (c7:OA) (c8 c9:Nat) (d0:Int),n3= .tuple #[.agg #[I c5,I c6,.slice c7 c8 c9],I d0]/\FCall P Fp #[.agg #[I b9,I c0,.slice c1 c2 c3],.agg #[I c5,I c6,.slice c7 c8 c9]] n4 (fun n5 t=>∃ (d1:Int) (d2:Int) (d3:OA) (d4 d5:Nat) (d6:Int),n5= .tuple #[.agg #[I d1,I d2,.slice d3 d4 d5],I d6]/\Br (b8==(0:Int)) (Br (c4==(0:Int)) (Br (d0==(0:Int)) (Br (d6==(0:Int)) (FCall P P5 #[.agg #[I b3,I b4,.slice b5 b6 b7],.agg #[I d1,I d2,.slice d3 d4 d5]] t (fun n6 j9=>∃ (d7:Bool),n6= .bool d7/\Br d7 (FCall P J9 #[] j9 (fun n7 n8=>∃ (d8:Bool),n7= .bool d8/\K (.bool d8) n8))
 (K (.bool false) j9)))
 (K (.bool false) t))
 (K (.bool false) t))
 (K (.bool false) t))
 (K (.bool false) t)))))))))))))
 (Br (m != (0:Int)) (FCall P J9 #[] l (fun n9 o0=>∃ (d9:Bool),n9= .bool d9/\K (.bool d9) o0))
 (FCall P E5 #[.agg #[I o,I p,.slice q r s]] l (fun o1 o2=>∃ (e0:Int) (e1:Int) (e2:OA) (e3 e4:Nat) (e5:Int),o1= .tuple #[.agg #[I e0,I e1,.slice e2 e3 e4],I e5]/\FCall P E5 #[.agg #[I b,I c,.slice i j k]] o2 (fun o3 o4=>∃ (e6:Int) (e7:Int) (e8:OA) (e9 f0:Nat) (f1:Int),o3= .tuple #[.agg #[I e6,I e7,.slice e8 e9 f0],I f1]/\FCall P E5 #[.agg #[I d,I a,.slice e f g]] o4 (fun o5 o6=>∃ (f2:Int) (f3:Int) (f4:OA) (f5 f6:Nat) (f7:Int),o5= .tuple #[.agg #[I f2,I f3,.slice f4 f5 f6],I f7]/\FCall P Fp #[.agg #[I e6,I e7,.slice e8 e9 f0],.agg #[I f2,I f3,.slice f4 f5 f6]] o6 (fun o7 u=>∃ (f8:Int) (f9:Int) (g0:OA) (g1 g2:Nat) (g3:Int),o7= .tuple #[.agg #[I f8,I f9,.slice g0 g1 g2],I g3]/\Br (e5==(0:Int)) (Br (f1==(0:Int)) (Br (f7==(0:Int)) (Br (g3==(0:Int)) (FCall P P5 #[.agg #[I e0,I e1,.slice e2 e3 e4],.agg #[I f8,I f9,.slice g0 g1 g2]] u (fun o8 k0=>∃ (g4:Bool),o8= .bool g4/\Br g4 (FCall P J9 #[] k0 (fun o9 p0=>∃ (g5:Bool),o9= .bool g5/\K (.bool g5) p0))
 (K (.bool false) k0)))
 (K (.bool false) u))
 (K (.bool false) u))
 (K (.bool false) u))
 (K (.bool false) u))))))))
 (Br (m != (0:Int)) (FCall P J9 #[] l (fun p1 p2=>∃ (g6:Bool),p1= .bool g6/\K (.bool g6) p2))
 (FCall P E5 #[.agg #[I o,I p,.slice q r s]] l (fun p3 p4=>∃ (g7:Int) (g8:Int) (g9:OA) (h0 h1:Nat) (h2:Int),p3= .tuple #[.agg #[I g7,I g8,.slice g9 h0 h1],I h2]/\FCall P E5 #[.agg #[I b,I c,.slice i j k]] p4 (fun p5 p6=>∃ (h3:Int) (h4:Int) (h5:OA) (h6 h7:Nat) (h8:Int),p5= .tuple #[.agg #[I h3,I h4,.slice h5 h6 h7],I h8]/\FCall P E5 #[.agg #[I d,I a,.slice e f g]] p6 (fun p7 p8=>∃ (h9:Int) (i0:Int) (i1:OA) (i2 i3:Nat) (i4:Int),p7= .tuple #[.agg #[I h9,I i0,.slice i1 i2 i3],I i4]/\FCall P Fp #[.agg #[I h3,I h4,.slice h5 h6 h7],.agg #[I h9,I i0,.slice i1 i2 i3]] p8 (fun p9 v=>∃ (i5:Int) (i6:Int) (i7:OA) (i8 i9:Nat) (j0:Int),p9= .tuple #[.agg #[I i5,I i6,.slice i7 i8 i9],I j0]/\Br (h2==(0:Int)) (Br (h8==(0:Int)) (Br (i4==(0:Int)) (Br (j0==(0:Int)) (FCall P P5 #[.agg #[I g7,I g8,.slice g9 h0 h1],.agg #[I i5,I i6,.slice i7 i8 i9]] v (fun q0 k1=>∃ (j1:Bool),q0= .bool j1/\Br j1 (FCall P J9 #[] k1 (fun q1 q2=>∃ (j2:Bool),q1= .bool j2/\K (.bool j2) q2))
 (K (.bool false) k1)))
 (K (.bool false) v))
 (K (.bool false) v))
 (K (.bool false) v))
 (K (.bool false) v)))))))))))))))))))))))
theorem Pz(a:Int)(b:Int)(d:OA)(e f:Nat)(g:Int)(i:Int)(j:OA)(k l:Nat)(m:Int)(n:Int)(o:OA)(p q:Nat)(hvc:Oz Tryz.prog a b d e f g i j k l m n o p q h K):FCall Tryz.prog If #[.agg #[I a,I b,.slice d e f],.agg #[I g,I i,.slice j k l],.agg #[I m,I n,.slice o p q]] h K:=
 B7 Tryz.func8 (c:=C2 Tryz.f8) (by kernel_rfl) (rs:=[.tmp 6]) (by kernel_rfl) (fa:=⟨[],[],[],[],[]⟩)
  (cfg:=⟨158,[3,4,5,7,9,11,13,15,17,19,21],none,[14,20,33,43,45,48],[],false⟩) (args:=[.agg #[I a,I b,.slice d e f],.agg #[I g,I i,.slice j k l],.agg #[I m,I n,.slice o p q]]) (by kernel_rfl) (B0 Tryz.call14 (B0 Tryz.call20 (B0 Tryz.call33 (B0 Tryz.call43 (B0 Tryz.call45 (B0 Tryz.call48 Bodies.nil)))))) (Eq.mp (by kernel_rfl) hvc)
end Go.Proofs.YthilnfgnpdeofaaGreatDoor
