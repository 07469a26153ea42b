/-
  Texts of this proof, merged by a program of ours.
-/
import Derived.Test.YthilnfgnpdeofaaGreatDoorProg
import Derived.Test.YthilnfgnpdeofaaGreatDoorG05
import Derived.Test.YthilnfgnpdeofaaGreatDoorG12
import Derived.Test.YthilnfgnpdeofaaGreatDoorG06
import Derived.Test.YthilnfgnpdeofaaGreatDoorG09
import Derived.Test.YthilnfgnpdeofaaGreatDoorG26
import Derived.Test.YthilnfgnpdeofaaGreatDoorG08
namespace Go.Proofs.YthilnfgnpdeofaaGreatDoor
open Go
set_option maxRecDepth 100000
set_option linter.unusedVariables false
variable {h:Heap} {K:Value->Heap->Prop}
abbrev Lb:Nat:=79
abbrev La:Nat:=81
abbrev I3:Nat:=132
abbrev Uk:Nat:=96
abbrev Ev:Nat:=133
abbrev Nt:Nat:=43
abbrev Dd:Nat:=108
abbrev Ey:Nat:=67
abbrev Dc:Nat:=71
abbrev B72:Nat:=49
abbrev Hs:Nat:=51
abbrev A8p:Nat:=54
abbrev A9y:Nat:=45
abbrev B73:Nat:=57
abbrev B71:Nat:=60
abbrev B30:Nat:=116
abbrev B58:Nat:=46
abbrev A1i:Nat:=33
abbrev B5a:Nat:=35
abbrev Ez:Nat:=94
abbrev Gi:Nat:=91
abbrev Pl:Nat:=15
abbrev B6b:Nat:=17
abbrev A1j:Nat:=37
abbrev Ld:Nat:=39
abbrev B57:Nat:=23
abbrev B43:Nat:=18
abbrev B1w:Nat:=41
abbrev B42:Nat:=80
abbrev A8o:Nat:=111
abbrev Y8:Nat:=82
abbrev Um:Nat:=92
abbrev Q4:Nat:=68
abbrev Fd:Nat:=76
abbrev Uq:Nat:=102
abbrev Ur:Nat:=101
abbrev Nw:Nat:=104
abbrev Ca:Nat:=69
abbrev B5i:Nat:=270
abbrev Nu:Nat:=131
abbrev Fa:Nat:=174
abbrev B1x:Nat:=74
abbrev B59:Nat:=141
abbrev B44:Nat:=113
abbrev Pk:Nat:=114
abbrev B6c:Nat:=164
abbrev B5c:Nat:=53
abbrev B6f:Nat:=27
abbrev B6g:Nat:=73
abbrev B5g:Nat:=89
abbrev B6d:Nat:=115
abbrev B6i:Nat:=105
abbrev B6e:Nat:=31
abbrev B5d:Nat:=93
abbrev B78:Nat:=29
abbrev B7a:Nat:=30
abbrev B32:Nat:=72
abbrev B76:Nat:=50
abbrev B1z:Nat:=52
abbrev B7t:Nat:=55
abbrev B02:Nat:=56
abbrev B33:Nat:=58
abbrev B5f:Nat:=61
abbrev B77:Nat:=34
abbrev B5h:Nat:=36
abbrev B45:Nat:=16
abbrev B79:Nat:=38
abbrev B47:Nat:=99
abbrev B31:Nat:=40
abbrev B6h:Nat:=78
abbrev B46:Nat:=19
abbrev B1y:Nat:=83
abbrev B5e:Nat:=24
abbrev B7s:Nat:=42
abbrev Uo:Nat:=22
abbrev Bi:Nat:=48
abbrev Gj:Nat:=25
abbrev A06:Nat:=21
abbrev Ht:Nat:=20
abbrev B01:Nat:=44
abbrev B74:Nat:=110
abbrev B5b:Nat:=47
abbrev B75:Nat:=64
abbrev Ba:Nat:=14
abbrev Un:Nat:=13
abbrev B00:Nat:=9
abbrev A5h:Nat:=10
abbrev A2t:Nat:=5
abbrev A5g:Nat:=3
abbrev A3m:Nat:=6
abbrev A7h:Nat:=4
abbrev A8q:Nat:=8
abbrev Yt:Nat:=12
abbrev Dp:Nat:=11
abbrev A9z:Nat:=7
abbrev Hb:Nat:=185
abbrev Of:Nat:=99
abbrev Kn:Nat:=90
abbrev B5n:Nat:=24
abbrev B5l:Nat:=126
abbrev A0y:Nat:=27
abbrev F1:Nat:=3
theorem B18:SliceT Tryz.prog A0y F1 (I 0) 1 8:=⟨by kernel_rfl,by kernel_rfl,rfl,by decide⟩
theorem Wb:Tryz.prog.cellsOf F1=1/\(Tryz.prog.info? F1).isSome=true:=⟨by kernel_rfl,by kernel_rfl⟩
abbrev S3:Nat:=87
abbrev E6:Nat:=101
theorem Zf:SliceT Tryz.prog S3 E6 (.agg #[.bool false,.slice none 0 0,.bool false,.slice none 0 0]) 4 64:=⟨by kernel_rfl,by kernel_rfl,rfl,by decide⟩
theorem Iq:Tryz.prog.cellsOf E6=4/\(Tryz.prog.info? E6).isSome=true:=⟨by kernel_rfl,by kernel_rfl⟩
abbrev Lr:Nat:=97
abbrev Cn:Nat:=94
theorem tZs:SliceT Tryz.prog Lr Cn (.agg #[.bool false,.slice none 0 0]) 2 32:=⟨by kernel_rfl,by kernel_rfl,rfl,by decide⟩
theorem Ti:Tryz.prog.cellsOf Cn=2/\(Tryz.prog.info? Cn).isSome=true:=⟨by kernel_rfl,by kernel_rfl⟩
abbrev B5m:Nat:=46
abbrev B38:Nat:=43
abbrev Im:Nat:=123
abbrev Rv:Nat:=126
theorem B5r:SliceT Tryz.prog Im Rv (.agg #[.slice none 0 0,.bool false,.slice none 0 0]) 3 56:=⟨by kernel_rfl,by kernel_rfl,rfl,by decide⟩
abbrev B37:Nat:=71
abbrev B12:Nat:=22
def A1w(P:Program)(x:OA)(c B:Nat)(h:Heap)(K:Value->Heap->Prop):Prop:=
 wpH P (Instr.makeSlice 87 (I (c:Int)) (I (c:Int))) (fun y z=>∃ (d:OA) (e g:Nat),y= .slice d e g/\∃ (f:List Value->Heap->Prop) (i:List Value->Heap->Nat),f [I 0] z/\
 ∀ (a:Int),∀ b,f [I a] b->Br (decide (a<(c:Int))) (∃ v,x=some v/\0<=a/\a<(c:Int)/\∃ (j:ByteArray),b.cell? (v.add (a.toNat*1))=some (.string j)/\FCall P A05 #[.string j] b (fun A t=>∃ (k:Bool) (l:OA) (m n:Nat) (o:Bool) (p:OA) (q r:Nat) (s:Bool),A= .tuple #[.agg #[.bool k,.slice l m n,.bool o,.slice p q r],.bool s]/\Br (!s) (K (.tuple #[.slice none 0 0,.bool false]) t)
 (∃ w,d=some w/\0<=a/\a<(e:Int)/\wpH P (Instr.storeAt 101 (.pointer (some (w.add (a.toNat*4)))) (.agg #[.bool k,.slice l m n,.bool o,.slice p q r])) (fun _ u=>f [I (B4 (a+1))] u/\i [I (B4 (a+1))] u<i [I a] b) t)))
 (K (.tuple #[.slice d e g,.bool true]) b)) h
theorem A0m(a:OA)(b d:Nat)(hvc:A1w Tryz.prog a b d h K):FCall Tryz.prog Lb #[.slice a b d] h K:=
 B8 Tryz.func79 (c:=C2 Tryz.f79) (by kernel_rfl) (rs:=[.tmp 2,.tmp 3]) (by kernel_rfl) (fa:=⟨[(3,⟨[14],[],[.int .i64 0],⟨([2,3,5,6,7,8]++Lrg 14 17),[7]⟩⟩)],[],[],[],[]⟩)
  (cfg:=⟨32,[7],none,[112],[],false⟩) (args:=[.slice a b d]) (by kernel_rfl) (B0 Tryz.call112 Bodies.nil) (Eq.mp (by kernel_rfl) hvc)
def A1v(P:Program)(v:OA)(d A:Nat)(h:Heap)(K:Value->Heap->Prop):Prop:=
 wpH P (Instr.makeSlice 22 (I (d:Int)) (I (d:Int))) (fun w x=>∃ (e:OA) (f i:Nat),w= .slice e f i/\∃ (g:List Value->Heap->Prop) (j:List Value->Heap->Nat),g [I 0] x/\
 ∀ (a:Int),∀ b,g [I a] b->Br (decide (a<(d:Int))) (∃ c,v=some c/\0<=a/\a<(d:Int)/\∃ (k:Bool) (l:OA) (m n:Nat) (o:Bool) (p:OA) (q r:Nat),b.cell? (Addr.add (c.add (a.toNat*4)) 0)=some (.bool k)/\b.cell? (Addr.add (c.add (a.toNat*4)) 1)=some (.slice l m n)/\b.cell? (Addr.add (c.add (a.toNat*4)) 2)=some (.bool o)/\b.cell? (Addr.add (c.add (a.toNat*4)) 3)=some (.slice p q r)/\FCall P Jq #[.agg #[.bool k,.slice l m n,.bool o,.slice p q r]] b (fun y z=>∃ (s:ByteArray),y= .string s/\∃ u,e=some u/\0<=a/\a<(f:Int)/\wpH P (Instr.storeAt 9 (.pointer (some (u.add (a.toNat*1)))) (.string s)) (fun _ t=>g [I (B4 (a+1))] t/\j [I (B4 (a+1))] t<j [I a] b) z))
 (K (.slice e f i) b)) h
theorem A0l(a:OA)(b d:Nat)(hvc:A1v Tryz.prog a b d h K):FCall Tryz.prog La #[.slice a b d] h K:=
 B8 Tryz.func81 (c:=C2 Tryz.f81) (by kernel_rfl) (rs:=[.tmp 2]) (by kernel_rfl) (fa:=⟨[(3,⟨[11],[],[.int .i64 0],⟨([4,5]++Lrg 11 11),[5]⟩⟩)],[],[],[],[]⟩)
  (cfg:=⟨23,[5],none,[95],[],false⟩) (args:=[.slice a b d]) (by kernel_rfl) (B0 Tryz.call95 Bodies.nil) (Eq.mp (by kernel_rfl) hvc)
def Be(P:Program)(C:OA)(u O:Nat)(h:Heap)(K:Value->Heap->Prop):Prop:=
 FCall P Ly #[I 1] h (fun H J=>∃ (v:Bool) (w:OA) (x y:Nat),H= .agg #[.bool v,.slice w x y]/\∃ (i:List Value->Heap->Prop) (g:List Value->Heap->Nat),i [I 0,.bool v,.slice w x y] J/\
 ∀ (a:Int) (b:Bool) (c:OA) (d e:Nat),∀ f,i [I a,.bool b,.slice c d e] f->Br (decide (a<(u:Int))) (∃ j,C=some j/\0<=a/\a<(u:Int)/\∃ (D:Bool) (E:OA) (F G:Nat) (k:Bool) (l:OA) (m n:Nat),f.cell? (Addr.add (j.add (a.toNat*4)) 0)=some (.bool D)/\f.cell? (Addr.add (j.add (a.toNat*4)) 1)=some (.slice E F G)/\f.cell? (Addr.add (j.add (a.toNat*4)) 2)=some (.bool k)/\f.cell? (Addr.add (j.add (a.toNat*4)) 3)=some (.slice l m n)/\FCall P G0 #[.agg #[.bool k,.slice l m n]] f (fun L s=>∃ (z:Bool),L= .bool z/\Br (!z) (FCall P Ui #[.agg #[.bool k,.slice l m n],.agg #[.bool b,.slice c d e]] s (fun M t=>∃ (A:Bool),M= .bool A/\Br (!A) (FCall P A5d #[.agg #[.bool b,.slice c d e],.agg #[.bool k,.slice l m n]] t (fun N B=>∃ (o:Bool) (p:OA) (q r:Nat),N= .agg #[.bool o,.slice p q r]/\i [I (B4 (a+1)),.bool o,.slice p q r] B/\g [I (B4 (a+1)),.bool o,.slice p q r] B<g [I a,.bool b,.slice c d e] f))
 (i [I (B4 (a+1)),.bool b,.slice c d e] t/\g [I (B4 (a+1)),.bool b,.slice c d e] t<g [I a,.bool b,.slice c d e] f)))
 (i [I (B4 (a+1)),.bool b,.slice c d e] s/\g [I (B4 (a+1)),.bool b,.slice c d e] s<g [I a,.bool b,.slice c d e] f)))
 (K (.agg #[.bool b,.slice c d e]) f))
theorem Fu(a:OA)(b d:Nat)(hvc:Be Tryz.prog a b d h K):FCall Tryz.prog I3 #[.slice a b d] h K:=
 B8 Tryz.func132 (c:=C2 Tryz.f132) (by kernel_rfl) (rs:=[.cell 2 94]) (by kernel_rfl) (fa:=⟨[(3,⟨[9],[(3,2)],[.int .i64 0,.bool false,.slice none 0 0],⟨([5]++Lrg 9 20),[3,5]⟩⟩)],[],[],[],[]⟩)
  (cfg:=⟨30,[2,3,5],none,[100,135,175,176],[],false⟩) (args:=[.slice a b d]) (by kernel_rfl) (B0 Tryz.call100 (B0 Tryz.call135 (B0 Tryz.call175 (B0 Tryz.call176 Bodies.nil)))) (Eq.mp (by kernel_rfl) hvc)
def B0g(P:Program)(a:Bool)(b:OA)(c d:Nat)(h:Heap)(K:Value->Heap->Prop):Prop:=
 K (.agg #[.bool a,.slice b c d,.bool false,.slice none 0 0]) h
theorem A6l(a:Bool)(b:OA)(d e:Nat)(hvc:B0g Tryz.prog a b d e h K):FCall Tryz.prog Uk #[.agg #[.bool a,.slice b d e]] h K:=
 B8 Tryz.func96 (c:=C2 Tryz.f96) (by kernel_rfl) (rs:=[.cell 2 101]) (by kernel_rfl) (fa:=⟨[],[],[],[],[]⟩)
  (cfg:=⟨5,[1,2],none,[],[],false⟩) (args:=[.agg #[.bool a,.slice b d e]]) (by kernel_rfl) Bodies.nil (Eq.mp (by kernel_rfl) hvc)
def A6u(P:Program)(c:Bool)(d:OA)(e f:Nat)(g:Bool)(i:OA)(j k:Nat)(l:Bool)(m:OA)(n o:Nat)(h:Heap)(K:Value->Heap->Prop):Prop:=
 FCall P G0 #[.agg #[.bool g,.slice i j k]] h (fun D a=>∃ (p:Bool),D= .bool p/\Br p (FCall P Lx #[.agg #[.bool c,.slice d e f],.agg #[.bool l,.slice m n o]] a (fun E F=>∃ (q:Bool) (r:OA) (s t:Nat),E= .agg #[.bool q,.slice r s t]/\K (.agg #[.bool q,.slice r s t]) F))
 (FCall P Jm #[.agg #[.bool l,.slice m n o],.agg #[.bool g,.slice i j k]] a (fun G b=>∃ (u:Bool) (v:OA) (w x:Nat),G= .agg #[.bool u,.slice v w x]/\Heap.le a b/\FCall P Lx #[.agg #[.bool c,.slice d e f],.agg #[.bool u,.slice v w x]] b (fun H C=>∃ (y:Bool) (z:OA) (A B:Nat),H= .agg #[.bool y,.slice z A B]/\Heap.le b C/\K (.agg #[.bool y,.slice z A B]) C))))
theorem A3e(a:Bool)(b:OA)(d e:Nat)(f:Bool)(g:OA)(i j:Nat)(k:Bool)(l:OA)(m n:Nat)(hvc:A6u Tryz.prog a b d e f g i j k l m n h K):FCall Tryz.prog Ev #[.agg #[.bool a,.slice b d e,.bool f,.slice g i j],.agg #[.bool k,.slice l m n]] h K:=
 B8 Tryz.func133 (c:=C2 Tryz.f133) (by kernel_rfl) (rs:=[.cell 4 94]) (by kernel_rfl) (fa:=⟨[],[],[(3,((Lrg 0 8),[[],[0],[],[],[3],[2,3,4],[0,1,2,3,4,5],[0,1,2,3,4,5,6]]))],[],[]⟩)
  (cfg:=⟨19,[2,3,4],none,[135,136,152],[],false⟩) (args:=[.agg #[.bool a,.slice b d e,.bool f,.slice g i j],.agg #[.bool k,.slice l m n]]) (by kernel_rfl) (B0 Tryz.call135 (B0 Tryz.call136 (B0 Tryz.call152 Bodies.nil))) (Eq.mp (by kernel_rfl) hvc)
def B0o(P:Program)(n:Int)(o:Int)(f:OA)(c p:Nat)(h:Heap)(K:Value->Heap->Prop):Prop:=
 FCall P Dd #[.agg #[I n,I o,.slice f c p]] h (fun q l=>∃ (g:Bool),q= .bool g/\Br (!g) (K (.bool false) l)
 (∃ (d:List Value->Heap->Prop) (i:List Value->Heap->Nat),d [I 0] l/\
 ∀ (a:Int),∀ b,d [I a] b->Br (decide (a<(c:Int))) (∃ m,f=some m/\0<=a/\a<(c:Int)/\∃ (j:ByteArray),b.cell? (m.add (a.toNat*1))=some (.string j)/\FCall P Ul #[.string j] b (fun r e=>∃ (k:Bool),r= .bool k/\Br (!k) (K (.bool false) e)
 (d [I (B4 (a+1))] e/\i [I (B4 (a+1))] e<i [I a] b)))
 (K (.bool true) b)))
theorem A6y(a:Int)(b:Int)(d:OA)(e f:Nat)(hvc:B0o Tryz.prog a b d e f h K):FCall Tryz.prog Nt #[.agg #[I a,I b,.slice d e f]] h K:=
 B8 Tryz.func43 (c:=C2 Tryz.f43) (by kernel_rfl) (rs:=[.tmp 2]) (by kernel_rfl) (fa:=⟨[(4,⟨[11],[],[.int .i64 0],⟨([2,4]++Lrg 11 8),[]⟩⟩)],[],[],[],[]⟩)
  (cfg:=⟨19,[1],none,[108,109],[],false⟩) (args:=[.agg #[I a,I b,.slice d e f]]) (by kernel_rfl) (B0 Tryz.call108 (B0 Tryz.call109 Bodies.nil)) (Eq.mp (by kernel_rfl) hvc)
def Yi(P:Program)(a:Int)(b:Int)(d:OA)(c e:Nat)(h:Heap)(K:Value->Heap->Prop):Prop:=
 Br (decide ((1:Int)<=a)) (Br (decide (a<=(64:Int))) (Br (decide ((1:Int)<=b)) (Br (decide (b<=(64:Int))) (K (.bool ((c:Int)==(B4 (a*b)))) h)
 (K (.bool false) h))
 (K (.bool false) h))
 (K (.bool false) h))
 (K (.bool false) h)
theorem Yh(a:Int)(b:Int)(d:OA)(e f:Nat)(hvc:Yi Tryz.prog a b d e f h K):FCall Tryz.prog Dd #[.agg #[I a,I b,.slice d e f]] h K:=
 B8 Tryz.func108 (c:=C2 Tryz.f108) (by kernel_rfl) (rs:=[.tmp 2]) (by kernel_rfl) (fa:=⟨[],[],[],[],[]⟩)
  (cfg:=⟨32,[1],none,[],[],false⟩) (args:=[.agg #[I a,I b,.slice d e f]]) (by kernel_rfl) Bodies.nil (Eq.mp (by kernel_rfl) hvc)
def B4s(P:Program)(k:Int)(l:Int)(a:OA)(b c:Nat)(h:Heap)(K:Value->Heap->Prop):Prop:=
 FCall P Dd #[.agg #[I k,I l,.slice a b c]] h (fun m j=>∃ (d:Bool),m= .bool d/\Br (!d) (K (.tuple #[.slice none 0 0,.bool false]) j)
 (FCall P Lb #[.slice a b c] j (fun n o=>∃ (e:OA) (f g:Nat) (i:Bool),n= .tuple #[.slice e f g,.bool i]/\K (.tuple #[.slice e f g,.bool i]) o)))
theorem A9e(a:Int)(b:Int)(d:OA)(e f:Nat)(hvc:B4s Tryz.prog a b d e f h K):FCall Tryz.prog Ey #[.agg #[I a,I b,.slice d e f]] h K:=
 B8 Tryz.func67 (c:=C2 Tryz.f67) (by kernel_rfl) (rs:=[.tmp 2,.tmp 3]) (by kernel_rfl) (fa:=⟨[],[],[],[],[]⟩)
  (cfg:=⟨12,[1],none,[79,108],[],false⟩) (args:=[.agg #[I a,I b,.slice d e f]]) (by kernel_rfl) (B0 Tryz.call79 (B0 Tryz.call108 Bodies.nil)) (Eq.mp (by kernel_rfl) hvc)
def B0n(P:Program)(d:Int)(e:Int)(f:OA)(g i:Nat)(h:Heap)(K:Value->Heap->Prop):Prop:=
 FCall P La #[.slice f g i] h (fun j k=>∃ (a:OA) (b c:Nat),j= .slice a b c/\K (.agg #[I d,I e,.slice a b c]) k)
theorem A6x(a:Int)(b:Int)(d:OA)(e f:Nat)(hvc:B0n Tryz.prog a b d e f h K):FCall Tryz.prog Dc #[I a,I b,.slice d e f] h K:=
 B8 Tryz.func71 (c:=C2 Tryz.f71) (by kernel_rfl) (rs:=[.cell 6 24]) (by kernel_rfl) (fa:=⟨[],[],[],[],[]⟩)
  (cfg:=⟨12,[6],none,[81],[],false⟩) (args:=[I a,I b,.slice d e f]) (by kernel_rfl) (B0 Tryz.call81 Bodies.nil) (Eq.mp (by kernel_rfl) hvc)
def Yg(P:Program)(b:Int)(h:Heap)(K:Value->Heap->Prop):Prop:=
 Br (decide (b<(1:Int))) (K (.tuple #[.agg #[I 0,I 0,.slice none 0 0],I 3]) h)
 (Br (decide (b>(64:Int))) (K (.tuple #[.agg #[I 0,I 0,.slice none 0 0],I 3]) h)
 (wpH P (Instr.buildSlice 22 1 #[(0,.string ({ data:=#[48] }:ByteArray))]) (fun o p=>∃ (g:OA) (i j:Nat),o= .slice g i j/\FCall P Pk #[.slice g i j,I (B4 (b*b))] p (fun q r=>∃ (d:OA) (e k:Nat),q= .slice d e k/\∃ (f:List Value->Heap->Prop) (l:List Value->Heap->Nat),f [I 0] r/\
 ∀ (a:Int),∀ c,f [I a] c->Br (decide (a<b)) (∃ n,d=some n/\0<=B4 ((B4 (a*b))+a)/\B4 ((B4 (a*b))+a)<(e:Int)/\wpH P (Instr.storeAt 9 (.pointer (some (n.add ((B4 ((B4 (a*b))+a)).toNat*1)))) (.string ({ data:=#[49] }:ByteArray))) (fun _ m=>f [I (B4 (a+1))] m/\l [I (B4 (a+1))] m<l [I a] c) c)
 (K (.tuple #[.agg #[I b,I b,.slice d e k],I 0]) c))) h))
theorem Yf(a:Int)(hvc:Yg Tryz.prog a h K):FCall Tryz.prog Hs #[I a] h K:=
 B8 Tryz.func51 (c:=C2 Tryz.f51) (by kernel_rfl) (rs:=[.cell 2 24,.tmp 3]) (by kernel_rfl) (fa:=⟨[(5,⟨[22],[],[.int .i64 0],⟨([5]++Lrg 22 12),[]⟩⟩)],[],[],[],[]⟩)
  (cfg:=⟨35,[2,4],none,[114],[],false⟩) (args:=[I a]) (by kernel_rfl) (B0 Tryz.call114 Bodies.nil) (Eq.mp (by kernel_rfl) hvc)
def MAt(P:Program)(e:Int)(b:Int)(f:OA)(g l:Nat)(c:Int)(d:Int)(h:Heap)(K:Value->Heap->Prop):Prop:=
 FCall P Nt #[.agg #[I e,I b,.slice f g l]] h (fun m a=>∃ (i:Bool),m= .bool i/\Br (!i) (K (.string ({ data:=#[48] }:ByteArray)) a)
 (Br (decide (c<(0:Int))) (K (.string ({ data:=#[48] }:ByteArray)) a)
 (Br (decide (c>=e)) (K (.string ({ data:=#[48] }:ByteArray)) a)
 (Br (decide (d<(0:Int))) (K (.string ({ data:=#[48] }:ByteArray)) a)
 (Br (decide (d>=b)) (K (.string ({ data:=#[48] }:ByteArray)) a)
 (∃ k,f=some k/\0<=B4 ((B4 (c*b))+d)/\B4 ((B4 (c*b))+d)<(g:Int)/\∃ (j:ByteArray),a.cell? (k.add ((B4 ((B4 (c*b))+d)).toNat*1))=some (.string j)/\K (.string j) a))))))
theorem B4u(a:Int)(b:Int)(d:OA)(e f:Nat)(g:Int)(i:Int)(hvc:MAt Tryz.prog a b d e f g i h K):FCall Tryz.prog A8p #[.agg #[I a,I b,.slice d e f],I g,I i] h K:=
 B8 Tryz.func54 (c:=C2 Tryz.f54) (by kernel_rfl) (rs:=[.tmp 6]) (by kernel_rfl) (fa:=⟨[],[],[],[],[]⟩)
  (cfg:=⟨40,[3],none,[43],[],false⟩) (args:=[.agg #[I a,I b,.slice d e f],I g,I i]) (by kernel_rfl) (B0 Tryz.call43 Bodies.nil) (Eq.mp (by kernel_rfl) hvc)
def B7m(P:Program)(q:Int)(c:Int)(c9:OA)(d0 d1:Nat)(j:Int)(k:Int)(d2:OA)(d3 d4:Nat)(h:Heap)(K:Value->Heap->Prop):Prop:=
 FCall P Ey #[.agg #[I q,I c,.slice c9 d0 d1]] h (fun d7 d8=>∃ (z:OA) (A B:Nat) (C:Bool),d7= .tuple #[.slice z A B,.bool C]/\FCall P Ey #[.agg #[I j,I k,.slice d2 d3 d4]] d8 (fun d9 o=>∃ (D:OA) (E F:Nat) (G:Bool),d9= .tuple #[.slice D E F,.bool G]/\Br (!C) (K (.tuple #[.agg #[I 0,I 0,.slice none 0 0],I 1]) o)
 (Br (!G) (K (.tuple #[.agg #[I 0,I 0,.slice none 0 0],I 1]) o)
 (Br (c != j) (K (.tuple #[.agg #[I 0,I 0,.slice none 0 0],I 4]) o)
 (FCall P Gi #[.slice z A B,I c] o (fun e0 c6=>∃ (H:OA) (r d5:Nat),e0= .slice H r d5/\FCall P Y8 #[.slice D E F,I j,I k] c6 (fun e1 y=>∃ (J:OA) (L M:Nat),e1= .slice J L M/\Heap.le c6 y/\FCall P Gi #[.slice J L M,I j] y (fun e2 c7=>∃ (N:OA) (s d6:Nat),e2= .slice N s d6/\Heap.le y c7/\wpH P (Instr.makeSlice 87 (I 0) (I (B4 (q*k)))) (fun e3 e4=>∃ (O:OA) (Q R:Nat),e3= .slice O Q R/\∃ (t:List Value->Heap->Prop) (S:List Value->Heap->Nat),t [.slice O Q R,I 0] e4/\
 ∀ (l:OA) (m n:Nat) (a:Int),∀ e,t [.slice l m n,I a] e->Br (decide (a<(r:Int))) (∃ p,H=some p/\0<=a/\a<(r:Int)/\∃ (T:OA) (V W:Nat) (X:Bool) (Z:OA) (a0 a1:Nat),e.cell? (Addr.add (p.add (a.toNat*3)) 0)=some (.slice T V W)/\e.cell? (Addr.add (p.add (a.toNat*3)) 1)=some (.bool X)/\e.cell? (Addr.add (p.add (a.toNat*3)) 2)=some (.slice Z a0 a1)/\∃ (u:List Value->Heap->Prop) (a2:List Value->Heap->Nat),u [.slice l m n,I 0] e/\
 ∀ (f:OA) (g i:Nat) (b:Int),∀ d,u [.slice f g i,I b] d->Br (decide (b<(s:Int))) (∃ c,N=some c/\0<=b/\b<(s:Int)/\∃ (a3:OA) (a4 a5:Nat) (a6:Bool) (a7:OA) (a8 a9:Nat),d.cell? (Addr.add (c.add (b.toNat*3)) 0)=some (.slice a3 a4 a5)/\d.cell? (Addr.add (c.add (b.toNat*3)) 1)=some (.bool a6)/\d.cell? (Addr.add (c.add (b.toNat*3)) 2)=some (.slice a7 a8 a9)/\FCall P Um #[.agg #[.slice T V W,.bool X,.slice Z a0 a1],.agg #[.slice a3 a4 a5,.bool a6,.slice a7 a8 a9]] d (fun e5 e6=>∃ (b0:Bool) (b1:OA) (b2 b3:Nat) (b4:Bool) (b5:OA) (b6 b7:Nat),e5= .agg #[.bool b0,.slice b1 b2 b3,.bool b4,.slice b5 b6 b7]/\wpH P (Instr.buildSlice 87 1 #[(0,.agg #[.bool b0,.slice b1 b2 b3,.bool b4,.slice b5 b6 b7])]) (fun e7 e8=>∃ (b8:OA) (b9 c0:Nat),e7= .slice b8 b9 c0/\wpH P (Builtin.append_ #[87,87] 87 #[.slice f g i,.slice b8 b9 c0]) (fun e9 c8=>∃ (v:OA) (w x:Nat),e9= .slice v w x/\u [.slice v w x,I (B4 (b+1))] c8/\a2 [.slice v w x,I (B4 (b+1))] c8<a2 [.slice f g i,I b] d) e8) e6))
 (t [.slice f g i,I (B4 (a+1))] d/\S [.slice f g i,I (B4 (a+1))] d<S [.slice l m n,I a] e))
 (FCall P Dc #[I q,I k,.slice l m n] e (fun f0 f1=>∃ (c1:Int) (c2:Int) (c3:OA) (c4 c5:Nat),f0= .agg #[I c1,I c2,.slice c3 c4 c5]/\K (.tuple #[.agg #[I c1,I c2,.slice c3 c4 c5],I 0]) f1))) c7))))))))
theorem B2o(a:Int)(b:Int)(d:OA)(e f:Nat)(g:Int)(i:Int)(j:OA)(k l:Nat)(hvc:B7m Tryz.prog a b d e f g i j k l h K):FCall Tryz.prog A1i #[.agg #[I a,I b,.slice d e f],.agg #[I g,I i,.slice j k l]] h K:=
 B8 Tryz.func33 (c:=C2 Tryz.f33) (by kernel_rfl) (rs:=[.cell 4 24,.tmp 5]) (by kernel_rfl) (fa:=⟨[(11,⟨[12,61],[],[.slice none 0 0,.int .i64 0],⟨([12,14,16]++Lrg 61 18),[14,16]⟩⟩),(14,⟨[12,67],[],[.slice none 0 0,.int .i64 0],⟨([12,16]++Lrg 67 11),[16]⟩⟩)],[],[(8,([0,1,2,3,4,6,7,5,8,9],[[],[],[1],[],[3],[0,1,2,3,4],[],[6],(Lrg 0 8),(Lrg 0 9)]))],[],[]⟩)
  (cfg:=⟨85,[2,3,4,14,16],none,[67,71,82,91,92],[],false⟩) (args:=[.agg #[I a,I b,.slice d e f],.agg #[I g,I i,.slice j k l]]) (by kernel_rfl) (B0 Tryz.call67 (B0 Tryz.call71 (B0 Tryz.call82 (B0 Tryz.call91 (B0 Tryz.call92 Bodies.nil))))) (Eq.mp (by kernel_rfl) hvc)
def Sy(P:Program)(i:OA)(c z:Nat)(h:Heap)(K:Value->Heap->Prop):Prop:=
 (wpH P (Instr.makeSlice 97 (I (c:Int)) (I (c:Int))) (fun b5 x=>∃ (j:OA) (k A:Nat),b5= .slice j k A/\Heap.le h x/\FCall P I3 #[.slice i c z] x (fun b6 a7=>∃ (l:Bool) (m:OA) (n o:Nat),b6= .agg #[.bool l,.slice m n o]/\Heap.le x a7/\∃ (p:List Value->Heap->Prop) (B:List Value->Heap->Nat),p [I 0] a7/\
 ∀ (a:Int),∀ d,p [I a] d->Br (decide (a<(c:Int))) (∃ f,i=some f/\0<=a/\a<(c:Int)/\∃ (C:Bool) (D:OA) (E F:Nat) (G:Bool) (H:OA) (J L:Nat),d.cell? (Addr.add (f.add (a.toNat*4)) 0)=some (.bool C)/\d.cell? (Addr.add (f.add (a.toNat*4)) 1)=some (.slice D E F)/\d.cell? (Addr.add (f.add (a.toNat*4)) 2)=some (.bool G)/\d.cell? (Addr.add (f.add (a.toNat*4)) 3)=some (.slice H J L)/\FCall P Ev #[.agg #[.bool C,.slice D E F,.bool G,.slice H J L],.agg #[.bool l,.slice m n o]] d (fun b7 a8=>∃ (M:Bool) (N:OA) (O Q:Nat),b7= .agg #[.bool M,.slice N O Q]/\Heap.le d a8/\∃ b3,j=some b3/\0<=a/\a<(k:Int)/\wpH P (Instr.storeAt 94 (.pointer (some (b3.add (a.toNat*2)))) (.agg #[.bool M,.slice N O Q])) (fun _ a9=>p [I (B4 (a+1))] a9/\B [I (B4 (a+1))] a9<B [I a] d) a8))
 (K (.agg #[.slice j k A,.bool l,.slice m n o]) d))) h)/\(FCall P I3 #[.slice i c z] h (fun b8 y=>∃ (q:Bool) (r:OA) (s t:Nat),b8= .agg #[.bool q,.slice r s t]/\Heap.le h y/\wpH P (Instr.makeSlice 97 (I (c:Int)) (I (c:Int))) (fun b9 b0=>∃ (u:OA) (v R:Nat),b9= .slice u v R/\Heap.le y b0/\∃ (w:List Value->Heap->Prop) (S:List Value->Heap->Nat),w [I 0] b0/\
 ∀ (b:Int),∀ e,w [I b] e->Br (decide (b<(c:Int))) (∃ g,i=some g/\0<=b/\b<(c:Int)/\∃ (T:Bool) (V:OA) (W X:Nat) (Z:Bool) (a0:OA) (a1 a2:Nat),e.cell? (Addr.add (g.add (b.toNat*4)) 0)=some (.bool T)/\e.cell? (Addr.add (g.add (b.toNat*4)) 1)=some (.slice V W X)/\e.cell? (Addr.add (g.add (b.toNat*4)) 2)=some (.bool Z)/\e.cell? (Addr.add (g.add (b.toNat*4)) 3)=some (.slice a0 a1 a2)/\FCall P Ev #[.agg #[.bool T,.slice V W X,.bool Z,.slice a0 a1 a2],.agg #[.bool q,.slice r s t]] e (fun c0 b1=>∃ (a3:Bool) (a4:OA) (a5 a6:Nat),c0= .agg #[.bool a3,.slice a4 a5 a6]/\Heap.le e b1/\∃ b4,u=some b4/\0<=b/\b<(v:Int)/\wpH P (Instr.storeAt 94 (.pointer (some (b4.add (b.toNat*2)))) (.agg #[.bool a3,.slice a4 a5 a6])) (fun _ b2=>w [I (B4 (b+1))] b2/\S [I (B4 (b+1))] b2<S [I b] e) b1))
 (K (.agg #[.slice u v R,.bool q,.slice r s t]) e)) y))
theorem Vm(a:OA)(b d:Nat)(hvc:Sy Tryz.prog a b d h K):FCall Tryz.prog Ez #[.slice a b d] h K:=
 B8 Tryz.func94 (c:=C2 Tryz.f94) (by kernel_rfl) (rs:=[.cell 2 126]) (by kernel_rfl) (fa:={ loops:=[(3,⟨[14],[],[.int .i64 0],⟨([4,5]++Lrg 14 14),[5]⟩⟩)],cuts:=[],orders:=[(1,([0,1,3,6,2,4,5,7],[[],[0],[0,1],[],[3],[0,1,2,3,4],[],[0,1,2,3,4,5,6]])),(5,((Lrg 0 9),[[],[0],[],[],[],[4],[3,4,5],[0,1,2,3,4,5,6],(Lrg 0 8)]))],alts:=[(1,[(2,[4])])] })
  (cfg:=⟨29,[2,3,5],none,[132,133],[],false⟩) (args:=[.slice a b d]) (by kernel_rfl) (B0 Tryz.call132 (B0 Tryz.call133 Bodies.nil)) (Eq.mp (by kernel_rfl) hvc)
def A1z(P:Program)(D:OA)(E F:Nat)(G:Int)(h:Heap)(K:Value->Heap->Prop):Prop:=
 wpH P (Instr.alloc 123 true (.tuple #[])) (fun L M=>∃ (a:Addr),L= .pointer (some a)/\FCall P Nu #[.slice D E F,I G] M (fun N O=>∃ (d:Value),N=d/\Yc P (d) O (fun (H:List Value) (b:Heap) (J:Heap->Prop)=>∃ (e:OA) (f g:Nat),H=[.slice e f g]/\∃ (i:OA) (j k:Nat),b.cell? a=some (.slice i j k)/\FCall P Ez #[.slice e f g] b (fun Q c=>∃ (l:OA) (m n:Nat) (o:Bool) (p:OA) (q r:Nat),Q= .agg #[.slice l m n,.bool o,.slice p q r]/\Heap.le b c/\wpH P (Instr.buildSlice 123 1 #[(0,.agg #[.slice l m n,.bool o,.slice p q r])]) (fun R B=>∃ (s:OA) (t u:Nat),R= .slice s t u/\Heap.le c B/\wpH P (Builtin.append_ #[123,123] 123 #[.slice i j k,.slice s t u]) (fun S T=>∃ (v:OA) (w x:Nat),S= .slice v w x/\wpH P (Instr.storeAt 123 (.pointer (some a)) (.slice v w x)) (fun _ V=>J V) T) B) c))
 (fun C=>∃ (y:OA) (z A:Nat),C.cell? a=some (.slice y z A)/\K (.slice y z A) C))) h
theorem A0p(a:OA)(b d:Nat)(e:Int)(hvc:A1z Tryz.prog a b d e h K):FCall Tryz.prog Gi #[.slice a b d,I e] h K:=
 B8 Tryz.func91 (c:=C2 Tryz.f91) (by kernel_rfl) (rs:=[.tmp 4]) (by kernel_rfl) (fa:={ loops:=[],cuts:=[],orders:=[(4,([0,1,2,3,4,5],[[],[],[1],[1,2],[0,1,2,3],[0,1,2,3,4]]))],rounds:=[(4,[.slice none 0 0])] })
  (cfg:=⟨17,[],none,[94,131],[1000000000],false⟩) (args:=[.slice a b d,I e]) (by kernel_rfl) (B0 Tryz.call94 (B0 Tryz.call131 Bodies.nil)) (Eq.mp (by kernel_rfl) hvc)
def A71(P:Program)(l:Int)(c:Int)(W:OA)(X Z:Nat)(h:Heap)(K:Value->Heap->Prop):Prop:=
 FCall P Ey #[.agg #[I l,I c,.slice W X Z]] h (fun a2 Q=>∃ (d:OA) (e f:Nat) (m:Bool),a2= .tuple #[.slice d e f,.bool m]/\Br (!m) (K (.tuple #[.agg #[I 0,I 0,.slice none 0 0],.slice none 0 0,I 1]) Q)
 (FCall P Q4 #[.slice d e f,I c] Q (fun a3 a4=>∃ (g:OA),a3= .pointer g/\FCall P Ca #[.pointer g,I c] a4 (fun a5 R=>∃ (n:OA) (o p:Nat) (q:Bool) (r:OA) (s t:Nat) (a0:Int),a5= .tuple #[.slice n o p,.agg #[.bool q,.slice r s t],I a0]/\∃ T,g=some T/\∃ (u:OA) (i a1:Nat),R.cell? (T.add 1)=some (.slice u i a1)/\∃ (j:List Value->Heap->Prop) (v:List Value->Heap->Nat),j [I 0] R/\
 ∀ (a:Int),∀ b,j [I a] b->Br (decide (a<(i:Int))) (∃ k,u=some k/\0<=a/\a<(i:Int)/\∃ (w:Bool) (x:OA) (y z:Nat),b.cell? (Addr.add (k.add (a.toNat*2)) 0)=some (.bool w)/\b.cell? (Addr.add (k.add (a.toNat*2)) 1)=some (.slice x y z)/\FCall P L8 #[.agg #[.bool w,.slice x y z],.agg #[.bool q,.slice r s t]] b (fun a6 a7=>∃ (A:Bool) (B:OA) (C D:Nat) (E:Bool) (F:OA) (G H:Nat),a6= .agg #[.bool A,.slice B C D,.bool E,.slice F G H]/\∃ V,d=some V/\0<=a/\a<(e:Int)/\wpH P (Instr.storeAt 101 (.pointer (some (V.add (a.toNat*4)))) (.agg #[.bool A,.slice B C D,.bool E,.slice F G H])) (fun _ S=>j [I (B4 (a+1))] S/\v [I (B4 (a+1))] S<v [I a] b) a7))
 (FCall P Dc #[I l,I c,.slice d e f] b (fun a8 a9=>∃ (J:Int) (L:Int) (M:OA) (N O:Nat),a8= .agg #[I J,I L,.slice M N O]/\K (.tuple #[.agg #[I J,I L,.slice M N O],.slice n o p,I 0]) a9))))))
theorem A3g(a:Int)(b:Int)(d:OA)(e f:Nat)(hvc:A71 Tryz.prog a b d e f h K):FCall Tryz.prog Pl #[.agg #[I a,I b,.slice d e f]] h K:=
 B8 Tryz.func15 (c:=C2 Tryz.f15) (by kernel_rfl) (rs:=[.cell 2 24,.tmp 3,.tmp 4]) (by kernel_rfl) (fa:=⟨[(7,⟨[38],[],[.int .i64 0],⟨([11,12]++Lrg 38 12),[12]⟩⟩)],[],[],[],[]⟩)
  (cfg:=⟨57,[1,2,9,12],none,[67,68,69,70,71],[69],false⟩) (args:=[.agg #[I a,I b,.slice d e f]]) (by kernel_rfl) (B0 Tryz.call67 (B0 Tryz.call68 (B0 Tryz.call69 (B0 Tryz.call70 (B0 Tryz.call71 Bodies.nil))))) (Eq.mp (by kernel_rfl) hvc)
def B7n(P:Program)(n:Int)(d:Int)(d0:OA)(d1 d2:Nat)(h:Heap)(K:Value->Heap->Prop):Prop:=
 FCall P Ey #[.agg #[I n,I d,.slice d0 d1 d2]] h (fun d6 J=>∃ (M:OA) (N O:Nat) (Q:Bool),d6= .tuple #[.slice M N O,.bool Q]/\Br (!Q) (K (.tuple #[.string ({ data:=#[] }:ByteArray),I 1]) J)
 (Br (n != d) (K (.tuple #[.string ({ data:=#[] }:ByteArray),I 4]) J)
 (FCall P Q4 #[.slice M N O,I d] J (fun d7 d8=>∃ (o:OA),d7= .pointer o/\FCall P Ca #[.pointer o,I d] d8 (fun d9 c6=>∃ (d3:OA) (R d4:Nat) (S:Bool) (T:OA) (V W:Nat) (X:Int),d9= .tuple #[.slice d3 R d4,.agg #[.bool S,.slice T V W],I X]/\Br (decide ((R:Int)<n)) (K (.tuple #[.string ({ data:=#[48] }:ByteArray),I 0]) c6)
 (FCall P Uk #[.agg #[.bool S,.slice T V W]] c6 (fun e0 c7=>∃ (p:Bool) (q:OA) (r s:Nat) (t:Bool) (u:OA) (v w:Nat),e0= .agg #[.bool p,.slice q r s,.bool t,.slice u v w]/\∃ (x:List Value->Heap->Prop),(Br (decide (X<(0:Int))) (FCall P A5f #[.agg #[.bool p,.slice q r s,.bool t,.slice u v w]] c7 (fun e1 e2=>∃ (Z:Bool) (a0:OA) (a1 a2:Nat) (a3:Bool) (a4:OA) (a5 a6:Nat),e1= .agg #[.bool Z,.slice a0 a1 a2,.bool a3,.slice a4 a5 a6]/\x [.bool Z,.slice a0 a1 a2,.bool a3,.slice a4 a5 a6] e2))
 (x [.bool p,.slice q r s,.bool t,.slice u v w] c7))/\
 ∀ (a7:Bool) (a8:OA) (a9 b0:Nat) (b1:Bool) (b2:OA) (b3 b4:Nat),∀ L,x [.bool a7,.slice a8 a9 b0,.bool b1,.slice b2 b3 b4] L->∃ c9,o=some c9/\∃ (b5:OA) (y d5:Nat),L.cell? (c9.add 2)=some (.slice b5 y d5)/\∃ (z:List Value->Heap->Prop) (b6:List Value->Heap->Nat),z [I 0,.bool a7,.slice a8 a9 b0,.bool b1,.slice b2 b3 b4] L/\
 ∀ (a:Int) (e:Bool) (f:OA) (g i:Nat) (j:Bool) (k:OA) (l m:Nat),∀ b,z [I a,.bool e,.slice f g i,.bool j,.slice k l m] b->Br (decide (a<(y:Int))) (∃ c,b5=some c/\0<=a/\a<(y:Int)/\∃ (b7:Bool) (b8:OA) (b9 c0:Nat) (c1:Bool) (c2:OA) (c3 c4:Nat),b.cell? (Addr.add (c.add (a.toNat*4)) 0)=some (.bool b7)/\b.cell? (Addr.add (c.add (a.toNat*4)) 1)=some (.slice b8 b9 c0)/\b.cell? (Addr.add (c.add (a.toNat*4)) 2)=some (.bool c1)/\b.cell? (Addr.add (c.add (a.toNat*4)) 3)=some (.slice c2 c3 c4)/\FCall P Xd #[.agg #[.bool e,.slice f g i,.bool j,.slice k l m],.agg #[.bool b7,.slice b8 b9 c0,.bool c1,.slice c2 c3 c4]] b (fun e3 c8=>∃ (A:Bool) (B:OA) (C D:Nat) (E:Bool) (F:OA) (G H:Nat),e3= .agg #[.bool A,.slice B C D,.bool E,.slice F G H]/\z [I (B4 (a+1)),.bool A,.slice B C D,.bool E,.slice F G H] c8/\b6 [I (B4 (a+1)),.bool A,.slice B C D,.bool E,.slice F G H] c8<b6 [I a,.bool e,.slice f g i,.bool j,.slice k l m] b))
 (FCall P Jq #[.agg #[.bool e,.slice f g i,.bool j,.slice k l m]] b (fun e4 e5=>∃ (c5:ByteArray),e4= .string c5/\K (.tuple #[.string c5,I 0]) e5)))))))))
theorem B2p(a:Int)(b:Int)(d:OA)(e f:Nat)(hvc:B7n Tryz.prog a b d e f h K):FCall Tryz.prog A1j #[.agg #[I a,I b,.slice d e f]] h K:=
 B8 Tryz.func37 (c:=C2 Tryz.f37) (by kernel_rfl) (rs:=[.tmp 2,.tmp 3]) (by kernel_rfl) (fa:=⟨[(14,⟨[53],[(10,4)],[.int .i64 0,.bool false,.slice none 0 0,.bool false,.slice none 0 0],⟨([12]++Lrg 53 8),[10,12]⟩⟩)],[(13,⟨[],[(10,4)],[.bool false,.slice none 0 0,.bool false,.slice none 0 0],⟨[44,45,46,47],[10]⟩⟩)],[],[],[]⟩)
  (cfg:=⟨63,[1,8,10,12],none,[67,68,69,95,96,97,98],[69],false⟩) (args:=[.agg #[I a,I b,.slice d e f]]) (by kernel_rfl) (B0 Tryz.call67 (B0 Tryz.call68 (B0 Tryz.call69 (B0 Tryz.call95 (B0 Tryz.call96 (B0 Tryz.call97 (B0 Tryz.call98 Bodies.nil))))))) (Eq.mp (by kernel_rfl) hvc)
def A20(P:Program)(a:Int)(H:Int)(d8:OA)(d9 e0:Nat)(h:Heap)(K:Value->Heap->Prop):Prop:=
 FCall P Ey #[.agg #[I a,I H,.slice d8 d9 e0]] h (fun e5 F=>∃ (J:OA) (e1 j:Nat) (L:Bool),e5= .tuple #[.slice J e1 j,.bool L]/\Br (!L) (K (.tuple #[.agg #[I 0,I 0,.slice none 0 0],I 1]) F)
 (Br (a != H) (K (.tuple #[.agg #[I 0,I 0,.slice none 0 0],I 4]) F)
 (∃ (t:List Value->Heap->Prop) (M:List Value->Heap->Nat),t [.slice none 0 0,I 0] F/\
 ∀ (k:OA) (l m:Nat) (b:Int),∀ r,t [.slice k l m,I b] r->Br (decide (b<a)) ((0<=B4 ((B4 (b+1))*a)/\B4 ((B4 (b+1))*a)<=(j:Int))/\(0<=B4 (b*a)/\B4 (b*a)<=(((B4 ((B4 (b+1))*a)).toNat:Nat):Int))/\wpH P (Builtin.append_ #[87,87] 87 #[.slice k l m,.slice (J4 J j ((B4 (b*a)).toNat) 4) (((B4 ((B4 (b+1))*a)).toNat)-((B4 (b*a)).toNat)) (j-((B4 (b*a)).toNat))]) (fun e6 e7=>∃ (N:OA) (O Q:Nat),e6= .slice N O Q/\wpH P (Instr.makeSlice 87 (I a) (I a)) (fun e8 e9=>∃ (u:OA) (v R:Nat),e8= .slice u v R/\FCall P Nq #[I 1] e9 (fun f0 f1=>∃ (S:Bool) (T:OA) (V W:Nat) (X:Bool) (Z:OA) (a0 a1:Nat),f0= .agg #[.bool S,.slice T V W,.bool X,.slice Z a0 a1]/\∃ d7,u=some d7/\0<=b/\b<(v:Int)/\wpH P (Instr.storeAt 101 (.pointer (some (d7.add (b.toNat*4)))) (.agg #[.bool S,.slice T V W,.bool X,.slice Z a0 a1])) (fun _ f2=>wpH P (Builtin.append_ #[87,87] 87 #[.slice N O Q,.slice u v R]) (fun f3 d4=>∃ (w:OA) (x y:Nat),f3= .slice w x y/\t [.slice w x y,I (B4 (b+1))] d4/\M [.slice w x y,I (B4 (b+1))] d4<M [.slice k l m,I b] r) f2) f1)) e7) r)
 (FCall P Q4 #[.slice k l m,I (B4 ((2:Int)*a))] r (fun f4 f5=>∃ (z:OA),f4= .pointer z/\FCall P Ca #[.pointer z,I a] f5 (fun f6 d5=>∃ (e2:OA) (a2 e3:Nat) (a3:Bool) (a4:OA) (a5 a6:Nat) (e4:Int),f6= .tuple #[.slice e2 a2 e3,.agg #[.bool a3,.slice a4 a5 a6],I e4]/\Br (decide ((a2:Int)<a)) (K (.tuple #[.agg #[I 0,I 0,.slice none 0 0],I 7]) d5)
 (wpH P (Instr.makeSlice 87 (I 0) (I (B4 (a*a)))) (fun f7 f8=>∃ (a7:OA) (a8 a9:Nat),f7= .slice a7 a8 a9/\∃ (A:List Value->Heap->Prop) (b0:List Value->Heap->Nat),A [.slice a7 a8 a9,I 0] f8/\
 ∀ (n:OA) (o p:Nat) (e:Int),∀ s,A [.slice n o p,I e] s->Br (decide (e<a)) (FCall P Fd #[.pointer z,I e] s (fun f9 g0=>∃ (b1:OA) (q b2:Nat),f9= .slice b1 q b2/\(0<=a/\a<=(q:Int))/\∃ (B:List Value->Heap->Prop) (b3:List Value->Heap->Nat),B [.slice n o p,I 0] g0/\
 ∀ (f:OA) (g i:Nat) (c:Int),∀ d,B [.slice f g i,I c] d->Br (decide (c<((q-(a.toNat):Nat):Int))) (∃ G,J4 b1 b2 (a.toNat) 2=some G/\0<=c/\c<((q-(a.toNat):Nat):Int)/\∃ (b4:Bool) (b5:OA) (b6 b7:Nat),d.cell? (Addr.add (G.add (c.toNat*2)) 0)=some (.bool b4)/\d.cell? (Addr.add (G.add (c.toNat*2)) 1)=some (.slice b5 b6 b7)/\FCall P L8 #[.agg #[.bool b4,.slice b5 b6 b7],.agg #[.bool a3,.slice a4 a5 a6]] d (fun g1 g2=>∃ (b8:Bool) (b9:OA) (c0 c1:Nat) (c2:Bool) (c3:OA) (c4 c5:Nat),g1= .agg #[.bool b8,.slice b9 c0 c1,.bool c2,.slice c3 c4 c5]/\wpH P (Instr.buildSlice 87 1 #[(0,.agg #[.bool b8,.slice b9 c0 c1,.bool c2,.slice c3 c4 c5])]) (fun g3 g4=>∃ (c6:OA) (c7 c8:Nat),g3= .slice c6 c7 c8/\wpH P (Builtin.append_ #[87,87] 87 #[.slice f g i,.slice c6 c7 c8]) (fun g5 d6=>∃ (C:OA) (D E:Nat),g5= .slice C D E/\B [.slice C D E,I (B4 (c+1))] d6/\b3 [.slice C D E,I (B4 (c+1))] d6<b3 [.slice f g i,I c] d) g4) g2))
 (A [.slice f g i,I (B4 (e+1))] d/\b0 [.slice f g i,I (B4 (e+1))] d<b0 [.slice n o p,I e] s)))
 (FCall P Dc #[I a,I a,.slice n o p] s (fun g6 g7=>∃ (c9:Int) (d0:Int) (d1:OA) (d2 d3:Nat),g6= .agg #[I c9,I d0,.slice d1 d2 d3]/\K (.tuple #[.agg #[I c9,I d0,.slice d1 d2 d3],I 0]) g7))) d5)))))))
theorem A0q(a:Int)(b:Int)(d:OA)(e f:Nat)(hvc:A20 Tryz.prog a b d e f h K):FCall Tryz.prog Ld #[.agg #[I a,I b,.slice d e f]] h K:=
 B8 Tryz.func39 (c:=C2 Tryz.f39) (by kernel_rfl) (rs:=[.cell 2 24,.tmp 3]) (by kernel_rfl) (fa:=⟨[(9,⟨[7,35],[],[.slice none 0 0,.int .i64 0],⟨([7,8,9]++Lrg 35 24),[]⟩⟩),(22,⟨[14,80],[],[.slice none 0 0,.int .i64 0],⟨([14,15,17]++Lrg 80 21),[17]⟩⟩),(25,⟨[14,89],[],[.slice none 0 0,.int .i64 0],⟨([14,17]++Lrg 89 11),[17]⟩⟩)],[],[],[],[]⟩)
  (cfg:=⟨105,[1,2,12,17],none,[67,68,69,70,71,75,76],[69],false⟩) (args:=[.agg #[I a,I b,.slice d e f]]) (by kernel_rfl) (B0 Tryz.call67 (B0 Tryz.call68 (B0 Tryz.call69 (B0 Tryz.call70 (B0 Tryz.call71 (B0 Tryz.call75 (B0 Tryz.call76 Bodies.nil))))))) (Eq.mp (by kernel_rfl) hvc)
def MLU(P:Program)(b:Int)(b8:Int)(t1:OA)(t2 t3:Nat)(h:Heap)(K:Value->Heap->Prop):Prop:=
 FCall P Ey #[.agg #[I b,I b8,.slice t1 t2 t3]] h (fun t9 a7=>∃ (b9:OA) (c0 c1:Nat) (c2:Bool),t9= .tuple #[.slice b9 c0 c1,.bool c2]/\Br (!c2) (K (.tuple #[.slice none 0 0,.agg #[I 0,I 0,.slice none 0 0],.agg #[I 0,I 0,.slice none 0 0],I 1]) a7)
 (Br (b != b8) (K (.tuple #[.slice none 0 0,.agg #[I 0,I 0,.slice none 0 0],.agg #[I 0,I 0,.slice none 0 0],I 4]) a7)
 (FCall P Q4 #[.slice b9 c0 c1,I b] a7 (fun u0 u1=>∃ (l:OA),u0= .pointer l/\wpH P (Instr.makeSlice 27 (I b) (I b)) (fun u2 u3=>∃ (q:OA) (n c3:Nat),u2= .slice q n c3/\∃ (S:List Value->Heap->Prop) (c4:List Value->Heap->Nat),S [I 0] u3/\
 ∀ (m:Int),∀ r,S [I m] r->Br (decide (m<(n:Int))) (∃ r6,q=some r6/\0<=m/\m<(n:Int)/\wpH P (Instr.storeAt 3 (.pointer (some (r6.add (m.toNat*1)))) (I m)) (fun _ q8=>S [I (B4 (m+1))] q8/\c4 [I (B4 (m+1))] q8<c4 [I m] r) r)
 (∃ (T:List Value->Heap->Prop),((wpH P (Instr.makeSlice 87 (I (B4 (b*b))) (I (B4 (b*b)))) (fun u4 a8=>∃ (c5:OA) (c6 c7:Nat),u4= .slice c5 c6 c7/\Heap.le r a8/\wpH P (Instr.makeSlice 87 (I (B4 (b*b))) (I (B4 (b*b)))) (fun u5 q9=>∃ (c8:OA) (c9 d0:Nat),u5= .slice c8 c9 d0/\Heap.le a8 q9/\T [.slice c5 c6 c7,.slice c8 c9 d0] q9) a8) r)/\(wpH P (Instr.makeSlice 87 (I (B4 (b*b))) (I (B4 (b*b)))) (fun u6 a9=>∃ (d1:OA) (d2 d3:Nat),u6= .slice d1 d2 d3/\Heap.le r a9/\wpH P (Instr.makeSlice 87 (I (B4 (b*b))) (I (B4 (b*b)))) (fun u7 r0=>∃ (d4:OA) (d5 d6:Nat),u7= .slice d4 d5 d6/\Heap.le a9 r0/\T [.slice d4 d5 d6,.slice d1 d2 d3] r0) a9) r))/\
 ∀ (o:OA) (p d7:Nat) (V:OA) (W d8:Nat),∀ r7,T [.slice o p d7,.slice V W d8] r7->FCall P Ly #[I 1] r7 (fun u8 u9=>∃ (d9:Bool) (e0:OA) (e1 e2:Nat),u8= .agg #[.bool d9,.slice e0 e1 e2]/\∃ (X:List Value->Heap->Prop) (e3:List Value->Heap->Nat),X [I 0,I 0,I 0,.slice none 0 0,I 0,I 0,.slice none 0 0,.bool d9,.slice e0 e1 e2] u9/\
 ∀ (a:Int) (y:Int) (z:Int) (A:OA) (B C:Nat) (D:Int) (E:Int) (F:OA) (G H:Nat) (J:Bool) (L:OA) (M N:Nat),∀ R,X [I a,I y,I z,.slice A B C,I D,I E,.slice F G H,.bool J,.slice L M N] R->Br (decide (a<b)) (FCall P Ur #[.pointer l,I a,I a] R (fun v0 b0=>∃ (d:Int) (e4:Bool),v0= .tuple #[I d,.bool e4]/\Br (!e4) (K (.tuple #[.slice none 0 0,.agg #[I 0,I 0,.slice none 0 0],.agg #[I 0,I 0,.slice none 0 0],I 7]) b0)
 (∃ (Z:List Value->Heap->Prop),(Br (d != a) (FCall P Uq #[.pointer l,I a,I d] b0 (fun v1 b1=>v1= .tuple #[]/\∃ r8,q=some r8/\0<=d/\d<(n:Int)/\∃ (e5:Int),b1.cell? (r8.add (d.toNat*1))=some (I e5)/\∃ r9,q=some r9/\0<=a/\a<(n:Int)/\∃ (e6:Int),b1.cell? (r9.add (a.toNat*1))=some (I e6)/\∃ s0,q=some s0/\0<=a/\a<(n:Int)/\wpH P (Instr.storeAt 3 (.pointer (some (s0.add (a.toNat*1)))) (I e5)) (fun _ v2=>∃ s1,q=some s1/\0<=d/\d<(n:Int)/\wpH P (Instr.storeAt 3 (.pointer (some (s1.add (d.toNat*1)))) (I e6)) (fun _ v3=>∃ (a0:List Value->Heap->Prop) (e7:List Value->Heap->Nat),a0 [I 0] v3/\
 ∀ (c:Int),∀ i,a0 [I c] i->Br (decide (c<a)) (∃ t,o=some t/\0<=B4 ((B4 (d*b))+c)/\B4 ((B4 (d*b))+c)<(p:Int)/\∃ (e8:Bool) (e9:OA) (f0 f1:Nat) (f2:Bool) (f3:OA) (f4 f5:Nat),i.cell? (Addr.add (t.add ((B4 ((B4 (d*b))+c)).toNat*4)) 0)=some (.bool e8)/\i.cell? (Addr.add (t.add ((B4 ((B4 (d*b))+c)).toNat*4)) 1)=some (.slice e9 f0 f1)/\i.cell? (Addr.add (t.add ((B4 ((B4 (d*b))+c)).toNat*4)) 2)=some (.bool f2)/\i.cell? (Addr.add (t.add ((B4 ((B4 (d*b))+c)).toNat*4)) 3)=some (.slice f3 f4 f5)/\∃ u,o=some u/\0<=B4 ((B4 (a*b))+c)/\B4 ((B4 (a*b))+c)<(p:Int)/\∃ (f6:Bool) (f7:OA) (f8 f9:Nat) (g0:Bool) (g1:OA) (g2 g3:Nat),i.cell? (Addr.add (u.add ((B4 ((B4 (a*b))+c)).toNat*4)) 0)=some (.bool f6)/\i.cell? (Addr.add (u.add ((B4 ((B4 (a*b))+c)).toNat*4)) 1)=some (.slice f7 f8 f9)/\i.cell? (Addr.add (u.add ((B4 ((B4 (a*b))+c)).toNat*4)) 2)=some (.bool g0)/\i.cell? (Addr.add (u.add ((B4 ((B4 (a*b))+c)).toNat*4)) 3)=some (.slice g1 g2 g3)/\∃ s2,o=some s2/\0<=B4 ((B4 (a*b))+c)/\B4 ((B4 (a*b))+c)<(p:Int)/\wpH P (Instr.storeAt 101 (.pointer (some (s2.add ((B4 ((B4 (a*b))+c)).toNat*4)))) (.agg #[.bool e8,.slice e9 f0 f1,.bool f2,.slice f3 f4 f5])) (fun _ v4=>∃ s3,o=some s3/\0<=B4 ((B4 (d*b))+c)/\B4 ((B4 (d*b))+c)<(p:Int)/\wpH P (Instr.storeAt 101 (.pointer (some (s3.add ((B4 ((B4 (d*b))+c)).toNat*4)))) (.agg #[.bool f6,.slice f7 f8 f9,.bool g0,.slice g1 g2 g3])) (fun _ r1=>a0 [I (B4 (c+1))] r1/\e7 [I (B4 (c+1))] r1<e7 [I c] i) v4) i)
 (Z [] i)) v2) b1))
 (Z [] b0))/\
 ∀ s4,Z [] s4->FCall P Fd #[.pointer l,I a] s4 (fun v5 v6=>∃ (O:OA) (Q t4:Nat),v5= .slice O Q t4/\∃ (a1:List Value->Heap->Prop) (g4:List Value->Heap->Nat),a1 [I a] v6/\
 ∀ (g:Int),∀ j,a1 [I g] j->Br (decide (g<b)) (∃ b4,O=some b4/\0<=g/\g<(Q:Int)/\∃ (g5:Bool) (g6:OA) (g7 g8:Nat),j.cell? (Addr.add (b4.add (g.toNat*2)) 0)=some (.bool g5)/\j.cell? (Addr.add (b4.add (g.toNat*2)) 1)=some (.slice g6 g7 g8)/\∃ s5,l=some s5/\∃ (g9:OA) (h0 t5:Nat),j.cell? (s5.add 2)=some (.slice g9 h0 t5)/\∃ v,g9=some v/\0<=a/\a<(h0:Int)/\∃ (h1:Bool) (h2:OA) (h3 h4:Nat) (h5:Bool) (h6:OA) (h7 h8:Nat),j.cell? (Addr.add (v.add (a.toNat*4)) 0)=some (.bool h1)/\j.cell? (Addr.add (v.add (a.toNat*4)) 1)=some (.slice h2 h3 h4)/\j.cell? (Addr.add (v.add (a.toNat*4)) 2)=some (.bool h5)/\j.cell? (Addr.add (v.add (a.toNat*4)) 3)=some (.slice h6 h7 h8)/\FCall P L8 #[.agg #[.bool g5,.slice g6 g7 g8],.agg #[.bool J,.slice L M N]] j (fun v7 b2=>∃ (h9:Bool) (i0:OA) (i1 i2:Nat) (i3:Bool) (i4:OA) (i5 i6:Nat),v7= .agg #[.bool h9,.slice i0 i1 i2,.bool i3,.slice i4 i5 i6]/\Heap.le j b2/\FCall P Xd #[.agg #[.bool h9,.slice i0 i1 i2,.bool i3,.slice i4 i5 i6],.agg #[.bool h1,.slice h2 h3 h4,.bool h5,.slice h6 h7 h8]] b2 (fun v8 r2=>∃ (i7:Bool) (i8:OA) (i9 j0:Nat) (j1:Bool) (j2:OA) (j3 j4:Nat),v8= .agg #[.bool i7,.slice i8 i9 j0,.bool j1,.slice j2 j3 j4]/\Heap.le b2 r2/\∃ s6,V=some s6/\0<=B4 ((B4 (a*b))+g)/\B4 ((B4 (a*b))+g)<(W:Int)/\wpH P (Instr.storeAt 101 (.pointer (some (s6.add ((B4 ((B4 (a*b))+g)).toNat*4)))) (.agg #[.bool i7,.slice i8 i9 j0,.bool j1,.slice j2 j3 j4])) (fun _ r3=>a1 [I (B4 (g+1))] r3/\g4 [I (B4 (g+1))] r3<g4 [I g] j) r2)))
 (FCall P Nq #[I 1] j (fun v9 w0=>∃ (j5:Bool) (j6:OA) (j7 j8:Nat) (j9:Bool) (k0:OA) (k1 k2:Nat),v9= .agg #[.bool j5,.slice j6 j7 j8,.bool j9,.slice k0 k1 k2]/\∃ s7,o=some s7/\0<=B4 ((B4 (a*b))+a)/\B4 ((B4 (a*b))+a)<(p:Int)/\wpH P (Instr.storeAt 101 (.pointer (some (s7.add ((B4 ((B4 (a*b))+a)).toNat*4)))) (.agg #[.bool j5,.slice j6 j7 j8,.bool j9,.slice k0 k1 k2])) (fun _ w1=>∃ (a2:List Value->Heap->Prop) (k3:List Value->Heap->Nat),a2 [I (B4 (a+1))] w1/\
 ∀ (e:Int),∀ k,a2 [I e] k->Br (decide (e<b)) (∃ b5,O=some b5/\0<=a/\a<(Q:Int)/\∃ (k4:Bool) (k5:OA) (k6 k7:Nat),k.cell? (Addr.add (b5.add (a.toNat*2)) 0)=some (.bool k4)/\k.cell? (Addr.add (b5.add (a.toNat*2)) 1)=some (.slice k5 k6 k7)/\FCall P Fd #[.pointer l,I e] k (fun w2 s=>∃ (k8:OA) (k9 t6:Nat),w2= .slice k8 k9 t6/\Heap.le k s/\∃ b6,k8=some b6/\0<=a/\a<(k9:Int)/\∃ (l0:Bool) (l1:OA) (l2 l3:Nat),s.cell? (Addr.add (b6.add (a.toNat*2)) 0)=some (.bool l0)/\s.cell? (Addr.add (b6.add (a.toNat*2)) 1)=some (.slice l1 l2 l3)/\FCall P L8 #[.agg #[.bool l0,.slice l1 l2 l3],.agg #[.bool k4,.slice k5 k6 k7]] s (fun w3 f=>∃ (l4:Bool) (l5:OA) (l6 l7:Nat) (l8:Bool) (l9:OA) (m0 m1:Nat),w3= .agg #[.bool l4,.slice l5 l6 l7,.bool l8,.slice l9 m0 m1]/\Heap.le s f/\∃ s8,l=some s8/\∃ (m2:OA) (m3 t7:Nat),f.cell? (s8.add 2)=some (.slice m2 m3 t7)/\∃ w,m2=some w/\0<=a/\a<(m3:Int)/\∃ (m4:Bool) (m5:OA) (m6 m7:Nat) (m8:Bool) (m9:OA) (n0 n1:Nat),f.cell? (Addr.add (w.add (a.toNat*4)) 0)=some (.bool m4)/\f.cell? (Addr.add (w.add (a.toNat*4)) 1)=some (.slice m5 m6 m7)/\f.cell? (Addr.add (w.add (a.toNat*4)) 2)=some (.bool m8)/\f.cell? (Addr.add (w.add (a.toNat*4)) 3)=some (.slice m9 n0 n1)/\∃ s9,l=some s9/\∃ (n2:OA) (n3 t8:Nat),f.cell? (s9.add 2)=some (.slice n2 n3 t8)/\∃ x,n2=some x/\0<=e/\e<(n3:Int)/\∃ (n4:Bool) (n5:OA) (n6 n7:Nat) (n8:Bool) (n9:OA) (o0 o1:Nat),f.cell? (Addr.add (x.add (e.toNat*4)) 0)=some (.bool n4)/\f.cell? (Addr.add (x.add (e.toNat*4)) 1)=some (.slice n5 n6 n7)/\f.cell? (Addr.add (x.add (e.toNat*4)) 2)=some (.bool n8)/\f.cell? (Addr.add (x.add (e.toNat*4)) 3)=some (.slice n9 o0 o1)/\FCall P A1g #[.agg #[.bool l4,.slice l5 l6 l7,.bool l8,.slice l9 m0 m1],.agg #[.bool m4,.slice m5 m6 m7,.bool m8,.slice m9 n0 n1]] f (fun w4 b3=>∃ (o2:Bool) (o3:OA) (o4 o5:Nat) (o6:Bool) (o7:OA) (o8 o9:Nat),w4= .agg #[.bool o2,.slice o3 o4 o5,.bool o6,.slice o7 o8 o9]/\Heap.le f b3/\FCall P Xd #[.agg #[.bool o2,.slice o3 o4 o5,.bool o6,.slice o7 o8 o9],.agg #[.bool n4,.slice n5 n6 n7,.bool n8,.slice n9 o0 o1]] b3 (fun w5 r4=>∃ (p0:Bool) (p1:OA) (p2 p3:Nat) (p4:Bool) (p5:OA) (p6 p7:Nat),w5= .agg #[.bool p0,.slice p1 p2 p3,.bool p4,.slice p5 p6 p7]/\Heap.le b3 r4/\∃ t0,o=some t0/\0<=B4 ((B4 (e*b))+a)/\B4 ((B4 (e*b))+a)<(p:Int)/\wpH P (Instr.storeAt 101 (.pointer (some (t0.add ((B4 ((B4 (e*b))+a)).toNat*4)))) (.agg #[.bool p0,.slice p1 p2 p3,.bool p4,.slice p5 p6 p7])) (fun _ w6=>FCall P Nw #[.pointer l,I e,I a,I a,.agg #[.bool J,.slice L M N]] w6 (fun w7 r5=>w7= .tuple #[]/\a2 [I (B4 (e+1))] r5/\k3 [I (B4 (e+1))] r5<k3 [I e] k)) r4)))))
 (∃ b7,O=some b7/\0<=a/\a<(Q:Int)/\∃ (a3:Bool) (a4:OA) (a5 a6:Nat),k.cell? (Addr.add (b7.add (a.toNat*2)) 0)=some (.bool a3)/\k.cell? (Addr.add (b7.add (a.toNat*2)) 1)=some (.slice a4 a5 a6)/\X [I (B4 (a+1)),I y,I z,.slice A B C,I D,I E,.slice F G H,.bool a3,.slice a4 a5 a6] k/\e3 [I (B4 (a+1)),I y,I z,.slice A B C,I D,I E,.slice F G H,.bool a3,.slice a4 a5 a6] k<e3 [I a,I y,I z,.slice A B C,I D,I E,.slice F G H,.bool J,.slice L M N] R)) w0))))))
 (FCall P Dc #[I b,I b,.slice o p d7] R (fun w8 w9=>∃ (p8:Int) (p9:Int) (q0:OA) (q1 q2:Nat),w8= .agg #[I p8,I p9,.slice q0 q1 q2]/\FCall P Dc #[I b,I b,.slice V W d8] w9 (fun x0 x1=>∃ (q3:Int) (q4:Int) (q5:OA) (q6 q7:Nat),x0= .agg #[I q3,I q4,.slice q5 q6 q7]/\K (.tuple #[.slice q n c3,.agg #[I p8,I p9,.slice q0 q1 q2],.agg #[I q3,I q4,.slice q5 q6 q7],I 0]) x1)))))) u1))))
theorem B4t(a:Int)(b:Int)(d:OA)(e f:Nat)(hvc:MLU Tryz.prog a b d e f h K):FCall Tryz.prog B1w #[.agg #[I a,I b,.slice d e f]] h K:=
 B8 Tryz.func41 (c:=C2 Tryz.f41) (by kernel_rfl) (rs:=[.tmp 2,.cell 3 24,.cell 4 24,.tmp 5]) (by kernel_rfl) (fa:={ loops:=[(10,⟨[48],[],[.int .i64 0],⟨([11]++Lrg 48 8),[]⟩⟩),(17,⟨[66],[(3,3),(4,3),(14,2)],[.int .i64 0,.int .i64 0,.int .i64 0,.slice none 0 0,.int .i64 0,.int .i64 0,.slice none 0 0,.bool false,.slice none 0 0],⟨([2,5]++Lrg 15 8++Lrg 66 161),[3,4,14,22]⟩⟩),(26,⟨[102],[],[.int .i64 0],⟨([18]++Lrg 102 34),[]⟩⟩),(32,⟨[20],[],[.int .i64 0],⟨([20]++Lrg 140 26),[]⟩⟩),(37,⟨[21],[],[.int .i64 0],⟨([21,22]++Lrg 176 46),[22]⟩⟩)],cuts:=[(15,⟨[12,13],[],[.slice none 0 0,.slice none 0 0],⟨([12,13]++Lrg 56 8),[]⟩⟩),(30,⟨[],[],[],⟨([18]++Lrg 80 56),[]⟩⟩)],orders:=[(14,([0,1,2,4,5,6,3,8,7,9],[[],[],[0,1],[0,1,2],[],[],[4,5],[4,5,6],[0,1,2,3],(Lrg 0 9)])),(24,((Lrg 0 16),[[],[],[],[],[],[],[4,5],[4,5,6],[],[],[8,9],[8,9,10],([0,1]++Lrg 4 8),([0,1]++Lrg 4 9),(Lrg 0 14),(Lrg 0 15)])),(28,((Lrg 0 32),[[],[],[],[1,2],[],[1,2,3,4],[],[],[],[7,8],[],[7,8,9,10],[],[],[],[13,14],[],[13,14,15,16],[12,13,14,15,16,17],[12,13,14,15,16,17,18],[],[],[],[21,22],[],[21,22,23,24],[20,21,22,23,24,25],[20,21,22,23,24,25,26],([0,1,2,3,4,5]++Lrg 12 16),([0,1,2,3,4,5]++Lrg 12 17),(Lrg 0 30),(Lrg 0 31)])),(34,((Lrg 0 11++[12,13,14,15,16,17,18,11,19,20,21]),[[],[],[],[1,2],[],[1,2,3,4],[],[],[6,7],[6,7,8],[],[6,7,8,9,10],[],[12],[12,13],[12,13,14],[],[12,13,14,15,16],[12,13,14,15,16,17],(Lrg 6 13),(Lrg 0 20),(Lrg 0 21)])),(39,([0,1,3,6,7,8,9,11,2,4,5,10,12],[[],[],[0,1],[],[0,1,2,3],[0,1,2,3,4],[],[],[6,7],[6,7,8],(Lrg 0 10),[],(Lrg 0 12)])),(40,((Lrg 0 14++[15,16,17,18,19,20,21,14,22,23,24]),[[],[],[],[1,2],[],[1,2,3,4],[],[],[7],[7,8],[7,8,9],[],[7,8,9,10,11],[7,8,9,10,11,12],(Lrg 6 8),[],[15],[15,16],[15,16,17],[],[15,16,17,18,19],[15,16,17,18,19,20],(Lrg 6 16),(Lrg 0 23),(Lrg 0 24)]))],alts:=[(14,[(3,[7])])] })
  (cfg:=⟨236,[1,3,4,14,22],none,[67,68,70,71,75,76,98,100,101,102,103,104],[102,104],false⟩) (args:=[.agg #[I a,I b,.slice d e f]]) (by kernel_rfl) (B0 Tryz.call67 (B0 Tryz.call68 (B0 Tryz.call70 (B0 Tryz.call71 (B0 Tryz.call75 (B0 Tryz.call76 (B0 Tryz.call98 (B0 Tryz.call100 (B0 Tryz.call101 (B0 Tryz.call102 (B0 Tryz.call103 (B0 Tryz.call104 Bodies.nil)))))))))))) (Eq.mp (by kernel_rfl) hvc)
def Qr(P:Program)(M:OA)(s V:Nat)(N:Int)(d:Int)(h:Heap)(K:Value->Heap->Prop):Prop:=
 wpH P (Instr.makeSlice 87 (I 0) (I (s:Int))) (fun O Q=>∃ (t:OA) (u v:Nat),O= .slice t u v/\∃ (n:List Value->Heap->Prop) (w:List Value->Heap->Nat),n [.slice t u v,I 0] Q/\
 ∀ (j:OA) (k l:Nat) (a:Int),∀ m,n [.slice j k l,I a] m->Br (decide (a<d)) (∃ (o:List Value->Heap->Prop) (x:List Value->Heap->Nat),o [.slice j k l,I 0] m/\
 ∀ (e:OA) (f g:Nat) (b:Int),∀ c,o [.slice e f g,I b] c->Br (decide (b<N)) (∃ i,M=some i/\0<=B4 ((B4 (b*d))+a)/\B4 ((B4 (b*d))+a)<(s:Int)/\∃ (y:Bool) (z:OA) (A B:Nat) (C:Bool) (D:OA) (E F:Nat),c.cell? (Addr.add (i.add ((B4 ((B4 (b*d))+a)).toNat*4)) 0)=some (.bool y)/\c.cell? (Addr.add (i.add ((B4 ((B4 (b*d))+a)).toNat*4)) 1)=some (.slice z A B)/\c.cell? (Addr.add (i.add ((B4 ((B4 (b*d))+a)).toNat*4)) 2)=some (.bool C)/\c.cell? (Addr.add (i.add ((B4 ((B4 (b*d))+a)).toNat*4)) 3)=some (.slice D E F)/\wpH P (Instr.buildSlice 87 1 #[(0,.agg #[.bool y,.slice z A B,.bool C,.slice D E F])]) (fun R S=>∃ (G:OA) (H J:Nat),R= .slice G H J/\wpH P (Builtin.append_ #[87,87] 87 #[.slice e f g,.slice G H J]) (fun T L=>∃ (p:OA) (q r:Nat),T= .slice p q r/\o [.slice p q r,I (B4 (b+1))] L/\x [.slice p q r,I (B4 (b+1))] L<x [.slice e f g,I b] c) S) c)
 (n [.slice e f g,I (B4 (a+1))] c/\w [.slice e f g,I (B4 (a+1))] c<w [.slice j k l,I a] m))
 (K (.slice j k l) m)) h
theorem Ro(a:OA)(b d:Nat)(e:Int)(f:Int)(hvc:Qr Tryz.prog a b d e f h K):FCall Tryz.prog Y8 #[.slice a b d,I e,I f] h K:=
 B8 Tryz.func82 (c:=C2 Tryz.f82) (by kernel_rfl) (rs:=[.tmp 6]) (by kernel_rfl) (fa:=⟨[(3,⟨[7,14],[],[.slice none 0 0,.int .i64 0],⟨([7,8,9]++Lrg 14 20),[]⟩⟩),(6,⟨[7,18],[],[.slice none 0 0,.int .i64 0],⟨([7,9]++Lrg 18 15),[]⟩⟩)],[],[],[],[]⟩)
  (cfg:=⟨35,[],none,[],[],false⟩) (args:=[.slice a b d,I e,I f]) (by kernel_rfl) Bodies.nil (Eq.mp (by kernel_rfl) hvc)
def B0p(P:Program)(N:OA)(j a7:Nat)(O:Bool)(Q:OA)(R S:Nat)(T:OA)(V a8:Nat)(W:Bool)(X:OA)(Z a0:Nat)(h:Heap)(K:Value->Heap->Prop):Prop:=
 wpH P (Instr.alloc 185 true (.tuple #[])) (fun a1 a2=>∃ (c:Addr),a1= .pointer (some c)/\∃ (d:List Value->Heap->Prop) (k:List Value->Heap->Nat),d [I 0] a2/\
 ∀ (a:Int),∀ b,d [I a] b->Br (decide (a<(j:Int))) (∃ g,N=some g/\0<=a/\a<(j:Int)/\∃ (l:Bool) (m:OA) (n o:Nat),b.cell? (Addr.add (g.add (a.toNat*2)) 0)=some (.bool l)/\b.cell? (Addr.add (g.add (a.toNat*2)) 1)=some (.slice m n o)/\∃ i,T=some i/\0<=a/\a<(V:Int)/\∃ (p:Bool) (q:OA) (r s:Nat),b.cell? (Addr.add (i.add (a.toNat*2)) 0)=some (.bool p)/\b.cell? (Addr.add (i.add (a.toNat*2)) 1)=some (.slice q r s)/\FCall P R7 #[.pointer (some c),.agg #[.bool l,.slice m n o],.agg #[.bool p,.slice q r s]] b (fun a3 L=>a3= .tuple #[]/\d [I (B4 (a+1))] L/\k [I (B4 (a+1))] L<k [I a] b))
 (FCall P Nr #[.pointer (some c)] b (fun a4 e=>∃ (t:Bool) (u:OA) (v w:Nat),a4= .agg #[.bool t,.slice u v w]/\Heap.le b e/\FCall P Lx #[.agg #[.bool O,.slice Q R S],.agg #[.bool W,.slice X Z a0]] e (fun a5 f=>∃ (x:Bool) (y:OA) (z A:Nat),a5= .agg #[.bool x,.slice y z A]/\Heap.le e f/\FCall P L8 #[.agg #[.bool t,.slice u v w],.agg #[.bool x,.slice y z A]] f (fun a6 M=>∃ (B:Bool) (C:OA) (D E:Nat) (F:Bool) (G:OA) (H J:Nat),a6= .agg #[.bool B,.slice C D E,.bool F,.slice G H J]/\Heap.le f M/\K (.agg #[.bool B,.slice C D E,.bool F,.slice G H J]) M))))) h
theorem A6z(a:OA)(b d:Nat)(e:Bool)(f:OA)(g i:Nat)(j:OA)(k l:Nat)(m:Bool)(n:OA)(o p:Nat)(hvc:B0p Tryz.prog a b d e f g i j k l m n o p h K):FCall Tryz.prog Um #[.agg #[.slice a b d,.bool e,.slice f g i],.agg #[.slice j k l,.bool m,.slice n o p]] h K:=
 B8 Tryz.func92 (c:=C2 Tryz.f92) (by kernel_rfl) (rs:=[.cell 4 101]) (by kernel_rfl) (fa:=⟨[(3,⟨[11],[],[.int .i64 0],⟨([6,7]++Lrg 11 13),[7]⟩⟩)],[],[(5,([0,1,2,3,4,5,6],[[],[],[1],[],[1,2,3],[1,2,3,4],[0,1,2,3,4,5]])),(7,([1,2,3,4,0,5,6,7],[[],[],[1],[],[3],[0,1,2,3,4],[0,1,2,3,4,5],[0,1,2,3,4,5,6]]))],[],[]⟩)
  (cfg:=⟨31,[2,3,4,7],none,[70,150,151,152],[150],false⟩) (args:=[.agg #[.slice a b d,.bool e,.slice f g i],.agg #[.slice j k l,.bool m,.slice n o p]]) (by kernel_rfl) (B0 Tryz.call70 (B0 Tryz.call150 (B0 Tryz.call151 (B0 Tryz.call152 Bodies.nil)))) (Eq.mp (by kernel_rfl) hvc)
def Ye(P:Program)(m3:OA)(m4 m5:Nat)(b7:Int)(h:Heap)(K:Value->Heap->Prop):Prop:=
 wpH P (Instr.box 99 (.agg #[I b7,.slice none 0 0,.slice none 0 0])) (fun n1 n2=>∃ (b8:Addr),n1= .pointer (some b8)/\wpH P (Instr.alloc 90 true (.tuple #[])) (fun n3 n4=>∃ (b:Addr),n3= .pointer (some b)/\wpH P (Instr.storeAt 90 (.pointer (some b)) (.pointer (some b8))) (fun _ n5=>FCall P Nu #[.slice m3 m4 m5,I b7] n5 (fun n6 n7=>∃ (b9:Value),n6=b9/\Yc P (b9) n7 (fun (m6:List Value) (m7:Heap) (x:Heap->Prop)=>∃ (W:OA) (y c0:Nat),m6=[.slice W y c0]/\FCall P I3 #[.slice W y c0] m7 (fun n8 b4=>∃ (z:Bool) (A:OA) (B C:Nat),n8= .agg #[.bool z,.slice A B C]/\∃ (c1:OA),b4.cell? b=some (.pointer c1)/\∃ l0,c1=some l0/\∃ (m8:OA) (f m9:Nat),b4.cell? (l0.add 1)=some (.slice m8 f m9)/\∃ (s:List Value->Heap->Prop) (q:List Value->Heap->Nat),s [I 0,.bool false,.slice none 0 0] b4/\
 ∀ (a:Int) (g:Bool) (i:OA) (j k:Nat),∀ e,s [I a,.bool g,.slice i j k] e->Br (decide (a<(y:Int))) (∃ w,W=some w/\0<=a/\a<(y:Int)/\∃ (c2:Bool) (c3:OA) (c4 c5:Nat) (c6:Bool) (c7:OA) (c8 c9:Nat),e.cell? (Addr.add (w.add (a.toNat*4)) 0)=some (.bool c2)/\e.cell? (Addr.add (w.add (a.toNat*4)) 1)=some (.slice c3 c4 c5)/\e.cell? (Addr.add (w.add (a.toNat*4)) 2)=some (.bool c6)/\e.cell? (Addr.add (w.add (a.toNat*4)) 3)=some (.slice c7 c8 c9)/\FCall P Ev #[.agg #[.bool c2,.slice c3 c4 c5,.bool c6,.slice c7 c8 c9],.agg #[.bool z,.slice A B C]] e (fun n9 o0=>∃ (D:Bool) (E:OA) (F G:Nat),n9= .agg #[.bool D,.slice E F G]/\FCall P Pi #[.agg #[.bool g,.slice i j k],.agg #[.bool D,.slice E F G]] o0 (fun o1 p=>∃ (l:Bool) (m:OA) (n o:Nat),o1= .agg #[.bool l,.slice m n o]/\∃ (d0:OA),p.cell? b=some (.pointer d0)/\∃ l1,d0=some l1/\∃ (H:OA) (J L:Nat),p.cell? (l1.add 1)=some (.slice H J L)/\(∃ (d1:OA),p.cell? b=some (.pointer d1)/\wpH P (Instr.buildSlice 97 1 #[(0,.agg #[.bool D,.slice E F G])]) (fun o2 j8=>∃ (d2:OA) (d3 d4:Nat),o2= .slice d2 d3 d4/\Heap.le p j8/\wpH P (Builtin.append_ #[97,97] 97 #[.slice H J L,.slice d2 d3 d4]) (fun o3 o4=>∃ (d5:OA) (d6 d7:Nat),o3= .slice d5 d6 d7/\∃ l2,d1=some l2/\wpH P (Instr.storeAt 97 (.pointer (some (l2.add 1))) (.slice d5 d6 d7)) (fun _ j9=>s [I (B4 (a+1)),.bool l,.slice m n o] j9/\q [I (B4 (a+1)),.bool l,.slice m n o] j9<q [I a,.bool g,.slice i j k] e) o4) j8) p)/\(wpH P (Instr.buildSlice 97 1 #[(0,.agg #[.bool D,.slice E F G])]) (fun o5 S=>∃ (X:OA) (Z a0:Nat),o5= .slice X Z a0/\Heap.le p S/\(∃ (d8:OA),S.cell? b=some (.pointer d8)/\wpH P (Builtin.append_ #[97,97] 97 #[.slice H J L,.slice X Z a0]) (fun o6 o7=>∃ (d9:OA) (e0 e1:Nat),o6= .slice d9 e0 e1/\∃ l3,d8=some l3/\wpH P (Instr.storeAt 97 (.pointer (some (l3.add 1))) (.slice d9 e0 e1)) (fun _ k0=>s [I (B4 (a+1)),.bool l,.slice m n o] k0/\q [I (B4 (a+1)),.bool l,.slice m n o] k0<q [I a,.bool g,.slice i j k] e) o7) S)/\(wpH P (Builtin.append_ #[97,97] 97 #[.slice H J L,.slice X Z a0]) (fun o8 k1=>∃ (e2:OA) (e3 e4:Nat),o8= .slice e2 e3 e4/\∃ (e5:OA),k1.cell? b=some (.pointer e5)/\∃ l4,e5=some l4/\wpH P (Instr.storeAt 97 (.pointer (some (l4.add 1))) (.slice e2 e3 e4)) (fun _ k2=>s [I (B4 (a+1)),.bool l,.slice m n o] k2/\q [I (B4 (a+1)),.bool l,.slice m n o] k2<q [I a,.bool g,.slice i j k] e) k1) S)) p))))
 (∃ (a1:List Value->Heap->Prop),(FCall P G0 #[.agg #[.bool g,.slice i j k]] e (fun o9 k3=>∃ (e6:Bool),o9= .bool e6/\Br e6 (FCall P Ly #[I 1] k3 (fun p0 p1=>∃ (e7:Bool) (e8:OA) (e9 f0:Nat),p0= .agg #[.bool e7,.slice e8 e9 f0]/\a1 [.bool e7,.slice e8 e9 f0] p1))
 (a1 [.bool g,.slice i j k] k3)))/\
 ∀ (M:Bool) (N:OA) (O Q:Nat),∀ V,a1 [.bool M,.slice N O Q] V->∃ (f1:OA),V.cell? b=some (.pointer f1)/\∃ l5,f1=some l5/\∃ (f2:OA) (R f3:Nat),V.cell? (l5.add 1)=some (.slice f2 R f3)/\(0<=(f:Int)/\(f:Int)<=(R:Int))/\∃ (a2:List Value->Heap->Prop) (f4:List Value->Heap->Nat),a2 [I 0] V/\
 ∀ (d:Int),∀ c,a2 [I d] c->Br (decide (d<((R-(((f:Int)).toNat):Nat):Int))) (∃ b6,J4 f2 f3 (((f:Int)).toNat) 2=some b6/\0<=d/\d<((R-(((f:Int)).toNat):Nat):Int)/\∃ (f5:Bool) (f6:OA) (f7 f8:Nat),c.cell? (Addr.add (b6.add (d.toNat*2)) 0)=some (.bool f5)/\c.cell? (Addr.add (b6.add (d.toNat*2)) 1)=some (.slice f6 f7 f8)/\∃ (f9:OA),c.cell? b=some (.pointer f9)/\∃ l6,f9=some l6/\∃ (g0:OA) (g1 n0:Nat),c.cell? (l6.add 1)=some (.slice g0 g1 n0)/\FCall P Jm #[.agg #[.bool f5,.slice f6 f7 f8],.agg #[.bool M,.slice N O Q]] c (fun p2 k4=>∃ (g2:Bool) (g3:OA) (g4 g5:Nat),p2= .agg #[.bool g2,.slice g3 g4 g5]/\Heap.le c k4/\∃ l7,g0=some l7/\0<=B4 ((f:Int)+d)/\B4 ((f:Int)+d)<(g1:Int)/\wpH P (Instr.storeAt 94 (.pointer (some (l7.add ((B4 ((f:Int)+d)).toNat*2)))) (.agg #[.bool g2,.slice g3 g4 g5])) (fun _ k5=>a2 [I (B4 (d+1))] k5/\f4 [I (B4 (d+1))] k5<f4 [I d] c) k4))
 (∃ (g6:OA),c.cell? b=some (.pointer g6)/\∃ l8,g6=some l8/\∃ (t:OA) (u v:Nat),c.cell? (l8.add 2)=some (.slice t u v)/\(∃ (g7:OA),c.cell? b=some (.pointer g7)/\FCall P L8 #[.agg #[.bool z,.slice A B C],.agg #[.bool M,.slice N O Q]] c (fun p3 b5=>∃ (g8:Bool) (g9:OA) (h0 h1:Nat) (h2:Bool) (h3:OA) (h4 h5:Nat),p3= .agg #[.bool g8,.slice g9 h0 h1,.bool h2,.slice h3 h4 h5]/\Heap.le c b5/\wpH P (Instr.buildSlice 87 1 #[(0,.agg #[.bool g8,.slice g9 h0 h1,.bool h2,.slice h3 h4 h5])]) (fun p4 k6=>∃ (h6:OA) (h7 h8:Nat),p4= .slice h6 h7 h8/\Heap.le b5 k6/\wpH P (Builtin.append_ #[87,87] 87 #[.slice t u v,.slice h6 h7 h8]) (fun p5 p6=>∃ (h9:OA) (i0 i1:Nat),p5= .slice h9 i0 i1/\∃ l9,g7=some l9/\wpH P (Instr.storeAt 87 (.pointer (some (l9.add 2))) (.slice h9 i0 i1)) (fun _ p7=>x p7) p6) k6) b5))/\(FCall P L8 #[.agg #[.bool z,.slice A B C],.agg #[.bool M,.slice N O Q]] c (fun p8 r=>∃ (a3:Bool) (a4:OA) (a5 a6:Nat) (a7:Bool) (a8:OA) (a9 b0:Nat),p8= .agg #[.bool a3,.slice a4 a5 a6,.bool a7,.slice a8 a9 b0]/\Heap.le c r/\(∃ (i2:OA),r.cell? b=some (.pointer i2)/\wpH P (Instr.buildSlice 87 1 #[(0,.agg #[.bool a3,.slice a4 a5 a6,.bool a7,.slice a8 a9 b0])]) (fun p9 k7=>∃ (i3:OA) (i4 i5:Nat),p9= .slice i3 i4 i5/\Heap.le r k7/\wpH P (Builtin.append_ #[87,87] 87 #[.slice t u v,.slice i3 i4 i5]) (fun q0 q1=>∃ (i6:OA) (i7 i8:Nat),q0= .slice i6 i7 i8/\∃ m0,i2=some m0/\wpH P (Instr.storeAt 87 (.pointer (some (m0.add 2))) (.slice i6 i7 i8)) (fun _ q2=>x q2) q1) k7) r)/\(wpH P (Instr.buildSlice 87 1 #[(0,.agg #[.bool a3,.slice a4 a5 a6,.bool a7,.slice a8 a9 b0])]) (fun q3 T=>∃ (b1:OA) (b2 b3:Nat),q3= .slice b1 b2 b3/\Heap.le r T/\(∃ (i9:OA),T.cell? b=some (.pointer i9)/\wpH P (Builtin.append_ #[87,87] 87 #[.slice t u v,.slice b1 b2 b3]) (fun q4 q5=>∃ (j0:OA) (j1 j2:Nat),q4= .slice j0 j1 j2/\∃ m1,i9=some m1/\wpH P (Instr.storeAt 87 (.pointer (some (m1.add 2))) (.slice j0 j1 j2)) (fun _ q6=>x q6) q5) T)/\(wpH P (Builtin.append_ #[87,87] 87 #[.slice t u v,.slice b1 b2 b3]) (fun q7 k8=>∃ (j3:OA) (j4 j5:Nat),q7= .slice j3 j4 j5/\∃ (j6:OA),k8.cell? b=some (.pointer j6)/\∃ m2,j6=some m2/\wpH P (Instr.storeAt 87 (.pointer (some (m2.add 2))) (.slice j3 j4 j5)) (fun _ q8=>x q8) k8) T)) r)))))))
 (fun k9=>∃ (j7:OA),k9.cell? b=some (.pointer j7)/\K (.pointer j7) k9))) n4) n2) h
theorem Yd(a:OA)(b d:Nat)(e:Int)(hvc:Ye Tryz.prog a b d e h K):FCall Tryz.prog Q4 #[.slice a b d,I e] h K:=
 B8 Tryz.func68 (c:=C2 Tryz.f68) (by kernel_rfl) (rs:=[.tmp 4]) (by kernel_rfl) (fa:={ loops:=[(8,⟨[31],[(9,2)],[.int .i64 0,.bool false,.slice none 0 0],⟨([11,12]++Lrg 31 21),[9,11,12]⟩⟩),(17,⟨[62],[],[.int .i64 0],⟨([13,14]++Lrg 62 17),[14]⟩⟩)],cuts:=[(16,⟨[],[(9,2)],[.bool false,.slice none 0 0],⟨[52,53,54],[9]⟩⟩)],orders:=[(12,([1,2,3,4,5,0,6,7,8,9,10],[[],[],[1],[1,2],[1,2,3],[],[5],[1,2,3,4,5,6],(Lrg 0 8),(Lrg 0 9),(Lrg 0 10)])),(19,((Lrg 0 12),[[],[0],[0,1],[0,1,2],[],[],[4,5],[],[],[7,8],(Lrg 0 10),(Lrg 0 11)])),(21,([1,2,3,4,5,6,0,7,8,9,10,11,12],[[],[],[1],[1,2],[1,2,3],[],[],[5,6],[5,6,7],(Lrg 1 8),(Lrg 0 10),(Lrg 0 11),(Lrg 0 12)]))],alts:=[(12,[(0,[6,7])]),(21,[(0,[7,8,9])])],rounds:=[(4,[.slice none 0 0])] })
  (cfg:=⟨92,[7,9,11,12,14],none,[70,100,131,132,133,134,135,136],[1000000000],false⟩) (args:=[.slice a b d,I e]) (by kernel_rfl) (B0 Tryz.call70 (B0 Tryz.call100 (B0 Tryz.call131 (B0 Tryz.call132 (B0 Tryz.call133 (B0 Tryz.call134 (B0 Tryz.call135 (B0 Tryz.call136 Bodies.nil)))))))) (Eq.mp (by kernel_rfl) hvc)
def B7o(P:Program)(e:OA)(a:Int)(h:Heap)(K:Value->Heap->Prop):Prop:=
 ∃ g,e=some g/\∃ (f:OA) (k d:Nat),h.cell? (g.add 1)=some (.slice f k d)/\∃ i,e=some i/\∃ (b:Int),h.cell? (i.add 0)=some (I b)/\∃ j,e=some j/\∃ (c:Int),h.cell? (j.add 0)=some (I c)/\(0<=B4 ((B4 (a+1))*c)/\B4 ((B4 (a+1))*c)<=(d:Int))/\(0<=B4 (a*b)/\B4 (a*b)<=(((B4 ((B4 (a+1))*c)).toNat:Nat):Int))/\K (.slice (J4 f d ((B4 (a*b)).toNat) 2) (((B4 ((B4 (a+1))*c)).toNat)-((B4 (a*b)).toNat)) (d-((B4 (a*b)).toNat))) h
theorem B2r(a:OA)(b:Int)(hvc:B7o Tryz.prog a b h K):FCall Tryz.prog Fd #[.pointer a,I b] h K:=
 B8 Tryz.func76 (c:=C2 Tryz.f76) (by kernel_rfl) (rs:=[.tmp 4]) (by kernel_rfl) (fa:=⟨[],[],[(1,((Lrg 0 19),[[],[0],[0,1],[0,1,2],[],[],[5],[5,6],[5,6,7],[4,5,6,7,8],[],[10],[],[12],[12,13],[12,13,14],[10,11,12,13,14,15],(Lrg 0 17),(Lrg 0 18)]))],[],[]⟩)
  (cfg:=⟨23,[],none,[],[],false⟩) (args:=[.pointer a,I b]) (by kernel_rfl) Bodies.nil (Eq.mp (by kernel_rfl) hvc)
def B4x(P:Program)(e:OA)(c:Int)(d:Int)(h:Heap)(K:Value->Heap->Prop):Prop:=
 FCall P Fd #[.pointer e,I c] h (fun b6 b7=>∃ (j:OA) (i b0:Nat),b6= .slice j i b0/\FCall P Fd #[.pointer e,I d] b7 (fun b8 b9=>∃ (k:OA) (l b1:Nat),b8= .slice k l b1/\∃ (m:List Value->Heap->Prop) (p:List Value->Heap->Nat),m [I 0] b9/\
 ∀ (b:Int),∀ a,m [I b] a->Br (decide (b<(i:Int))) (∃ n,k=some n/\0<=b/\b<(l:Int)/\∃ (q:Bool) (r:OA) (s t:Nat),a.cell? (Addr.add (n.add (b.toNat*2)) 0)=some (.bool q)/\a.cell? (Addr.add (n.add (b.toNat*2)) 1)=some (.slice r s t)/\∃ o,j=some o/\0<=b/\b<(i:Int)/\∃ (u:Bool) (v:OA) (w x:Nat),a.cell? (Addr.add (o.add (b.toNat*2)) 0)=some (.bool u)/\a.cell? (Addr.add (o.add (b.toNat*2)) 1)=some (.slice v w x)/\∃ a2,j=some a2/\0<=b/\b<(i:Int)/\wpH P (Instr.storeAt 94 (.pointer (some (a2.add (b.toNat*2)))) (.agg #[.bool q,.slice r s t])) (fun _ c0=>∃ a3,k=some a3/\0<=b/\b<(l:Int)/\wpH P (Instr.storeAt 94 (.pointer (some (a3.add (b.toNat*2)))) (.agg #[.bool u,.slice v w x])) (fun _ a1=>m [I (B4 (b+1))] a1/\p [I (B4 (b+1))] a1<p [I b] a) c0) a)
 (∃ a4,e=some a4/\∃ (y:OA) (z b2:Nat),a.cell? (a4.add 2)=some (.slice y z b2)/\∃ a5,e=some a5/\∃ (A:OA) (B b3:Nat),a.cell? (a5.add 2)=some (.slice A B b3)/\∃ a6,e=some a6/\∃ (C:OA) (D b4:Nat),a.cell? (a6.add 2)=some (.slice C D b4)/\∃ f,C=some f/\0<=d/\d<(D:Int)/\∃ (E:Bool) (F:OA) (G H:Nat) (J:Bool) (L:OA) (M N:Nat),a.cell? (Addr.add (f.add (d.toNat*4)) 0)=some (.bool E)/\a.cell? (Addr.add (f.add (d.toNat*4)) 1)=some (.slice F G H)/\a.cell? (Addr.add (f.add (d.toNat*4)) 2)=some (.bool J)/\a.cell? (Addr.add (f.add (d.toNat*4)) 3)=some (.slice L M N)/\∃ a7,e=some a7/\∃ (O:OA) (Q b5:Nat),a.cell? (a7.add 2)=some (.slice O Q b5)/\∃ g,O=some g/\0<=c/\c<(Q:Int)/\∃ (R:Bool) (S:OA) (T V:Nat) (W:Bool) (X:OA) (Z a0:Nat),a.cell? (Addr.add (g.add (c.toNat*4)) 0)=some (.bool R)/\a.cell? (Addr.add (g.add (c.toNat*4)) 1)=some (.slice S T V)/\a.cell? (Addr.add (g.add (c.toNat*4)) 2)=some (.bool W)/\a.cell? (Addr.add (g.add (c.toNat*4)) 3)=some (.slice X Z a0)/\∃ a8,y=some a8/\0<=c/\c<(z:Int)/\wpH P (Instr.storeAt 101 (.pointer (some (a8.add (c.toNat*4)))) (.agg #[.bool E,.slice F G H,.bool J,.slice L M N])) (fun _ c1=>∃ a9,A=some a9/\0<=d/\d<(B:Int)/\wpH P (Instr.storeAt 101 (.pointer (some (a9.add (d.toNat*4)))) (.agg #[.bool R,.slice S T V,.bool W,.slice X Z a0])) (fun _ c2=>K (.tuple #[]) c2) c1) a)))
theorem A9h(a:OA)(b:Int)(d:Int)(hvc:B4x Tryz.prog a b d h K):FCall Tryz.prog Uq #[.pointer a,I b,I d] h K:=
 B8 Tryz.func102 (c:=C2 Tryz.f102) (by kernel_rfl) (rs:=[]) (by kernel_rfl) (fa:=⟨[(2,⟨[17],[],[.int .i64 0],⟨([8]++Lrg 17 18),[]⟩⟩)],[],[(4,((Lrg 0 16),[[],[],[],[],[],[],[4,5],[4,5,6],[],[],[8,9],[8,9,10],([0,1]++Lrg 4 8),([0,1]++Lrg 4 9),(Lrg 0 14),(Lrg 0 15)])),(6,((Lrg 0 28),[[],[0],[0,1],[0,1,2],[],[],[5],[5,6],[5,6,7],[],[],[10],[10,11],[10,11,12],[],[10,11,12,13,14],[10,11,12,13,14,15],[],[17],[17,18],[17,18,19],[],[17,18,19,20,21],[17,18,19,20,21,22],(Lrg 0 9++Lrg 10 14),(Lrg 0 9++Lrg 10 15),(Lrg 0 26),(Lrg 0 27)]))],[],[]⟩)
  (cfg:=⟨61,[],none,[76],[],false⟩) (args:=[.pointer a,I b,I d]) (by kernel_rfl) (B0 Tryz.call76 Bodies.nil) (Eq.mp (by kernel_rfl) hvc)
def B4y(P:Program)(i:OA)(t:Int)(c:Int)(h:Heap)(K:Value->Heap->Prop):Prop:=
 ∃ (d:List Value->Heap->Prop) (j:List Value->Heap->Nat),d [I t] h/\
 ∀ (a:Int),∀ b,d [I a] b->∃ s,i=some s/\∃ (u:OA) (k v:Nat),b.cell? (s.add 2)=some (.slice u k v)/\Br (decide (a<(k:Int))) (FCall P Fd #[.pointer i,I a] b (fun x e=>∃ (l:OA) (m w:Nat),x= .slice l m w/\∃ g,l=some g/\0<=c/\c<(m:Int)/\∃ (n:Bool) (o:OA) (p q:Nat),e.cell? (Addr.add (g.add (c.toNat*2)) 0)=some (.bool n)/\e.cell? (Addr.add (g.add (c.toNat*2)) 1)=some (.slice o p q)/\FCall P G0 #[.agg #[.bool n,.slice o p q]] e (fun y f=>∃ (r:Bool),y= .bool r/\Br (!r) (K (.tuple #[I a,.bool true]) f)
 (d [I (B4 (a+1))] f/\j [I (B4 (a+1))] f<j [I a] b))))
 (K (.tuple #[I 0,.bool false]) b)
theorem A9i(a:OA)(b:Int)(d:Int)(hvc:B4y Tryz.prog a b d h K):FCall Tryz.prog Ur #[.pointer a,I b,I d] h K:=
 B8 Tryz.func101 (c:=C2 Tryz.f101) (by kernel_rfl) (rs:=[.tmp 6,.tmp 7]) (by kernel_rfl) (fa:=⟨[(2,⟨[8],[],[.int .i64 0],⟨([6,7,8]++Lrg 10 18),[]⟩⟩)],[],[],[],[]⟩)
  (cfg:=⟨28,[],none,[76,135],[],false⟩) (args:=[.pointer a,I b,I d]) (by kernel_rfl) (B0 Tryz.call76 (B0 Tryz.call135 Bodies.nil)) (Eq.mp (by kernel_rfl) hvc)
def B0z(P:Program)(F:OA)(b4:Int)(b5:Int)(b:Int)(b6:Bool)(b7:OA)(b8 b9:Nat)(h:Heap)(K:Value->Heap->Prop):Prop:=
 FCall P Fd #[.pointer F,I b4] h (fun c2 c3=>∃ (i:OA) (e c0:Nat),c2= .slice i e c0/\FCall P Fd #[.pointer F,I b5] c3 (fun c4 v=>∃ (j:OA) (k c1:Nat),c4= .slice j k c1/\∃ A,i=some A/\0<=b/\b<(e:Int)/\∃ (m:Bool) (n:OA) (o p:Nat),v.cell? (Addr.add (A.add (b.toNat*2)) 0)=some (.bool m)/\v.cell? (Addr.add (A.add (b.toNat*2)) 1)=some (.slice n o p)/\∃ (f:List Value->Heap->Prop) (d:List Value->Heap->Nat),f [I 0] v/\
 ∀ (a:Int),∀ c,f [I a] c->Br (decide (a<(e:Int))) (∃ B,i=some B/\0<=a/\a<(e:Int)/\∃ (q:Bool) (r:OA) (s t:Nat),c.cell? (Addr.add (B.add (a.toNat*2)) 0)=some (.bool q)/\c.cell? (Addr.add (B.add (a.toNat*2)) 1)=some (.slice r s t)/\∃ (u:List Value->Heap->Prop),(FCall P G0 #[.agg #[.bool q,.slice r s t]] c (fun c5 a8=>∃ (G:Bool),c5= .bool G/\Br G (FCall P G0 #[.agg #[.bool m,.slice n o p]] a8 (fun c6 g=>∃ (H:Bool),c6= .bool H/\Br H (f [I (B4 (a+1))] g/\d [I (B4 (a+1))] g<d [I a] c)
 (∃ C,j=some C/\0<=a/\a<(k:Int)/\∃ (J:Bool) (L:OA) (M N:Nat),g.cell? (Addr.add (C.add (a.toNat*2)) 0)=some (.bool J)/\g.cell? (Addr.add (C.add (a.toNat*2)) 1)=some (.slice L M N)/\FCall P G0 #[.agg #[.bool J,.slice L M N]] g (fun c7 w=>∃ (O:Bool),c7= .bool O/\Br O (f [I (B4 (a+1))] w/\d [I (B4 (a+1))] w<d [I a] c)
 (u [] w)))))
 (u [] a8)))/\
 ∀ b2,u [] b2->wpH P (Instr.alloc 185 true (.tuple #[])) (fun c8 x=>∃ (l:Addr),c8= .pointer (some l)/\∃ D,j=some D/\0<=b/\b<(k:Int)/\∃ (Q:Bool) (R:OA) (S T:Nat),x.cell? (Addr.add (D.add (b.toNat*2)) 0)=some (.bool Q)/\x.cell? (Addr.add (D.add (b.toNat*2)) 1)=some (.slice R S T)/\FCall P R7 #[.pointer (some l),.agg #[.bool Q,.slice R S T],.agg #[.bool q,.slice r s t]] x (fun c9 y=>c9= .tuple #[]/\∃ E,j=some E/\0<=a/\a<(k:Int)/\∃ (V:Bool) (W:OA) (X Z:Nat),y.cell? (Addr.add (E.add (a.toNat*2)) 0)=some (.bool V)/\y.cell? (Addr.add (E.add (a.toNat*2)) 1)=some (.slice W X Z)/\FCall P Da #[.pointer (some l),.agg #[.bool m,.slice n o p],.agg #[.bool V,.slice W X Z]] y (fun d0 a9=>d0= .tuple #[]/\FCall P Nr #[.pointer (some l)] a9 (fun d1 z=>∃ (a0:Bool) (a1:OA) (a2 a3:Nat),d1= .agg #[.bool a0,.slice a1 a2 a3]/\Heap.le a9 z/\FCall P Jm #[.agg #[.bool a0,.slice a1 a2 a3],.agg #[.bool b6,.slice b7 b8 b9]] z (fun d2 b0=>∃ (a4:Bool) (a5:OA) (a6 a7:Nat),d2= .agg #[.bool a4,.slice a5 a6 a7]/\Heap.le z b0/\∃ b3,i=some b3/\0<=a/\a<(e:Int)/\wpH P (Instr.storeAt 94 (.pointer (some (b3.add (a.toNat*2)))) (.agg #[.bool a4,.slice a5 a6 a7])) (fun _ b1=>f [I (B4 (a+1))] b1/\d [I (B4 (a+1))] b1<d [I a] c) b0))))) b2)
 (K (.tuple #[]) c)))
theorem A7e(a:OA)(b:Int)(d:Int)(e:Int)(f:Bool)(g:OA)(i j:Nat)(hvc:B0z Tryz.prog a b d e f g i j h K):FCall Tryz.prog Nw #[.pointer a,I b,I d,I e,.agg #[.bool f,.slice g i j]] h K:=
 B8 Tryz.func104 (c:=C2 Tryz.f104) (by kernel_rfl) (rs:=[]) (by kernel_rfl) (fa:=⟨[(4,⟨[28],[],[.int .i64 0],⟨([13,14,15]++Lrg 28 37),[14]⟩⟩)],[(7,⟨[],[],[],⟨(Lrg 33 13),[]⟩⟩)],[(8,([0,1,2,3,4,5],[[],[],[0,1],[0,1,2],[],[0,1,2,3,4]])),(9,([0,1,2,3,4,5],[[],[],[],[1,2],[1,2,3],[0,1,2,3,4]])),(10,([0,1,3,2,4,5,6],[[],[],[],[],[2,3],[0,1,2,3,4],[0,1,2,3,4,5]]))],[],[]⟩)
  (cfg:=⟨65,[9,12,14],none,[76,135,136,150,151,160],[150,160],false⟩) (args:=[.pointer a,I b,I d,I e,.agg #[.bool f,.slice g i j]]) (by kernel_rfl) (B0 Tryz.call76 (B0 Tryz.call135 (B0 Tryz.call136 (B0 Tryz.call150 (B0 Tryz.call151 (B0 Tryz.call160 Bodies.nil)))))) (Eq.mp (by kernel_rfl) hvc)
def A7a(P:Program)(m:OA)(Z:Int)(h:Heap)(K:Value->Heap->Prop):Prop:=
 FCall P Ly #[I 1] h (fun a3 a4=>∃ (G:Bool) (H:OA) (J L:Nat),a3= .agg #[.bool G,.slice H J L]/\∃ (o:List Value->Heap->Prop) (p:List Value->Heap->Nat),o [.slice none 0 0,I 1,I 0,.bool G,.slice H J L] a4/\
 ∀ (e:OA) (b f:Nat) (d:Int) (a:Int) (g:Bool) (i:OA) (j k:Nat),∀ n,o [.slice e b f,I d,I a,.bool g,.slice i j k] n->Br (decide (a<Z)) (FCall P Ur #[.pointer m,I (b:Int),I a] n (fun a5 s=>∃ (t:Int) (M:Bool),a5= .tuple #[I t,.bool M]/\Br (!M) (o [.slice e b f,I d,I (B4 (a+1)),.bool g,.slice i j k] s/\p [.slice e b f,I d,I (B4 (a+1)),.bool g,.slice i j k] s<p [.slice e b f,I d,I a,.bool g,.slice i j k] n)
 (∃ (u:List Value->Heap->Prop),(Br (t != (b:Int)) (FCall P Uq #[.pointer m,I (b:Int),I t] s (fun a6 a7=>a6= .tuple #[]/\u [I (B4 (0-d))] a7))
 (u [I d] s))/\
 ∀ (v:Int),∀ E,u [I v] E->∃ X,m=some X/\∃ (a0:OA) (N a1:Nat),E.cell? (X.add 2)=some (.slice a0 N a1)/\∃ (q:List Value->Heap->Prop) (r:List Value->Heap->Nat),q [I 0] E/\
 ∀ (c:Int),∀ l,q [I c] l->Br (decide (c<(N:Int))) (Br (c != (b:Int)) (FCall P Nw #[.pointer m,I c,I (b:Int),I a,.agg #[.bool g,.slice i j k]] l (fun a8 V=>a8= .tuple #[]/\q [I (B4 (c+1))] V/\r [I (B4 (c+1))] V<r [I c] l))
 (q [I (B4 (c+1))] l/\r [I (B4 (c+1))] l<r [I c] l))
 (FCall P Fd #[.pointer m,I (b:Int)] l (fun a9 D=>∃ (O:OA) (Q a2:Nat),a9= .slice O Q a2/\∃ F,O=some F/\0<=a/\a<(Q:Int)/\∃ (w:Bool) (x:OA) (y z:Nat),D.cell? (Addr.add (F.add (a.toNat*2)) 0)=some (.bool w)/\D.cell? (Addr.add (F.add (a.toNat*2)) 1)=some (.slice x y z)/\wpH P (Instr.buildSlice 27 1 #[(0,I a)]) (fun b0 b1=>∃ (R:OA) (S T:Nat),b0= .slice R S T/\wpH P (Builtin.append_ #[27,27] 27 #[.slice e b f,.slice R S T]) (fun b2 W=>∃ (A:OA) (B C:Nat),b2= .slice A B C/\o [.slice A B C,I v,I (B4 (a+1)),.bool w,.slice x y z] W/\p [.slice A B C,I v,I (B4 (a+1)),.bool w,.slice x y z] W<p [.slice e b f,I d,I a,.bool g,.slice i j k] n) b1) D)))))
 (K (.tuple #[.slice e b f,.agg #[.bool g,.slice i j k],I d]) n))
theorem A3j(a:OA)(b:Int)(hvc:A7a Tryz.prog a b h K):FCall Tryz.prog Ca #[.pointer a,I b] h K:=
 B8 Tryz.func69 (c:=C2 Tryz.f69) (by kernel_rfl) (rs:=[.tmp 4,.cell 5 94,.tmp 6]) (by kernel_rfl) (fa:=⟨[(4,⟨[7,9,17],[(8,2)],[.slice none 0 0,.int .i64 0,.int .i64 0,.bool false,.slice none 0 0],⟨([7,9,10,11,12,13,14]++Lrg 17 52),[8]⟩⟩),(13,⟨[45],[],[.int .i64 0],⟨([14]++Lrg 45 13),[]⟩⟩)],[(12,⟨[9],[],[.int .i64 0],⟨([9]++Lrg 31 9),[]⟩⟩)],[(21,([0,1,2,3,4,5],[[],[],[],[0],[0,1,3],[0,1,2,3,4]]))],[],[]⟩)
  (cfg:=⟨72,[5,8],none,[76,100,101,102,104],[102,104],false⟩) (args:=[.pointer a,I b]) (by kernel_rfl) (B0 Tryz.call76 (B0 Tryz.call100 (B0 Tryz.call101 (B0 Tryz.call102 (B0 Tryz.call104 Bodies.nil))))) (Eq.mp (by kernel_rfl) hvc)
def B0q(P:Program)(e:OA)(f g:Nat)(i:Int)(h:Heap)(K:Value->Heap->Prop):Prop:=
 wpH P (Instr.box 87 (.slice e f g)) (fun j k=>∃ (b:Addr),j= .pointer (some b)/\wpH P (Instr.box 3 (I i)) (fun l d=>∃ (a:Addr),l= .pointer (some a)/\∃ (c:Int),d.cell? a=some (I c)/\Br (decide (c<(1:Int))) (False)
 (K (.func (.func 174) #[] #[.pointer (some b),.pointer (some a)]) d)) k) h
theorem A72(a:OA)(b d:Nat)(e:Int)(hvc:B0q Tryz.prog a b d e h K):FCall Tryz.prog Nu #[.slice a b d,I e] h K:=
 B8 Tryz.func131 (c:=C2 Tryz.f131) (by kernel_rfl) (rs:=[.tmp 4]) (by kernel_rfl) (fa:=⟨[],[],[],[],[]⟩)
  (cfg:=⟨9,[],none,[],[],false⟩) (args:=[.slice a b d,I e]) (by kernel_rfl) Bodies.nil (Eq.mp (by kernel_rfl) hvc)
def A73(P:Program)(p:Nat)(f:Addr)(j:Addr)(h:Heap)(K:Value->Heap->Prop):Prop:=
 ∃ (g:List Value->Heap->Prop) (k:List Value->Heap->Nat),g [I 0] h/\
 ∀ (a:Int),∀ d,g [I a] d->∃ (q:OA) (l r:Nat),d.cell? f=some (.slice q l r)/\Br (decide (a<(l:Int))) (∃ (c:Int),d.cell? j=some (I c)/\∃ (s:OA) (b t:Nat),d.cell? f=some (.slice s b t)/\(0<=a/\a<=(b:Int))/\∃ (m:OA) (u n:Nat),d.cell? f=some (.slice m u n)/\(0<=B4 (a+(if ((b-(a.toNat):Nat):Int)<c then ((b-(a.toNat):Nat):Int) else c))/\B4 (a+(if ((b-(a.toNat):Nat):Int)<c then ((b-(a.toNat):Nat):Int) else c))<=(n:Int))/\(0<=B4 (a+(if ((b-(a.toNat):Nat):Int)<c then ((b-(a.toNat):Nat):Int) else c))/\B4 (a+(if ((b-(a.toNat):Nat):Int)<c then ((b-(a.toNat):Nat):Int) else c))<=(((B4 (a+(if ((b-(a.toNat):Nat):Int)<c then ((b-(a.toNat):Nat):Int) else c))).toNat:Nat):Int))/\(0<=a/\a<=(((B4 (a+(if ((b-(a.toNat):Nat):Int)<c then ((b-(a.toNat):Nat):Int) else c))).toNat:Nat):Int))/\YCall P p #[.slice (J4 m ((B4 (a+(if ((b-(a.toNat):Nat):Int)<c then ((b-(a.toNat):Nat):Int) else c))).toNat) (a.toNat) 4) ((B4 (a+(if ((b-(a.toNat):Nat):Int)<c then ((b-(a.toNat):Nat):Int) else c))).toNat-a.toNat) ((B4 (a+(if ((b-(a.toNat):Nat):Int)<c then ((b-(a.toNat):Nat):Int) else c))).toNat-a.toNat)] d (fun v e=>∃ (o:Bool),v= .bool o/\Br (!o) (K (.tuple #[]) e)
 (∃ (i:Int),e.cell? j=some (I i)/\g [I (B4 (a+i))] e/\k [I (B4 (a+i))] e<k [I a] d)))
 (K (.tuple #[]) d)
theorem A3h(a:Nat)(b:Addr)(d:Addr)(hvc:A73 Tryz.prog a b d h K):FCall Tryz.prog Fa #[.func (.yield a) #[] #[],.pointer (some b),.pointer (some d)] h K:=
 B8 Tryz.func174 (c:=C2 Tryz.f174) (by kernel_rfl) (rs:=[]) (by kernel_rfl) (fa:=⟨[(1,⟨[4],[],[.int .i64 0],⟨(Lrg 4 27),[]⟩⟩)],[],[(3,([0,1,2,3,4,5,6],[[],[],[],[1,2],[1,2,3],[0,1,2,3,4],[0,1,2,3,4,5]]))],[],[]⟩)
  (cfg:=⟨31,[],none,[],[],false⟩) (args:=[.func (.yield a) #[] #[],.pointer (some b),.pointer (some d)]) (by kernel_rfl) Bodies.nil (Eq.mp (by kernel_rfl) hvc)
theorem Vn:∀ (args:Array Value) (W:World),(callFunc Fa args).run Tryz.prog W= .ok (.enter Fa args) W:=Tryz.call174
def A70(P:Program)(p:OA)(j q:Nat)(k:Int)(h:Heap)(K:Value->Heap->Prop):Prop:=
 Br (decide (k<(0:Int))) (False)
 (FCall P A1k #[U (C4 (j:Int)),U (C4 k)] h (fun r s=>∃ (l:Int) (e:Int),r= .tuple #[U l,U e]/\Br (decide (l>(0:Int))) (False)
 (Br (decide (e>(9223372036854775807:Int))) (False)
 (wpH P (Instr.makeSlice 22 (I (B4 e)) (I (B4 e))) (fun t u=>∃ (d:OA) (c b:Nat),t= .slice d c b/\wpH P (Builtin.copy_ #[22,22] 3 #[.slice d c b,.slice p j q]) (fun v w=>∃ (m:Int),v=I m/\∃ (g:List Value->Heap->Prop) (n:List Value->Heap->Nat),g [I m] w/\
 ∀ (a:Int),∀ f,g [I a] f->Br (decide (a<(c:Int))) ((0<=a/\a<=(c:Int))/\(0<=a/\a<=(b:Int))/\wpH P (Builtin.copy_ #[22,22] 3 #[.slice (J4 d b (a.toNat) 1) (c-(a.toNat)) (b-(a.toNat)),.slice (J4 d b 0 1) ((a.toNat)-0) (b-0)]) (fun x o=>∃ (i:Int),x=I i/\g [I (B4 (a+i))] o/\n [I (B4 (a+i))] o<n [I a] f) f)
 (K (.slice d c b) f)) u) s))))
theorem A3f(a:OA)(b d:Nat)(e:Int)(hvc:A70 Tryz.prog a b d e h K):FCall Tryz.prog Pk #[.slice a b d,I e] h K:=
 B8 Tryz.func114 (c:=C2 Tryz.f114) (by kernel_rfl) (rs:=[.tmp 4]) (by kernel_rfl) (fa:=⟨[(8,⟨[8],[],[.int .i64 0],⟨([8]++Lrg 34 13),[]⟩⟩)],[],[(9,((Lrg 0 10),[[],[],[],[1,2],[],[],[4,5],[1,2,3,4,5,6],(Lrg 0 8),(Lrg 0 9)]))],[],[]⟩)
  (cfg:=⟨48,[],none,[165],[],false⟩) (args:=[.slice a b d,I e]) (by kernel_rfl) (B0 Tryz.call165 Bodies.nil) (Eq.mp (by kernel_rfl) hvc)
def B0t(P:Program)(i:Int)(j:OA)(d k:Nat)(h:Heap)(K:Value->Heap->Prop):Prop:=
 ∃ (c:List Value->Heap->Prop) (e:List Value->Heap->Nat),c [I 0] h/\
 ∀ (a:Int),∀ b,c [I a] b->Br (decide (a<(d:Int))) (∃ g,j=some g/\0<=a/\a<(d:Int)/\∃ (f:ByteArray),b.cell? (g.add (a.toNat*1))=some (.string f)/\Br (decide (((ByteArray.size f:Nat):Int)>i)) (K (.bool false) b)
 (c [I (B4 (a+1))] b/\e [I (B4 (a+1))] b<e [I a] b))
 (K (.bool true) b)
theorem A76(a:Int)(b:OA)(d e:Nat)(hvc:B0t Tryz.prog a b d e h K):FCall Tryz.prog Uo #[I a,.slice b d e] h K:=
 B8 Tryz.func22 (c:=C2 Tryz.f22) (by kernel_rfl) (rs:=[.tmp 4]) (by kernel_rfl) (fa:=⟨[(2,⟨[5],[],[.int .i64 0],⟨(Lrg 4 15),[]⟩⟩)],[],[],[],[]⟩)
  (cfg:=⟨19,[],none,[],[],false⟩) (args:=[I a,.slice b d e]) (by kernel_rfl) Bodies.nil (Eq.mp (by kernel_rfl) hvc)
def Mo(P:Program)(d:Int)(e:Int)(f:OA)(b g:Nat)(a:Int)(i:Int)(h:Heap)(K:Value->Heap->Prop):Prop:=
 Br (decide (d<=a)) (Br (decide (e<=a)) (Br (decide ((b:Int)<=(B4 ((B4 (a*a))+2)))) (FCall P Uo #[I i,.slice f b g] h (fun j k=>∃ (c:Bool),j= .bool c/\K (.bool c) k))
 (K (.bool false) h))
 (K (.bool false) h))
 (K (.bool false) h)
theorem Qs(a:Int)(b:Int)(d:OA)(e f:Nat)(g:Int)(i:Int)(hvc:Mo Tryz.prog a b d e f g i h K):FCall Tryz.prog Bi #[.agg #[I a,I b,.slice d e f],I g,I i] h K:=
 B8 Tryz.func48 (c:=C2 Tryz.f48) (by kernel_rfl) (rs:=[.tmp 6]) (by kernel_rfl) (fa:=⟨[],[],[],[],[]⟩)
  (cfg:=⟨33,[3],none,[22],[],false⟩) (args:=[.agg #[I a,I b,.slice d e f],I g,I i]) (by kernel_rfl) (B0 Tryz.call22 Bodies.nil) (Eq.mp (by kernel_rfl) hvc)
def A21(P:Program)(l:OA)(c n:Nat)(m:OA)(e o:Nat)(h:Heap)(K:Value->Heap->Prop):Prop:=
 Br ((c:Int) != (e:Int)) (K (.bool false) h)
 (∃ (d:List Value->Heap->Prop) (f:List Value->Heap->Nat),d [I 0] h/\
 ∀ (a:Int),∀ b,d [I a] b->Br (decide (a<(c:Int))) (∃ j,l=some j/\0<=a/\a<(c:Int)/\∃ (g:ByteArray),b.cell? (j.add (a.toNat*1))=some (.string g)/\∃ k,m=some k/\0<=a/\a<(e:Int)/\∃ (i:ByteArray),b.cell? (k.add (a.toNat*1))=some (.string i)/\Br (!(ByteArray.toList g==ByteArray.toList i)) (K (.bool false) b)
 (d [I (B4 (a+1))] b/\f [I (B4 (a+1))] b<f [I a] b))
 (K (.bool true) b))
theorem A0r(a:OA)(b d:Nat)(e:OA)(f g:Nat)(hvc:A21 Tryz.prog a b d e f g h K):FCall Tryz.prog Gj #[.slice a b d,.slice e f g] h K:=
 B8 Tryz.func25 (c:=C2 Tryz.f25) (by kernel_rfl) (rs:=[.tmp 4]) (by kernel_rfl) (fa:=⟨[(4,⟨[5],[],[.int .i64 0],⟨([4,5]++Lrg 11 15),[]⟩⟩)],[],[(6,((Lrg 0 9),[[],[],[0,1],[0,1,2],[],[],[4,5],[4,5,6],(Lrg 0 8)]))],[],[]⟩)
  (cfg:=⟨26,[],none,[],[],false⟩) (args:=[.slice a b d,.slice e f g]) (by kernel_rfl) Bodies.nil (Eq.mp (by kernel_rfl) hvc)
def B4v(P:Program)(l:OA)(c n:Nat)(m:OA)(e o:Nat)(h:Heap)(K:Value->Heap->Prop):Prop:=
 Br ((c:Int) != (e:Int)) (K (.bool false) h)
 (∃ (d:List Value->Heap->Prop) (f:List Value->Heap->Nat),d [I 0] h/\
 ∀ (a:Int),∀ b,d [I a] b->Br (decide (a<(c:Int))) (∃ j,l=some j/\0<=a/\a<(c:Int)/\∃ (g:Int),b.cell? (j.add (a.toNat*1))=some (I g)/\∃ k,m=some k/\0<=a/\a<(e:Int)/\∃ (i:Int),b.cell? (k.add (a.toNat*1))=some (I i)/\Br (g != i) (K (.bool false) b)
 (d [I (B4 (a+1))] b/\f [I (B4 (a+1))] b<f [I a] b))
 (K (.bool true) b))
theorem A9f(a:OA)(b d:Nat)(e:OA)(f g:Nat)(hvc:B4v Tryz.prog a b d e f g h K):FCall Tryz.prog A06 #[.slice a b d,.slice e f g] h K:=
 B8 Tryz.func21 (c:=C2 Tryz.f21) (by kernel_rfl) (rs:=[.tmp 4]) (by kernel_rfl) (fa:=⟨[(4,⟨[5],[],[.int .i64 0],⟨([4,5]++Lrg 11 15),[]⟩⟩)],[],[(6,((Lrg 0 9),[[],[],[0,1],[0,1,2],[],[],[4,5],[4,5,6],(Lrg 0 8)]))],[],[]⟩)
  (cfg:=⟨26,[],none,[],[],false⟩) (args:=[.slice a b d,.slice e f g]) (by kernel_rfl) Bodies.nil (Eq.mp (by kernel_rfl) hvc)
def Yk(P:Program)(b:Int)(c:Int)(d:OA)(e f:Nat)(g:Int)(i:Int)(j:OA)(k l:Nat)(h:Heap)(K:Value->Heap->Prop):Prop:=
 Br (b==g) (Br (c==i) (FCall P Gj #[.slice d e f,.slice j k l] h (fun m n=>∃ (a:Bool),m= .bool a/\K (.bool a) n))
 (K (.bool false) h))
 (K (.bool false) h)
theorem Yj(a:Int)(b:Int)(d:OA)(e f:Nat)(g:Int)(i:Int)(j:OA)(k l:Nat)(hvc:Yk Tryz.prog a b d e f g i j k l h K):FCall Tryz.prog Ht #[.agg #[I a,I b,.slice d e f],.agg #[I g,I i,.slice j k l]] h K:=
 B8 Tryz.func20 (c:=C2 Tryz.f20) (by kernel_rfl) (rs:=[.tmp 4]) (by kernel_rfl) (fa:=⟨[],[],[],[],[]⟩)
  (cfg:=⟨24,[2,3],none,[25],[],false⟩) (args:=[.agg #[I a,I b,.slice d e f],.agg #[I g,I i,.slice j k l]]) (by kernel_rfl) (B0 Tryz.call25 Bodies.nil) (Eq.mp (by kernel_rfl) hvc)
def B0s(P:Program) (h:Heap)(K:Value->Heap->Prop):Prop:=
 wpH P (Instr.buildSlice 22 4 #[(0,.string ({ data:=#[50] }:ByteArray)),(1,.string ({ data:=#[52] }:ByteArray)),(2,.string ({ data:=#[49] }:ByteArray)),(3,.string ({ data:=#[50] }:ByteArray))]) (fun D E=>∃ (b:OA) (c d:Nat),D= .slice b c d/\FCall P Pl #[.agg #[I 2,I 2,.slice b c d]] E (fun F G=>∃ (B:Int) (C:Int) (e:OA) (f g:Nat) (i:OA) (j k:Nat) (l:Int),F= .tuple #[.agg #[I B,I C,.slice e f g],.slice i j k,I l]/\wpH P (Instr.buildSlice 22 4 #[(0,.string ({ data:=#[49] }:ByteArray)),(1,.string ({ data:=#[50] }:ByteArray)),(2,.string ({ data:=#[51] }:ByteArray)),(3,.string ({ data:=#[52] }:ByteArray))]) (fun H J=>∃ (m:OA) (n o:Nat),H= .slice m n o/\FCall P A1j #[.agg #[I 2,I 2,.slice m n o]] J (fun L z=>∃ (p:ByteArray) (q:Int),L= .tuple #[.string p,I q]/\Br (l==(0:Int)) (wpH P (Instr.buildSlice 22 4 #[(0,.string ({ data:=#[49] }:ByteArray)),(1,.string ({ data:=#[50] }:ByteArray)),(2,.string ({ data:=#[48] }:ByteArray)),(3,.string ({ data:=#[48] }:ByteArray))]) (fun M N=>∃ (r:OA) (s t:Nat),M= .slice r s t/\FCall P Gj #[.slice e f g,.slice r s t] N (fun O A=>∃ (u:Bool),O= .bool u/\Br u (wpH P (Instr.buildSlice 27 1 #[(0,I 0)]) (fun Q R=>∃ (v:OA) (w x:Nat),Q= .slice v w x/\FCall P A06 #[.slice i j k,.slice v w x] R (fun S a=>∃ (y:Bool),S= .bool y/\Br y (Br (ByteArray.toList p==ByteArray.toList ({ data:=#[45,50] }:ByteArray)) (K (.bool (q==(0:Int))) a)
 (K (.bool false) a))
 (K (.bool false) a))) A)
 (K (.bool false) A))) z)
 (K (.bool false) z))) G)) h
theorem A75 (hvc:B0s Tryz.prog  h K):FCall Tryz.prog Ba #[] h K:=
 B8 Tryz.func14 (c:=C2 Tryz.f14) (by kernel_rfl) (rs:=[.tmp 0]) (by kernel_rfl) (fa:=⟨[],[],[],[],[]⟩)
  (cfg:=⟨42,[1,2],none,[15,21,25,37],[],false⟩) (args:=[]) (by kernel_rfl) (B0 Tryz.call15 (B0 Tryz.call21 (B0 Tryz.call25 (B0 Tryz.call37 Bodies.nil)))) (Eq.mp (by kernel_rfl) hvc)
def B0r(P:Program)(b:Int)(c:Int)(d:OA)(e f:Nat)(h:Heap)(K:Value->Heap->Prop):Prop:=
 FCall P Bi #[.agg #[I b,I c,.slice d e f],I 6,I 12] h (fun g i=>∃ (a:Bool),g= .bool a/\K (.bool a) i)
theorem A74(a:Int)(b:Int)(d:OA)(e f:Nat)(hvc:B0r Tryz.prog a b d e f h K):FCall Tryz.prog Un #[.agg #[I a,I b,.slice d e f]] h K:=
 B8 Tryz.func13 (c:=C2 Tryz.f13) (by kernel_rfl) (rs:=[.tmp 2]) (by kernel_rfl) (fa:=⟨[],[],[],[],[]⟩)
  (cfg:=⟨5,[1],none,[48],[],false⟩) (args:=[.agg #[I a,I b,.slice d e f]]) (by kernel_rfl) (B0 Tryz.call48 Bodies.nil) (Eq.mp (by kernel_rfl) hvc)
def Gz(P:Program)(b:Int)(d:Int)(e:OA)(f g:Nat)(h:Heap)(K:Value->Heap->Prop):Prop:=
 FCall P Un #[.agg #[I b,I d,.slice e f g]] h (fun d0 c5=>∃ (x:Bool),d0= .bool x/\Br (!x) (FCall P Ba #[] c5 (fun d1 d2=>∃ (y:Bool),d1= .bool y/\K (.bool y) d2))
 (FCall P Nt #[.agg #[I b,I d,.slice e f g]] c5 (fun d3 u=>∃ (z:Bool),d3= .bool z/\Br (!z) (FCall P Ba #[] u (fun d4 d5=>∃ (A:Bool),d4= .bool A/\K (.bool A) d5))
 (Br (b != d) (FCall P Ba #[] u (fun d6 d7=>∃ (B:Bool),d6= .bool B/\K (.bool B) d7))
 (FCall P A1j #[.agg #[I b,I d,.slice e f g]] u (fun d8 d9=>∃ (l:ByteArray) (C:Int),d8= .tuple #[.string l,I C]/\FCall P B1w #[.agg #[I b,I d,.slice e f g]] d9 (fun e0 e1=>∃ (m:OA) (k c9:Nat) (D:Int) (E:Int) (F:OA) (G H:Nat) (J:Int) (L:Int) (M:OA) (N O:Nat) (q:Int),e0= .tuple #[.slice m k c9,.agg #[I D,I E,.slice F G H],.agg #[I J,I L,.slice M N O],I q]/\FCall P Ld #[.agg #[I b,I d,.slice e f g]] e1 (fun e2 j=>∃ (Q:Int) (R:Int) (S:OA) (T V:Nat) (r:Int),e2= .tuple #[.agg #[I Q,I R,.slice S T V],I r]/\Br (C != (0:Int)) (K (.bool false) j)
 (Br (!((q==(0:Int))==(!(ByteArray.toList l==ByteArray.toList ({ data:=#[48] }:ByteArray))))) (K (.bool false) j)
 (Br (!((r==(0:Int))==(!(ByteArray.toList l==ByteArray.toList ({ data:=#[48] }:ByteArray))))) (K (.bool false) j)
 (Br (ByteArray.toList l==ByteArray.toList ({ data:=#[48] }:ByteArray)) (Br (q==(7:Int)) (Br (r==(7:Int)) (FCall P Ba #[] j (fun e3 e4=>∃ (W:Bool),e3= .bool W/\K (.bool W) e4))
 (K (.bool false) j))
 (K (.bool false) j))
 (FCall P A1i #[.agg #[I D,I E,.slice F G H],.agg #[I J,I L,.slice M N O]] j (fun e5 e6=>∃ (X:Int) (Z:Int) (a0:OA) (a1 a2:Nat) (a3:Int),e5= .tuple #[.agg #[I X,I Z,.slice a0 a1 a2],I a3]/\FCall P A1i #[.agg #[I b,I d,.slice e f g],.agg #[I Q,I R,.slice S T V]] e6 (fun e7 e8=>∃ (a4:Int) (a5:Int) (a6:OA) (a7 a8:Nat) (a9:Int),e7= .tuple #[.agg #[I a4,I a5,.slice a6 a7 a8],I a9]/\FCall P Hs #[I b] e8 (fun e9 n=>∃ (b0:Int) (b1:Int) (b2:OA) (b3 b4:Nat) (b5:Int),e9= .tuple #[.agg #[I b0,I b1,.slice b2 b3 b4],I b5]/\Br (a3 != (0:Int)) (K (.bool false) n)
 (Br (a9 != (0:Int)) (K (.bool false) n)
 (Br (b5 != (0:Int)) (K (.bool false) n)
 (FCall P Ht #[.agg #[I a4,I a5,.slice a6 a7 a8],.agg #[I b0,I b1,.slice b2 b3 b4]] n (fun f0 v=>∃ (b6:Bool),f0= .bool b6/\Br (!b6) (K (.bool false) v)
 (Br ((k:Int) != b) (K (.bool false) v)
 (∃ (s:List Value->Heap->Prop) (b7:List Value->Heap->Nat),s [I 0] v/\
 ∀ (a:Int),∀ p,s [I a] p->Br (decide (a<b)) (∃ (t:List Value->Heap->Prop) (b8:List Value->Heap->Nat),t [I 0] p/\
 ∀ (i:Int),∀ c,t [I i] c->Br (decide (i<d)) (∃ c6,m=some c6/\0<=a/\a<(k:Int)/\∃ (b9:Int),c.cell? (c6.add (a.toNat*1))=some (I b9)/\Br (decide (b9<(0:Int))) (K (.bool false) c)
 (∃ c7,m=some c7/\0<=a/\a<(k:Int)/\∃ (c0:Int),c.cell? (c7.add (a.toNat*1))=some (I c0)/\Br (decide (c0>=b)) (K (.bool false) c)
 (∃ c8,m=some c8/\0<=a/\a<(k:Int)/\∃ (c1:Int),c.cell? (c8.add (a.toNat*1))=some (I c1)/\FCall P A8p #[.agg #[I X,I Z,.slice a0 a1 a2],I a,I i] c (fun f1 w=>∃ (c2:ByteArray),f1= .string c2/\Heap.le c w/\FCall P A8p #[.agg #[I b,I d,.slice e f g],I c1,I i] w (fun f2 o=>∃ (c3:ByteArray),f2= .string c3/\Heap.le w o/\Br (!(ByteArray.toList c2==ByteArray.toList c3)) (K (.bool false) o)
 (t [I (B4 (i+1))] o/\b8 [I (B4 (i+1))] o<b8 [I i] c))))))
 (s [I (B4 (a+1))] c/\b7 [I (B4 (a+1))] c<b7 [I a] p))
 (FCall P Ba #[] p (fun f3 f4=>∃ (c4:Bool),f3= .bool c4/\K (.bool c4) f4)))))))))))))))))))))))
theorem Ln(a:Int)(b:Int)(d:OA)(e f:Nat)(hvc:Gz Tryz.prog a b d e f h K):FCall Tryz.prog Dp #[.agg #[I a,I b,.slice d e f]] h K:=
 B8 Tryz.func11 (c:=C2 Tryz.f11) (by kernel_rfl) (rs:=[.tmp 2]) (by kernel_rfl) (fa:=⟨[(16,⟨[17],[],[.int .i64 0],⟨([2,17,18]++Lrg 120 40),[]⟩⟩),(19,⟨[18],[],[.int .i64 0],⟨([2,18]++Lrg 126 34),[]⟩⟩)],[],[(21,((Lrg 0 18++[19,20,21,22,23,24,18,25,26,27]),[[],[],[0,1],[0,1,2],[0,1,2,3],[0,1,2,3,4],[0,1,2,3,4,5],[0,1,2,3,4,5],(Lrg 0 8),(Lrg 0 9),[0,1,2,3,4,5],[0,1,2,3,4,5,10],(Lrg 0 12),(Lrg 0 13),(Lrg 0 14),(Lrg 0 15),(Lrg 0 15),(Lrg 0 15),(Lrg 0 18),(Lrg 0 15),(Lrg 0 15),(Lrg 0 15),(Lrg 0 15++[20,21]),(Lrg 0 15++[20,21,22]),(Lrg 0 15),(Lrg 0 25),(Lrg 0 26),(Lrg 0 27)]))],[],[]⟩)
  (cfg:=⟨161,[1,6,7,9,11,13,15],none,[13,14,20,33,37,39,41,43,51,54],[],false⟩) (args:=[.agg #[I a,I b,.slice d e f]]) (by kernel_rfl) (B0 Tryz.call13 (B0 Tryz.call14 (B0 Tryz.call20 (B0 Tryz.call33 (B0 Tryz.call37 (B0 Tryz.call39 (B0 Tryz.call41 (B0 Tryz.call43 (B0 Tryz.call51 (B0 Tryz.call54 Bodies.nil)))))))))) (Eq.mp (by kernel_rfl) hvc)
end Go.Proofs.YthilnfgnpdeofaaGreatDoor
