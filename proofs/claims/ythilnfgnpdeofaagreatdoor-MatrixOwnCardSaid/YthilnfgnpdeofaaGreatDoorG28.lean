/-
  Texts of this proof, merged by a program of ours.
-/
import Derived.Test.YthilnfgnpdeofaaGreatDoorProg
import Derived.Test.YthilnfgnpdeofaaGreatDoorG05
import Derived.Test.YthilnfgnpdeofaaGreatDoorG12
import Derived.Test.YthilnfgnpdeofaaGreatDoorG06
import Derived.Test.YthilnfgnpdeofaaGreatDoorG09
import Derived.Test.YthilnfgnpdeofaaGreatDoorG26
import Derived.Test.YthilnfgnpdeofaaGreatDoorG08
namespace Go.Proofs.YthilnfgnpdeofaaGreatDoor
open Go
set_option maxRecDepth 100000
set_option linter.unusedVariables false
variable {h:Heap} {K:Value->Heap->Prop}
abbrev Ls:Nat:=79
abbrev Lr:Nat:=81
abbrev P8:Nat:=132
abbrev Vv:Nat:=96
abbrev Qh:Nat:=133
abbrev Ov:Nat:=43
abbrev Dg:Nat:=108
abbrev Qi:Nat:=67
abbrev Ou:Nat:=71
abbrev B9u:Nat:=49
abbrev B4u:Nat:=51
abbrev C0p:Nat:=54
abbrev Fb:Nat:=45
abbrev B9w:Nat:=57
abbrev B9t:Nat:=60
abbrev B65:Nat:=116
abbrev We:Nat:=46
abbrev B9v:Nat:=33
abbrev B8i:Nat:=35
abbrev B2w:Nat:=94
abbrev B63:Nat:=91
abbrev Fc:Nat:=15
abbrev B93:Nat:=17
abbrev A7o:Nat:=37
abbrev B64:Nat:=39
abbrev B8g:Nat:=23
abbrev B70:Nat:=18
abbrev C0o:Nat:=41
abbrev B6y:Nat:=80
abbrev Df:Nat:=111
abbrev B17:Nat:=82
abbrev B8f:Nat:=92
abbrev Ao:Nat:=68
abbrev Nm:Nat:=76
abbrev A1u:Nat:=102
abbrev A1v:Nat:=101
abbrev Wl:Nat:=104
abbrev Fh:Nat:=69
abbrev B8p:Nat:=270
abbrev Wf:Nat:=131
abbrev Fd:Nat:=174
abbrev B4v:Nat:=74
abbrev B8h:Nat:=141
abbrev B71:Nat:=113
abbrev B6z:Nat:=114
abbrev B94:Nat:=164
abbrev B8j:Nat:=53
abbrev A1r:Nat:=27
abbrev A1s:Nat:=73
abbrev B8n:Nat:=89
abbrev B95:Nat:=115
abbrev A1t:Nat:=105
abbrev B96:Nat:=31
abbrev B8k:Nat:=93
abbrev C00:Nat:=29
abbrev C02:Nat:=30
abbrev Lx:Nat:=72
abbrev B9y:Nat:=50
abbrev B4x:Nat:=52
abbrev C0r:Nat:=55
abbrev B2y:Nat:=56
abbrev B67:Nat:=58
abbrev B8m:Nat:=61
abbrev B9z:Nat:=34
abbrev B8o:Nat:=36
abbrev Qj:Nat:=16
abbrev C01:Nat:=38
abbrev B73:Nat:=99
abbrev B66:Nat:=40
abbrev B97:Nat:=78
abbrev B72:Nat:=19
abbrev B4w:Nat:=83
abbrev B8l:Nat:=24
abbrev C0q:Nat:=42
abbrev Wi:Nat:=22
abbrev Bn:Nat:=48
abbrev Gt:Nat:=25
abbrev Wj:Nat:=21
abbrev As:Nat:=20
abbrev Fe:Nat:=44
abbrev A7r:Nat:=110
abbrev Ke:Nat:=47
abbrev B9x:Nat:=64
abbrev Gs:Nat:=14
abbrev Wg:Nat:=13
abbrev B2x:Nat:=9
abbrev A7q:Nat:=10
abbrev A4h:Nat:=5
abbrev A7p:Nat:=3
abbrev A5k:Nat:=6
abbrev B01:Nat:=4
abbrev B18:Nat:=8
abbrev A0o:Nat:=12
abbrev A5l:Nat:=11
abbrev Nl:Nat:=7
abbrev Ur:Nat:=185
abbrev Pf:Nat:=99
abbrev Lb:Nat:=90
abbrev B8t:Nat:=24
abbrev B8s:Nat:=126
abbrev Cq:Nat:=27
abbrev E7:Nat:=3
theorem B4a:SliceT Tryz.prog Cq E7 (I 0) 1 8:=⟨by kernel_rfl,by kernel_rfl,rfl,by decide⟩
theorem A69:Tryz.prog.cellsOf E7=1/\(Tryz.prog.info? E7).isSome=true:=⟨by kernel_rfl,by kernel_rfl⟩
abbrev Eh:Nat:=87
abbrev Af:Nat:=101
theorem B9l:SliceT Tryz.prog Eh Af (.agg #[.bool false,.slice none 0 0,.bool false,.slice none 0 0]) 4 64:=⟨by kernel_rfl,by kernel_rfl,rfl,by decide⟩
theorem Oo:Tryz.prog.cellsOf Af=4/\(Tryz.prog.info? Af).isSome=true:=⟨by kernel_rfl,by kernel_rfl⟩
abbrev Nb:Nat:=97
abbrev Is:Nat:=94
theorem tZs:SliceT Tryz.prog Nb Is (.agg #[.bool false,.slice none 0 0]) 2 32:=⟨by kernel_rfl,by kernel_rfl,rfl,by decide⟩
theorem A67:Tryz.prog.cellsOf Is=2/\(Tryz.prog.info? Is).isSome=true:=⟨by kernel_rfl,by kernel_rfl⟩
abbrev A5v:Nat:=46
abbrev Ei:Nat:=43
theorem B9m:SliceT Tryz.prog A5v Ei (.slice none 0 0) 1 24:=⟨by kernel_rfl,by kernel_rfl,rfl,by decide⟩
theorem A2o:Tryz.prog.cellsOf Ei=1/\(Tryz.prog.info? Ei).isSome=true:=⟨by kernel_rfl,by kernel_rfl⟩
abbrev B8a:Nat:=123
abbrev B60:Nat:=126
abbrev B6d:Nat:=71
abbrev B42:Nat:=22
def A3k(P:Program)(x:OA)(c B:Nat)(h:Heap)(K:Value->Heap->Prop):Prop:=
 wpH P (Instr.makeSlice 87 (I (c:Int)) (I (c:Int))) (fun y z=>∃ (d:OA) (e g:Nat),y= .slice d e g/\∃ (f:List Value->Heap->Prop) (i:List Value->Heap->Nat),f [I 0] z/\
 ∀ (a:Int),∀ b,f [I a] b->Br (decide (a<(c:Int))) (∃ v,x=some v/\0<=a/\a<(c:Int)/\∃ (j:ByteArray),b.cell? (v.add (a.toNat*1))=some (.string j)/\FCall P Vx #[.string j] b (fun A t=>∃ (k:Bool) (l:OA) (m n:Nat) (o:Bool) (p:OA) (q r:Nat) (s:Bool),A= .tuple #[.agg #[.bool k,.slice l m n,.bool o,.slice p q r],.bool s]/\Br (!s) (K (.tuple #[.slice none 0 0,.bool false]) t)
 (∃ w,d=some w/\0<=a/\a<(e:Int)/\wpH P (Instr.storeAt 101 (.pointer (some (w.add (a.toNat*4)))) (.agg #[.bool k,.slice l m n,.bool o,.slice p q r])) (fun _ u=>f [I (B4 (a+1))] u/\i [I (B4 (a+1))] u<i [I a] b) t)))
 (K (.tuple #[.slice d e g,.bool true]) b)) h
theorem A29(a:OA)(b d:Nat)(hvc:A3k Tryz.prog a b d h K):FCall Tryz.prog Ls #[.slice a b d] h K:=
 B7 Tryz.func79 (c:=C0 Tryz.f79) (by kernel_rfl) (rs:=[.tmp 2,.tmp 3]) (by kernel_rfl) (fa:=⟨[(3,⟨[14],[],[.int .i64 0],⟨([2,3,5,6,7,8]++Lrg 14 17),[7]⟩⟩)],[],[],[],[]⟩)
  (cfg:=⟨32,[7],none,[112],[],false⟩) (args:=[.slice a b d]) (by kernel_rfl) (B0 Tryz.call112 Bodies.nil) (Eq.mp (by kernel_rfl) hvc)
def A3j(P:Program)(v:OA)(d A:Nat)(h:Heap)(K:Value->Heap->Prop):Prop:=
 wpH P (Instr.makeSlice 22 (I (d:Int)) (I (d:Int))) (fun w x=>∃ (e:OA) (f i:Nat),w= .slice e f i/\∃ (g:List Value->Heap->Prop) (j:List Value->Heap->Nat),g [I 0] x/\
 ∀ (a:Int),∀ b,g [I a] b->Br (decide (a<(d:Int))) (∃ c,v=some c/\0<=a/\a<(d:Int)/\∃ (k:Bool) (l:OA) (m n:Nat) (o:Bool) (p:OA) (q r:Nat),b.cell? (Addr.add (c.add (a.toNat*4)) 0)=some (.bool k)/\b.cell? (Addr.add (c.add (a.toNat*4)) 1)=some (.slice l m n)/\b.cell? (Addr.add (c.add (a.toNat*4)) 2)=some (.bool o)/\b.cell? (Addr.add (c.add (a.toNat*4)) 3)=some (.slice p q r)/\FCall P Jv #[.agg #[.bool k,.slice l m n,.bool o,.slice p q r]] b (fun y z=>∃ (s:ByteArray),y= .string s/\∃ u,e=some u/\0<=a/\a<(f:Int)/\wpH P (Instr.storeAt 9 (.pointer (some (u.add (a.toNat*1)))) (.string s)) (fun _ t=>g [I (B4 (a+1))] t/\j [I (B4 (a+1))] t<j [I a] b) z))
 (K (.slice e f i) b)) h
theorem A28(a:OA)(b d:Nat)(hvc:A3j Tryz.prog a b d h K):FCall Tryz.prog Lr #[.slice a b d] h K:=
 B7 Tryz.func81 (c:=C0 Tryz.f81) (by kernel_rfl) (rs:=[.tmp 2]) (by kernel_rfl) (fa:=⟨[(3,⟨[11],[],[.int .i64 0],⟨([4,5]++Lrg 11 11),[5]⟩⟩)],[],[],[],[]⟩)
  (cfg:=⟨23,[5],none,[95],[],false⟩) (args:=[.slice a b d]) (by kernel_rfl) (B0 Tryz.call95 Bodies.nil) (Eq.mp (by kernel_rfl) hvc)
def Bh(P:Program)(C:OA)(u O:Nat)(h:Heap)(K:Value->Heap->Prop):Prop:=
 FCall P Tn #[I 1] h (fun H J=>∃ (v:Bool) (w:OA) (x y:Nat),H= .agg #[.bool v,.slice w x y]/\∃ (i:List Value->Heap->Prop) (g:List Value->Heap->Nat),i [I 0,.bool v,.slice w x y] J/\
 ∀ (a:Int) (b:Bool) (c:OA) (d e:Nat),∀ f,i [I a,.bool b,.slice c d e] f->Br (decide (a<(u:Int))) (∃ j,C=some j/\0<=a/\a<(u:Int)/\∃ (D:Bool) (E:OA) (F G:Nat) (k:Bool) (l:OA) (m n:Nat),f.cell? (Addr.add (j.add (a.toNat*4)) 0)=some (.bool D)/\f.cell? (Addr.add (j.add (a.toNat*4)) 1)=some (.slice E F G)/\f.cell? (Addr.add (j.add (a.toNat*4)) 2)=some (.bool k)/\f.cell? (Addr.add (j.add (a.toNat*4)) 3)=some (.slice l m n)/\FCall P H1 #[.agg #[.bool k,.slice l m n]] f (fun L s=>∃ (z:Bool),L= .bool z/\Br (!z) (FCall P Vt #[.agg #[.bool k,.slice l m n],.agg #[.bool b,.slice c d e]] s (fun M t=>∃ (A:Bool),M= .bool A/\Br (!A) (FCall P A7j #[.agg #[.bool b,.slice c d e],.agg #[.bool k,.slice l m n]] t (fun N B=>∃ (o:Bool) (p:OA) (q r:Nat),N= .agg #[.bool o,.slice p q r]/\i [I (B4 (a+1)),.bool o,.slice p q r] B/\g [I (B4 (a+1)),.bool o,.slice p q r] B<g [I a,.bool b,.slice c d e] f))
 (i [I (B4 (a+1)),.bool b,.slice c d e] t/\g [I (B4 (a+1)),.bool b,.slice c d e] t<g [I a,.bool b,.slice c d e] f)))
 (i [I (B4 (a+1)),.bool b,.slice c d e] s/\g [I (B4 (a+1)),.bool b,.slice c d e] s<g [I a,.bool b,.slice c d e] f)))
 (K (.agg #[.bool b,.slice c d e]) f))
theorem Fx(a:OA)(b d:Nat)(hvc:Bh Tryz.prog a b d h K):FCall Tryz.prog P8 #[.slice a b d] h K:=
 B7 Tryz.func132 (c:=C0 Tryz.f132) (by kernel_rfl) (rs:=[.cell 2 94]) (by kernel_rfl) (fa:=⟨[(3,⟨[9],[(3,2)],[.int .i64 0,.bool false,.slice none 0 0],⟨([5]++Lrg 9 20),[3,5]⟩⟩)],[],[],[],[]⟩)
  (cfg:=⟨30,[2,3,5],none,[100,135,175,176],[],false⟩) (args:=[.slice a b d]) (by kernel_rfl) (B0 Tryz.call100 (B0 Tryz.call135 (B0 Tryz.call175 (B0 Tryz.call176 Bodies.nil)))) (Eq.mp (by kernel_rfl) hvc)
def B3e(P:Program)(a:Bool)(b:OA)(c d:Nat)(h:Heap)(K:Value->Heap->Prop):Prop:=
 K (.agg #[.bool a,.slice b c d,.bool false,.slice none 0 0]) h
theorem A8t(a:Bool)(b:OA)(d e:Nat)(hvc:B3e Tryz.prog a b d e h K):FCall Tryz.prog Vv #[.agg #[.bool a,.slice b d e]] h K:=
 B7 Tryz.func96 (c:=C0 Tryz.f96) (by kernel_rfl) (rs:=[.cell 2 101]) (by kernel_rfl) (fa:=⟨[],[],[],[],[]⟩)
  (cfg:=⟨5,[1,2],none,[],[],false⟩) (args:=[.agg #[.bool a,.slice b d e]]) (by kernel_rfl) Bodies.nil (Eq.mp (by kernel_rfl) hvc)
def A92(P:Program)(c:Bool)(d:OA)(e f:Nat)(g:Bool)(i:OA)(j k:Nat)(l:Bool)(m:OA)(n o:Nat)(h:Heap)(K:Value->Heap->Prop):Prop:=
 FCall P H1 #[.agg #[.bool g,.slice i j k]] h (fun D a=>∃ (p:Bool),D= .bool p/\Br p (FCall P Qe #[.agg #[.bool c,.slice d e f],.agg #[.bool l,.slice m n o]] a (fun E F=>∃ (q:Bool) (r:OA) (s t:Nat),E= .agg #[.bool q,.slice r s t]/\K (.agg #[.bool q,.slice r s t]) F))
 (FCall P Jr #[.agg #[.bool l,.slice m n o],.agg #[.bool g,.slice i j k]] a (fun G b=>∃ (u:Bool) (v:OA) (w x:Nat),G= .agg #[.bool u,.slice v w x]/\Heap.le a b/\FCall P Qe #[.agg #[.bool c,.slice d e f],.agg #[.bool u,.slice v w x]] b (fun H C=>∃ (y:Bool) (z:OA) (A B:Nat),H= .agg #[.bool y,.slice z A B]/\Heap.le b C/\K (.agg #[.bool y,.slice z A B]) C))))
theorem A53(a:Bool)(b:OA)(d e:Nat)(f:Bool)(g:OA)(i j:Nat)(k:Bool)(l:OA)(m n:Nat)(hvc:A92 Tryz.prog a b d e f g i j k l m n h K):FCall Tryz.prog Qh #[.agg #[.bool a,.slice b d e,.bool f,.slice g i j],.agg #[.bool k,.slice l m n]] h K:=
 B7 Tryz.func133 (c:=C0 Tryz.f133) (by kernel_rfl) (rs:=[.cell 4 94]) (by kernel_rfl) (fa:=⟨[],[],[(3,((Lrg 0 8),[[],[0],[],[],[3],[2,3,4],[0,1,2,3,4,5],[0,1,2,3,4,5,6]]))],[],[]⟩)
  (cfg:=⟨19,[2,3,4],none,[135,136,152],[],false⟩) (args:=[.agg #[.bool a,.slice b d e,.bool f,.slice g i j],.agg #[.bool k,.slice l m n]]) (by kernel_rfl) (B0 Tryz.call135 (B0 Tryz.call136 (B0 Tryz.call152 Bodies.nil))) (Eq.mp (by kernel_rfl) hvc)
def B3o(P:Program)(n:Int)(o:Int)(f:OA)(c p:Nat)(h:Heap)(K:Value->Heap->Prop):Prop:=
 FCall P Dg #[.agg #[I n,I o,.slice f c p]] h (fun q l=>∃ (g:Bool),q= .bool g/\Br (!g) (K (.bool false) l)
 (∃ (d:List Value->Heap->Prop) (i:List Value->Heap->Nat),d [I 0] l/\
 ∀ (a:Int),∀ b,d [I a] b->Br (decide (a<(c:Int))) (∃ m,f=some m/\0<=a/\a<(c:Int)/\∃ (j:ByteArray),b.cell? (m.add (a.toNat*1))=some (.string j)/\FCall P Vw #[.string j] b (fun r e=>∃ (k:Bool),r= .bool k/\Br (!k) (K (.bool false) e)
 (d [I (B4 (a+1))] e/\i [I (B4 (a+1))] e<i [I a] b)))
 (K (.bool true) b)))
theorem A9h(a:Int)(b:Int)(d:OA)(e f:Nat)(hvc:B3o Tryz.prog a b d e f h K):FCall Tryz.prog Ov #[.agg #[I a,I b,.slice d e f]] h K:=
 B7 Tryz.func43 (c:=C0 Tryz.f43) (by kernel_rfl) (rs:=[.tmp 2]) (by kernel_rfl) (fa:=⟨[(4,⟨[11],[],[.int .i64 0],⟨([2,4]++Lrg 11 8),[]⟩⟩)],[],[],[],[]⟩)
  (cfg:=⟨19,[1],none,[108,109],[],false⟩) (args:=[.agg #[I a,I b,.slice d e f]]) (by kernel_rfl) (B0 Tryz.call108 (B0 Tryz.call109 Bodies.nil)) (Eq.mp (by kernel_rfl) hvc)
def A0e(P:Program)(a:Int)(b:Int)(d:OA)(c e:Nat)(h:Heap)(K:Value->Heap->Prop):Prop:=
 Br (decide ((1:Int)<=a)) (Br (decide (a<=(64:Int))) (Br (decide ((1:Int)<=b)) (Br (decide (b<=(64:Int))) (K (.bool ((c:Int)==(B4 (a*b)))) h)
 (K (.bool false) h))
 (K (.bool false) h))
 (K (.bool false) h))
 (K (.bool false) h)
theorem A0d(a:Int)(b:Int)(d:OA)(e f:Nat)(hvc:A0e Tryz.prog a b d e f h K):FCall Tryz.prog Dg #[.agg #[I a,I b,.slice d e f]] h K:=
 B7 Tryz.func108 (c:=C0 Tryz.f108) (by kernel_rfl) (rs:=[.tmp 2]) (by kernel_rfl) (fa:=⟨[],[],[],[],[]⟩)
  (cfg:=⟨32,[1],none,[],[],false⟩) (args:=[.agg #[I a,I b,.slice d e f]]) (by kernel_rfl) Bodies.nil (Eq.mp (by kernel_rfl) hvc)
def B82(P:Program)(k:Int)(l:Int)(a:OA)(b c:Nat)(h:Heap)(K:Value->Heap->Prop):Prop:=
 FCall P Dg #[.agg #[I k,I l,.slice a b c]] h (fun m j=>∃ (d:Bool),m= .bool d/\Br (!d) (K (.tuple #[.slice none 0 0,.bool false]) j)
 (FCall P Ls #[.slice a b c] j (fun n o=>∃ (e:OA) (f g:Nat) (i:Bool),n= .tuple #[.slice e f g,.bool i]/\K (.tuple #[.slice e f g,.bool i]) o)))
theorem B28(a:Int)(b:Int)(d:OA)(e f:Nat)(hvc:B82 Tryz.prog a b d e f h K):FCall Tryz.prog Qi #[.agg #[I a,I b,.slice d e f]] h K:=
 B7 Tryz.func67 (c:=C0 Tryz.f67) (by kernel_rfl) (rs:=[.tmp 2,.tmp 3]) (by kernel_rfl) (fa:=⟨[],[],[],[],[]⟩)
  (cfg:=⟨12,[1],none,[79,108],[],false⟩) (args:=[.agg #[I a,I b,.slice d e f]]) (by kernel_rfl) (B0 Tryz.call79 (B0 Tryz.call108 Bodies.nil)) (Eq.mp (by kernel_rfl) hvc)
def B3n(P:Program)(d:Int)(e:Int)(f:OA)(g i:Nat)(h:Heap)(K:Value->Heap->Prop):Prop:=
 FCall P Lr #[.slice f g i] h (fun j k=>∃ (a:OA) (b c:Nat),j= .slice a b c/\K (.agg #[I d,I e,.slice a b c]) k)
theorem A9g(a:Int)(b:Int)(d:OA)(e f:Nat)(hvc:B3n Tryz.prog a b d e f h K):FCall Tryz.prog Ou #[I a,I b,.slice d e f] h K:=
 B7 Tryz.func71 (c:=C0 Tryz.f71) (by kernel_rfl) (rs:=[.cell 6 24]) (by kernel_rfl) (fa:=⟨[],[],[],[],[]⟩)
  (cfg:=⟨12,[6],none,[81],[],false⟩) (args:=[I a,I b,.slice d e f]) (by kernel_rfl) (B0 Tryz.call81 Bodies.nil) (Eq.mp (by kernel_rfl) hvc)
def Uj(P:Program)(a:Int)(b:Int)(d:OA)(e f:Nat)(h:Heap)(K:Value->Heap->Prop):Prop:=
 FCall P Ov #[.agg #[I a,I b,.slice d e f]] h (fun m c=>∃ (g:Bool),m= .bool g/\Br (!g) (K (.tuple #[.agg #[I 0,I 0,.slice none 0 0],I 1]) c)
 (FCall P Df #[.slice d e f,I a,I b] c (fun n l=>∃ (i:OA) (j k:Nat),n= .slice i j k/\Heap.le c l/\K (.tuple #[.agg #[I b,I a,.slice i j k],I 0]) l)))
theorem Xj(a:Int)(b:Int)(d:OA)(e f:Nat)(hvc:Uj Tryz.prog a b d e f h K):FCall Tryz.prog Fb #[.agg #[I a,I b,.slice d e f]] h K:=
 B7 Tryz.func45 (c:=C0 Tryz.f45) (by kernel_rfl) (rs:=[.cell 2 24,.tmp 3]) (by kernel_rfl) (fa:=⟨[],[],[(3,((Lrg 0 14),[[],[0],[],[2],[],[4],[],[6],[],[8],[4,5,6,7,8,9],(Lrg 0 11),(Lrg 0 12),(Lrg 0 13)]))],[],[]⟩)
  (cfg:=⟨20,[1,2],none,[43,111],[],false⟩) (args:=[.agg #[I a,I b,.slice d e f]]) (by kernel_rfl) (B0 Tryz.call43 (B0 Tryz.call111 Bodies.nil)) (Eq.mp (by kernel_rfl) hvc)
def B3p(P:Program)(Z:ByteArray)(i:Int)(j:Int)(a0:OA)(a1 a2:Nat)(h:Heap)(K:Value->Heap->Prop):Prop:=
 FCall P Vx #[.string Z] h (fun a3 a4=>∃ (k:Bool) (l:OA) (m n:Nat) (o:Bool) (p:OA) (q r:Nat) (s:Bool),a3= .tuple #[.agg #[.bool k,.slice l m n,.bool o,.slice p q r],.bool s]/\FCall P Qi #[.agg #[I i,I j,.slice a0 a1 a2]] a4 (fun a5 g=>∃ (e:OA) (c t:Nat) (u:Bool),a5= .tuple #[.slice e c t,.bool u]/\Br (!s) (K (.tuple #[.agg #[I 0,I 0,.slice none 0 0],I 1]) g)
 (Br (!u) (K (.tuple #[.agg #[I 0,I 0,.slice none 0 0],I 1]) g)
 (∃ (f:List Value->Heap->Prop) (v:List Value->Heap->Nat),f [I 0] g/\
 ∀ (a:Int),∀ b,f [I a] b->Br (decide (a<(c:Int))) (∃ d,e=some d/\0<=a/\a<(c:Int)/\∃ (w:Bool) (x:OA) (y z:Nat) (A:Bool) (B:OA) (C D:Nat),b.cell? (Addr.add (d.add (a.toNat*4)) 0)=some (.bool w)/\b.cell? (Addr.add (d.add (a.toNat*4)) 1)=some (.slice x y z)/\b.cell? (Addr.add (d.add (a.toNat*4)) 2)=some (.bool A)/\b.cell? (Addr.add (d.add (a.toNat*4)) 3)=some (.slice B C D)/\FCall P A35 #[.agg #[.bool w,.slice x y z,.bool A,.slice B C D],.agg #[.bool k,.slice l m n,.bool o,.slice p q r]] b (fun a6 V=>∃ (E:Bool) (F:OA) (G H:Nat) (J:Bool) (L:OA) (M N:Nat),a6= .agg #[.bool E,.slice F G H,.bool J,.slice L M N]/\Heap.le b V/\∃ X,e=some X/\0<=a/\a<(c:Int)/\wpH P (Instr.storeAt 101 (.pointer (some (X.add (a.toNat*4)))) (.agg #[.bool E,.slice F G H,.bool J,.slice L M N])) (fun _ W=>f [I (B4 (a+1))] W/\v [I (B4 (a+1))] W<v [I a] b) V))
 (FCall P Ou #[I i,I j,.slice e c t] b (fun a7 a8=>∃ (O:Int) (Q:Int) (R:OA) (S T:Nat),a7= .agg #[I O,I Q,.slice R S T]/\K (.tuple #[.agg #[I O,I Q,.slice R S T],I 0]) a8))))))
theorem A9i(a:ByteArray)(b:Int)(c:Int)(d:OA)(e f:Nat)(hvc:B3p Tryz.prog a b c d e f h K):FCall Tryz.prog We #[.string a,.agg #[I b,I c,.slice d e f]] h K:=
 B7 Tryz.func46 (c:=C0 Tryz.f46) (by kernel_rfl) (rs:=[.cell 4 24,.tmp 5]) (by kernel_rfl) (fa:=⟨[(6,⟨[30],[],[.int .i64 0],⟨([10]++Lrg 30 13),[]⟩⟩)],[],[(8,((Lrg 0 10),[[],[],[],[],[2,3],[2,3,4],[],[2,3,4,5,6],(Lrg 0 8),(Lrg 0 9)]))],[],[]⟩)
  (cfg:=⟨49,[3,4,6],none,[67,71,103,112],[],false⟩) (args:=[.string a,.agg #[I b,I c,.slice d e f]]) (by kernel_rfl) (B0 Tryz.call67 (B0 Tryz.call71 (B0 Tryz.call103 (B0 Tryz.call112 Bodies.nil)))) (Eq.mp (by kernel_rfl) hvc)
def A9j(P:Program)(l:Int)(c:Int)(W:OA)(X Z:Nat)(h:Heap)(K:Value->Heap->Prop):Prop:=
 FCall P Qi #[.agg #[I l,I c,.slice W X Z]] h (fun a2 Q=>∃ (d:OA) (e f:Nat) (m:Bool),a2= .tuple #[.slice d e f,.bool m]/\Br (!m) (K (.tuple #[.agg #[I 0,I 0,.slice none 0 0],.slice none 0 0,I 1]) Q)
 (FCall P Ao #[.slice d e f,I c] Q (fun a3 a4=>∃ (g:OA),a3= .pointer g/\FCall P Fh #[.pointer g,I c] a4 (fun a5 R=>∃ (n:OA) (o p:Nat) (q:Bool) (r:OA) (s t:Nat) (a0:Int),a5= .tuple #[.slice n o p,.agg #[.bool q,.slice r s t],I a0]/\∃ T,g=some T/\∃ (u:OA) (i a1:Nat),R.cell? (T.add 1)=some (.slice u i a1)/\∃ (j:List Value->Heap->Prop) (v:List Value->Heap->Nat),j [I 0] R/\
 ∀ (a:Int),∀ b,j [I a] b->Br (decide (a<(i:Int))) (∃ k,u=some k/\0<=a/\a<(i:Int)/\∃ (w:Bool) (x:OA) (y z:Nat),b.cell? (Addr.add (k.add (a.toNat*2)) 0)=some (.bool w)/\b.cell? (Addr.add (k.add (a.toNat*2)) 1)=some (.slice x y z)/\FCall P An #[.agg #[.bool w,.slice x y z],.agg #[.bool q,.slice r s t]] b (fun a6 a7=>∃ (A:Bool) (B:OA) (C D:Nat) (E:Bool) (F:OA) (G H:Nat),a6= .agg #[.bool A,.slice B C D,.bool E,.slice F G H]/\∃ V,d=some V/\0<=a/\a<(e:Int)/\wpH P (Instr.storeAt 101 (.pointer (some (V.add (a.toNat*4)))) (.agg #[.bool A,.slice B C D,.bool E,.slice F G H])) (fun _ S=>j [I (B4 (a+1))] S/\v [I (B4 (a+1))] S<v [I a] b) a7))
 (FCall P Ou #[I l,I c,.slice d e f] b (fun a8 a9=>∃ (J:Int) (L:Int) (M:OA) (N O:Nat),a8= .agg #[I J,I L,.slice M N O]/\K (.tuple #[.agg #[I J,I L,.slice M N O],.slice n o p,I 0]) a9))))))
theorem A5c(a:Int)(b:Int)(d:OA)(e f:Nat)(hvc:A9j Tryz.prog a b d e f h K):FCall Tryz.prog Fc #[.agg #[I a,I b,.slice d e f]] h K:=
 B7 Tryz.func15 (c:=C0 Tryz.f15) (by kernel_rfl) (rs:=[.cell 2 24,.tmp 3,.tmp 4]) (by kernel_rfl) (fa:=⟨[(7,⟨[38],[],[.int .i64 0],⟨([11,12]++Lrg 38 12),[12]⟩⟩)],[],[],[],[]⟩)
  (cfg:=⟨57,[1,2,9,12],none,[67,68,69,70,71],[69],false⟩) (args:=[.agg #[I a,I b,.slice d e f]]) (by kernel_rfl) (B0 Tryz.call67 (B0 Tryz.call68 (B0 Tryz.call69 (B0 Tryz.call70 (B0 Tryz.call71 Bodies.nil))))) (Eq.mp (by kernel_rfl) hvc)
def C0i(P:Program)(n:Int)(d:Int)(d0:OA)(d1 d2:Nat)(h:Heap)(K:Value->Heap->Prop):Prop:=
 FCall P Qi #[.agg #[I n,I d,.slice d0 d1 d2]] h (fun d6 J=>∃ (M:OA) (N O:Nat) (Q:Bool),d6= .tuple #[.slice M N O,.bool Q]/\Br (!Q) (K (.tuple #[.string ({ data:=#[] }:ByteArray),I 1]) J)
 (Br (n != d) (K (.tuple #[.string ({ data:=#[] }:ByteArray),I 4]) J)
 (FCall P Ao #[.slice M N O,I d] J (fun d7 d8=>∃ (o:OA),d7= .pointer o/\FCall P Fh #[.pointer o,I d] d8 (fun d9 c6=>∃ (d3:OA) (R d4:Nat) (S:Bool) (T:OA) (V W:Nat) (X:Int),d9= .tuple #[.slice d3 R d4,.agg #[.bool S,.slice T V W],I X]/\Br (decide ((R:Int)<n)) (K (.tuple #[.string ({ data:=#[48] }:ByteArray),I 0]) c6)
 (FCall P Vv #[.agg #[.bool S,.slice T V W]] c6 (fun e0 c7=>∃ (p:Bool) (q:OA) (r s:Nat) (t:Bool) (u:OA) (v w:Nat),e0= .agg #[.bool p,.slice q r s,.bool t,.slice u v w]/\∃ (x:List Value->Heap->Prop),(Br (decide (X<(0:Int))) (FCall P A7l #[.agg #[.bool p,.slice q r s,.bool t,.slice u v w]] c7 (fun e1 e2=>∃ (Z:Bool) (a0:OA) (a1 a2:Nat) (a3:Bool) (a4:OA) (a5 a6:Nat),e1= .agg #[.bool Z,.slice a0 a1 a2,.bool a3,.slice a4 a5 a6]/\x [.bool Z,.slice a0 a1 a2,.bool a3,.slice a4 a5 a6] e2))
 (x [.bool p,.slice q r s,.bool t,.slice u v w] c7))/\
 ∀ (a7:Bool) (a8:OA) (a9 b0:Nat) (b1:Bool) (b2:OA) (b3 b4:Nat),∀ L,x [.bool a7,.slice a8 a9 b0,.bool b1,.slice b2 b3 b4] L->∃ c9,o=some c9/\∃ (b5:OA) (y d5:Nat),L.cell? (c9.add 2)=some (.slice b5 y d5)/\∃ (z:List Value->Heap->Prop) (b6:List Value->Heap->Nat),z [I 0,.bool a7,.slice a8 a9 b0,.bool b1,.slice b2 b3 b4] L/\
 ∀ (a:Int) (e:Bool) (f:OA) (g i:Nat) (j:Bool) (k:OA) (l m:Nat),∀ b,z [I a,.bool e,.slice f g i,.bool j,.slice k l m] b->Br (decide (a<(y:Int))) (∃ c,b5=some c/\0<=a/\a<(y:Int)/\∃ (b7:Bool) (b8:OA) (b9 c0:Nat) (c1:Bool) (c2:OA) (c3 c4:Nat),b.cell? (Addr.add (c.add (a.toNat*4)) 0)=some (.bool b7)/\b.cell? (Addr.add (c.add (a.toNat*4)) 1)=some (.slice b8 b9 c0)/\b.cell? (Addr.add (c.add (a.toNat*4)) 2)=some (.bool c1)/\b.cell? (Addr.add (c.add (a.toNat*4)) 3)=some (.slice c2 c3 c4)/\FCall P A7m #[.agg #[.bool e,.slice f g i,.bool j,.slice k l m],.agg #[.bool b7,.slice b8 b9 c0,.bool c1,.slice c2 c3 c4]] b (fun e3 c8=>∃ (A:Bool) (B:OA) (C D:Nat) (E:Bool) (F:OA) (G H:Nat),e3= .agg #[.bool A,.slice B C D,.bool E,.slice F G H]/\z [I (B4 (a+1)),.bool A,.slice B C D,.bool E,.slice F G H] c8/\b6 [I (B4 (a+1)),.bool A,.slice B C D,.bool E,.slice F G H] c8<b6 [I a,.bool e,.slice f g i,.bool j,.slice k l m] b))
 (FCall P Jv #[.agg #[.bool e,.slice f g i,.bool j,.slice k l m]] b (fun e4 e5=>∃ (c5:ByteArray),e4= .string c5/\K (.tuple #[.string c5,I 0]) e5)))))))))
theorem B5s(a:Int)(b:Int)(d:OA)(e f:Nat)(hvc:C0i Tryz.prog a b d e f h K):FCall Tryz.prog A7o #[.agg #[I a,I b,.slice d e f]] h K:=
 B7 Tryz.func37 (c:=C0 Tryz.f37) (by kernel_rfl) (rs:=[.tmp 2,.tmp 3]) (by kernel_rfl) (fa:=⟨[(14,⟨[53],[(10,4)],[.int .i64 0,.bool false,.slice none 0 0,.bool false,.slice none 0 0],⟨([12]++Lrg 53 8),[10,12]⟩⟩)],[(13,⟨[],[(10,4)],[.bool false,.slice none 0 0,.bool false,.slice none 0 0],⟨[44,45,46,47],[10]⟩⟩)],[],[],[]⟩)
  (cfg:=⟨63,[1,8,10,12],none,[67,68,69,95,96,97,98],[69],false⟩) (args:=[.agg #[I a,I b,.slice d e f]]) (by kernel_rfl) (B0 Tryz.call67 (B0 Tryz.call68 (B0 Tryz.call69 (B0 Tryz.call95 (B0 Tryz.call96 (B0 Tryz.call97 (B0 Tryz.call98 Bodies.nil))))))) (Eq.mp (by kernel_rfl) hvc)
def Rt(P:Program)(D:OA)(r M:Nat)(E:Int)(g:Int)(h:Heap)(K:Value->Heap->Prop):Prop:=
 wpH P (Instr.makeSlice 22 (I 0) (I (r:Int))) (fun F G=>∃ (s:OA) (t u:Nat),F= .slice s t u/\∃ (m:List Value->Heap->Prop) (v:List Value->Heap->Nat),m [.slice s t u,I 0] G/\
 ∀ (i:OA) (j k:Nat) (a:Int),∀ l,m [.slice i j k,I a] l->Br (decide (a<g)) (∃ (n:List Value->Heap->Prop) (w:List Value->Heap->Nat),n [.slice i j k,I 0] l/\
 ∀ (d:OA) (e f:Nat) (b:Int),∀ c,n [.slice d e f,I b] c->Br (decide (b<E)) (∃ C,D=some C/\0<=B4 ((B4 (b*g))+a)/\B4 ((B4 (b*g))+a)<(r:Int)/\∃ (x:ByteArray),c.cell? (C.add ((B4 ((B4 (b*g))+a)).toNat*1))=some (.string x)/\wpH P (Instr.buildSlice 22 1 #[(0,.string x)]) (fun H J=>∃ (y:OA) (z A:Nat),H= .slice y z A/\wpH P (Builtin.append_ #[22,22] 22 #[.slice d e f,.slice y z A]) (fun L B=>∃ (o:OA) (p q:Nat),L= .slice o p q/\n [.slice o p q,I (B4 (b+1))] B/\w [.slice o p q,I (B4 (b+1))] B<w [.slice d e f,I b] c) J) c)
 (m [.slice d e f,I (B4 (a+1))] c/\v [.slice d e f,I (B4 (a+1))] c<v [.slice i j k,I a] l))
 (K (.slice i j k) l)) h
theorem Su(a:OA)(b d:Nat)(e:Int)(f:Int)(hvc:Rt Tryz.prog a b d e f h K):FCall Tryz.prog Df #[.slice a b d,I e,I f] h K:=
 B7 Tryz.func111 (c:=C0 Tryz.f111) (by kernel_rfl) (rs:=[.tmp 6]) (by kernel_rfl) (fa:=⟨[(3,⟨[7,14],[],[.slice none 0 0,.int .i64 0],⟨([7,8,9]++Lrg 14 20),[]⟩⟩),(6,⟨[7,18],[],[.slice none 0 0,.int .i64 0],⟨([7,9]++Lrg 18 15),[]⟩⟩)],[],[],[],[]⟩)
  (cfg:=⟨35,[],none,[],[],false⟩) (args:=[.slice a b d,I e,I f]) (by kernel_rfl) Bodies.nil (Eq.mp (by kernel_rfl) hvc)
def A0c(P:Program)(m3:OA)(m4 m5:Nat)(b7:Int)(h:Heap)(K:Value->Heap->Prop):Prop:=
 wpH P (Instr.box 99 (.agg #[I b7,.slice none 0 0,.slice none 0 0])) (fun n1 n2=>∃ (b8:Addr),n1= .pointer (some b8)/\wpH P (Instr.alloc 90 true (.tuple #[])) (fun n3 n4=>∃ (b:Addr),n3= .pointer (some b)/\wpH P (Instr.storeAt 90 (.pointer (some b)) (.pointer (some b8))) (fun _ n5=>FCall P Wf #[.slice m3 m4 m5,I b7] n5 (fun n6 n7=>∃ (b9:Value),n6=b9/\A3m P (b9) n7 (fun (m6:List Value) (m7:Heap) (x:Heap->Prop)=>∃ (W:OA) (y c0:Nat),m6=[.slice W y c0]/\FCall P P8 #[.slice W y c0] m7 (fun n8 b4=>∃ (z:Bool) (A:OA) (B C:Nat),n8= .agg #[.bool z,.slice A B C]/\∃ (c1:OA),b4.cell? b=some (.pointer c1)/\∃ l0,c1=some l0/\∃ (m8:OA) (f m9:Nat),b4.cell? (l0.add 1)=some (.slice m8 f m9)/\∃ (s:List Value->Heap->Prop) (q:List Value->Heap->Nat),s [I 0,.bool false,.slice none 0 0] b4/\
 ∀ (a:Int) (g:Bool) (i:OA) (j k:Nat),∀ e,s [I a,.bool g,.slice i j k] e->Br (decide (a<(y:Int))) (∃ w,W=some w/\0<=a/\a<(y:Int)/\∃ (c2:Bool) (c3:OA) (c4 c5:Nat) (c6:Bool) (c7:OA) (c8 c9:Nat),e.cell? (Addr.add (w.add (a.toNat*4)) 0)=some (.bool c2)/\e.cell? (Addr.add (w.add (a.toNat*4)) 1)=some (.slice c3 c4 c5)/\e.cell? (Addr.add (w.add (a.toNat*4)) 2)=some (.bool c6)/\e.cell? (Addr.add (w.add (a.toNat*4)) 3)=some (.slice c7 c8 c9)/\FCall P Qh #[.agg #[.bool c2,.slice c3 c4 c5,.bool c6,.slice c7 c8 c9],.agg #[.bool z,.slice A B C]] e (fun n9 o0=>∃ (D:Bool) (E:OA) (F G:Nat),n9= .agg #[.bool D,.slice E F G]/\FCall P Qf #[.agg #[.bool g,.slice i j k],.agg #[.bool D,.slice E F G]] o0 (fun o1 p=>∃ (l:Bool) (m:OA) (n o:Nat),o1= .agg #[.bool l,.slice m n o]/\∃ (d0:OA),p.cell? b=some (.pointer d0)/\∃ l1,d0=some l1/\∃ (H:OA) (J L:Nat),p.cell? (l1.add 1)=some (.slice H J L)/\(∃ (d1:OA),p.cell? b=some (.pointer d1)/\wpH P (Instr.buildSlice 97 1 #[(0,.agg #[.bool D,.slice E F G])]) (fun o2 j8=>∃ (d2:OA) (d3 d4:Nat),o2= .slice d2 d3 d4/\Heap.le p j8/\wpH P (Builtin.append_ #[97,97] 97 #[.slice H J L,.slice d2 d3 d4]) (fun o3 o4=>∃ (d5:OA) (d6 d7:Nat),o3= .slice d5 d6 d7/\∃ l2,d1=some l2/\wpH P (Instr.storeAt 97 (.pointer (some (l2.add 1))) (.slice d5 d6 d7)) (fun _ j9=>s [I (B4 (a+1)),.bool l,.slice m n o] j9/\q [I (B4 (a+1)),.bool l,.slice m n o] j9<q [I a,.bool g,.slice i j k] e) o4) j8) p)/\(wpH P (Instr.buildSlice 97 1 #[(0,.agg #[.bool D,.slice E F G])]) (fun o5 S=>∃ (X:OA) (Z a0:Nat),o5= .slice X Z a0/\Heap.le p S/\(∃ (d8:OA),S.cell? b=some (.pointer d8)/\wpH P (Builtin.append_ #[97,97] 97 #[.slice H J L,.slice X Z a0]) (fun o6 o7=>∃ (d9:OA) (e0 e1:Nat),o6= .slice d9 e0 e1/\∃ l3,d8=some l3/\wpH P (Instr.storeAt 97 (.pointer (some (l3.add 1))) (.slice d9 e0 e1)) (fun _ k0=>s [I (B4 (a+1)),.bool l,.slice m n o] k0/\q [I (B4 (a+1)),.bool l,.slice m n o] k0<q [I a,.bool g,.slice i j k] e) o7) S)/\(wpH P (Builtin.append_ #[97,97] 97 #[.slice H J L,.slice X Z a0]) (fun o8 k1=>∃ (e2:OA) (e3 e4:Nat),o8= .slice e2 e3 e4/\∃ (e5:OA),k1.cell? b=some (.pointer e5)/\∃ l4,e5=some l4/\wpH P (Instr.storeAt 97 (.pointer (some (l4.add 1))) (.slice e2 e3 e4)) (fun _ k2=>s [I (B4 (a+1)),.bool l,.slice m n o] k2/\q [I (B4 (a+1)),.bool l,.slice m n o] k2<q [I a,.bool g,.slice i j k] e) k1) S)) p))))
 (∃ (a1:List Value->Heap->Prop),(FCall P H1 #[.agg #[.bool g,.slice i j k]] e (fun o9 k3=>∃ (e6:Bool),o9= .bool e6/\Br e6 (FCall P Tn #[I 1] k3 (fun p0 p1=>∃ (e7:Bool) (e8:OA) (e9 f0:Nat),p0= .agg #[.bool e7,.slice e8 e9 f0]/\a1 [.bool e7,.slice e8 e9 f0] p1))
 (a1 [.bool g,.slice i j k] k3)))/\
 ∀ (M:Bool) (N:OA) (O Q:Nat),∀ V,a1 [.bool M,.slice N O Q] V->∃ (f1:OA),V.cell? b=some (.pointer f1)/\∃ l5,f1=some l5/\∃ (f2:OA) (R f3:Nat),V.cell? (l5.add 1)=some (.slice f2 R f3)/\(0<=(f:Int)/\(f:Int)<=(R:Int))/\∃ (a2:List Value->Heap->Prop) (f4:List Value->Heap->Nat),a2 [I 0] V/\
 ∀ (d:Int),∀ c,a2 [I d] c->Br (decide (d<((R-(((f:Int)).toNat):Nat):Int))) (∃ b6,J8 f2 f3 (((f:Int)).toNat) 2=some b6/\0<=d/\d<((R-(((f:Int)).toNat):Nat):Int)/\∃ (f5:Bool) (f6:OA) (f7 f8:Nat),c.cell? (Addr.add (b6.add (d.toNat*2)) 0)=some (.bool f5)/\c.cell? (Addr.add (b6.add (d.toNat*2)) 1)=some (.slice f6 f7 f8)/\∃ (f9:OA),c.cell? b=some (.pointer f9)/\∃ l6,f9=some l6/\∃ (g0:OA) (g1 n0:Nat),c.cell? (l6.add 1)=some (.slice g0 g1 n0)/\FCall P Jr #[.agg #[.bool f5,.slice f6 f7 f8],.agg #[.bool M,.slice N O Q]] c (fun p2 k4=>∃ (g2:Bool) (g3:OA) (g4 g5:Nat),p2= .agg #[.bool g2,.slice g3 g4 g5]/\Heap.le c k4/\∃ l7,g0=some l7/\0<=B4 ((f:Int)+d)/\B4 ((f:Int)+d)<(g1:Int)/\wpH P (Instr.storeAt 94 (.pointer (some (l7.add ((B4 ((f:Int)+d)).toNat*2)))) (.agg #[.bool g2,.slice g3 g4 g5])) (fun _ k5=>a2 [I (B4 (d+1))] k5/\f4 [I (B4 (d+1))] k5<f4 [I d] c) k4))
 (∃ (g6:OA),c.cell? b=some (.pointer g6)/\∃ l8,g6=some l8/\∃ (t:OA) (u v:Nat),c.cell? (l8.add 2)=some (.slice t u v)/\(∃ (g7:OA),c.cell? b=some (.pointer g7)/\FCall P An #[.agg #[.bool z,.slice A B C],.agg #[.bool M,.slice N O Q]] c (fun p3 b5=>∃ (g8:Bool) (g9:OA) (h0 h1:Nat) (h2:Bool) (h3:OA) (h4 h5:Nat),p3= .agg #[.bool g8,.slice g9 h0 h1,.bool h2,.slice h3 h4 h5]/\Heap.le c b5/\wpH P (Instr.buildSlice 87 1 #[(0,.agg #[.bool g8,.slice g9 h0 h1,.bool h2,.slice h3 h4 h5])]) (fun p4 k6=>∃ (h6:OA) (h7 h8:Nat),p4= .slice h6 h7 h8/\Heap.le b5 k6/\wpH P (Builtin.append_ #[87,87] 87 #[.slice t u v,.slice h6 h7 h8]) (fun p5 p6=>∃ (h9:OA) (i0 i1:Nat),p5= .slice h9 i0 i1/\∃ l9,g7=some l9/\wpH P (Instr.storeAt 87 (.pointer (some (l9.add 2))) (.slice h9 i0 i1)) (fun _ p7=>x p7) p6) k6) b5))/\(FCall P An #[.agg #[.bool z,.slice A B C],.agg #[.bool M,.slice N O Q]] c (fun p8 r=>∃ (a3:Bool) (a4:OA) (a5 a6:Nat) (a7:Bool) (a8:OA) (a9 b0:Nat),p8= .agg #[.bool a3,.slice a4 a5 a6,.bool a7,.slice a8 a9 b0]/\Heap.le c r/\(∃ (i2:OA),r.cell? b=some (.pointer i2)/\wpH P (Instr.buildSlice 87 1 #[(0,.agg #[.bool a3,.slice a4 a5 a6,.bool a7,.slice a8 a9 b0])]) (fun p9 k7=>∃ (i3:OA) (i4 i5:Nat),p9= .slice i3 i4 i5/\Heap.le r k7/\wpH P (Builtin.append_ #[87,87] 87 #[.slice t u v,.slice i3 i4 i5]) (fun q0 q1=>∃ (i6:OA) (i7 i8:Nat),q0= .slice i6 i7 i8/\∃ m0,i2=some m0/\wpH P (Instr.storeAt 87 (.pointer (some (m0.add 2))) (.slice i6 i7 i8)) (fun _ q2=>x q2) q1) k7) r)/\(wpH P (Instr.buildSlice 87 1 #[(0,.agg #[.bool a3,.slice a4 a5 a6,.bool a7,.slice a8 a9 b0])]) (fun q3 T=>∃ (b1:OA) (b2 b3:Nat),q3= .slice b1 b2 b3/\Heap.le r T/\(∃ (i9:OA),T.cell? b=some (.pointer i9)/\wpH P (Builtin.append_ #[87,87] 87 #[.slice t u v,.slice b1 b2 b3]) (fun q4 q5=>∃ (j0:OA) (j1 j2:Nat),q4= .slice j0 j1 j2/\∃ m1,i9=some m1/\wpH P (Instr.storeAt 87 (.pointer (some (m1.add 2))) (.slice j0 j1 j2)) (fun _ q6=>x q6) q5) T)/\(wpH P (Builtin.append_ #[87,87] 87 #[.slice t u v,.slice b1 b2 b3]) (fun q7 k8=>∃ (j3:OA) (j4 j5:Nat),q7= .slice j3 j4 j5/\∃ (j6:OA),k8.cell? b=some (.pointer j6)/\∃ m2,j6=some m2/\wpH P (Instr.storeAt 87 (.pointer (some (m2.add 2))) (.slice j3 j4 j5)) (fun _ q8=>x q8) k8) T)) r)))))))
 (fun k9=>∃ (j7:OA),k9.cell? b=some (.pointer j7)/\K (.pointer j7) k9))) n4) n2) h
theorem A0b(a:OA)(b d:Nat)(e:Int)(hvc:A0c Tryz.prog a b d e h K):FCall Tryz.prog Ao #[.slice a b d,I e] h K:=
 B7 Tryz.func68 (c:=C0 Tryz.f68) (by kernel_rfl) (rs:=[.tmp 4]) (by kernel_rfl) (fa:={ loops:=[(8,⟨[31],[(9,2)],[.int .i64 0,.bool false,.slice none 0 0],⟨([11,12]++Lrg 31 21),[9,11,12]⟩⟩),(17,⟨[62],[],[.int .i64 0],⟨([13,14]++Lrg 62 17),[14]⟩⟩)],cuts:=[(16,⟨[],[(9,2)],[.bool false,.slice none 0 0],⟨[52,53,54],[9]⟩⟩)],orders:=[(12,([1,2,3,4,5,0,6,7,8,9,10],[[],[],[1],[1,2],[1,2,3],[],[5],[1,2,3,4,5,6],(Lrg 0 8),(Lrg 0 9),(Lrg 0 10)])),(19,((Lrg 0 12),[[],[0],[0,1],[0,1,2],[],[],[4,5],[],[],[7,8],(Lrg 0 10),(Lrg 0 11)])),(21,([1,2,3,4,5,6,0,7,8,9,10,11,12],[[],[],[1],[1,2],[1,2,3],[],[],[5,6],[5,6,7],(Lrg 1 8),(Lrg 0 10),(Lrg 0 11),(Lrg 0 12)]))],alts:=[(12,[(0,[6,7])]),(21,[(0,[7,8,9])])],rounds:=[(4,[.slice none 0 0])] })
  (cfg:=⟨92,[7,9,11,12,14],none,[70,100,131,132,133,134,135,136],[1000000000],false⟩) (args:=[.slice a b d,I e]) (by kernel_rfl) (B0 Tryz.call70 (B0 Tryz.call100 (B0 Tryz.call131 (B0 Tryz.call132 (B0 Tryz.call133 (B0 Tryz.call134 (B0 Tryz.call135 (B0 Tryz.call136 Bodies.nil)))))))) (Eq.mp (by kernel_rfl) hvc)
def C0k(P:Program)(e:OA)(a:Int)(h:Heap)(K:Value->Heap->Prop):Prop:=
 ∃ g,e=some g/\∃ (f:OA) (k d:Nat),h.cell? (g.add 1)=some (.slice f k d)/\∃ i,e=some i/\∃ (b:Int),h.cell? (i.add 0)=some (I b)/\∃ j,e=some j/\∃ (c:Int),h.cell? (j.add 0)=some (I c)/\(0<=B4 ((B4 (a+1))*c)/\B4 ((B4 (a+1))*c)<=(d:Int))/\(0<=B4 (a*b)/\B4 (a*b)<=(((B4 ((B4 (a+1))*c)).toNat:Nat):Int))/\K (.slice (J8 f d ((B4 (a*b)).toNat) 2) (((B4 ((B4 (a+1))*c)).toNat)-((B4 (a*b)).toNat)) (d-((B4 (a*b)).toNat))) h
theorem B5x(a:OA)(b:Int)(hvc:C0k Tryz.prog a b h K):FCall Tryz.prog Nm #[.pointer a,I b] h K:=
 B7 Tryz.func76 (c:=C0 Tryz.f76) (by kernel_rfl) (rs:=[.tmp 4]) (by kernel_rfl) (fa:=⟨[],[],[(1,((Lrg 0 19),[[],[0],[0,1],[0,1,2],[],[],[5],[5,6],[5,6,7],[4,5,6,7,8],[],[10],[],[12],[12,13],[12,13,14],[10,11,12,13,14,15],(Lrg 0 17),(Lrg 0 18)]))],[],[]⟩)
  (cfg:=⟨23,[],none,[],[],false⟩) (args:=[.pointer a,I b]) (by kernel_rfl) Bodies.nil (Eq.mp (by kernel_rfl) hvc)
def B88(P:Program)(e:OA)(c:Int)(d:Int)(h:Heap)(K:Value->Heap->Prop):Prop:=
 FCall P Nm #[.pointer e,I c] h (fun b6 b7=>∃ (j:OA) (i b0:Nat),b6= .slice j i b0/\FCall P Nm #[.pointer e,I d] b7 (fun b8 b9=>∃ (k:OA) (l b1:Nat),b8= .slice k l b1/\∃ (m:List Value->Heap->Prop) (p:List Value->Heap->Nat),m [I 0] b9/\
 ∀ (b:Int),∀ a,m [I b] a->Br (decide (b<(i:Int))) (∃ n,k=some n/\0<=b/\b<(l:Int)/\∃ (q:Bool) (r:OA) (s t:Nat),a.cell? (Addr.add (n.add (b.toNat*2)) 0)=some (.bool q)/\a.cell? (Addr.add (n.add (b.toNat*2)) 1)=some (.slice r s t)/\∃ o,j=some o/\0<=b/\b<(i:Int)/\∃ (u:Bool) (v:OA) (w x:Nat),a.cell? (Addr.add (o.add (b.toNat*2)) 0)=some (.bool u)/\a.cell? (Addr.add (o.add (b.toNat*2)) 1)=some (.slice v w x)/\∃ a2,j=some a2/\0<=b/\b<(i:Int)/\wpH P (Instr.storeAt 94 (.pointer (some (a2.add (b.toNat*2)))) (.agg #[.bool q,.slice r s t])) (fun _ c0=>∃ a3,k=some a3/\0<=b/\b<(l:Int)/\wpH P (Instr.storeAt 94 (.pointer (some (a3.add (b.toNat*2)))) (.agg #[.bool u,.slice v w x])) (fun _ a1=>m [I (B4 (b+1))] a1/\p [I (B4 (b+1))] a1<p [I b] a) c0) a)
 (∃ a4,e=some a4/\∃ (y:OA) (z b2:Nat),a.cell? (a4.add 2)=some (.slice y z b2)/\∃ a5,e=some a5/\∃ (A:OA) (B b3:Nat),a.cell? (a5.add 2)=some (.slice A B b3)/\∃ a6,e=some a6/\∃ (C:OA) (D b4:Nat),a.cell? (a6.add 2)=some (.slice C D b4)/\∃ f,C=some f/\0<=d/\d<(D:Int)/\∃ (E:Bool) (F:OA) (G H:Nat) (J:Bool) (L:OA) (M N:Nat),a.cell? (Addr.add (f.add (d.toNat*4)) 0)=some (.bool E)/\a.cell? (Addr.add (f.add (d.toNat*4)) 1)=some (.slice F G H)/\a.cell? (Addr.add (f.add (d.toNat*4)) 2)=some (.bool J)/\a.cell? (Addr.add (f.add (d.toNat*4)) 3)=some (.slice L M N)/\∃ a7,e=some a7/\∃ (O:OA) (Q b5:Nat),a.cell? (a7.add 2)=some (.slice O Q b5)/\∃ g,O=some g/\0<=c/\c<(Q:Int)/\∃ (R:Bool) (S:OA) (T V:Nat) (W:Bool) (X:OA) (Z a0:Nat),a.cell? (Addr.add (g.add (c.toNat*4)) 0)=some (.bool R)/\a.cell? (Addr.add (g.add (c.toNat*4)) 1)=some (.slice S T V)/\a.cell? (Addr.add (g.add (c.toNat*4)) 2)=some (.bool W)/\a.cell? (Addr.add (g.add (c.toNat*4)) 3)=some (.slice X Z a0)/\∃ a8,y=some a8/\0<=c/\c<(z:Int)/\wpH P (Instr.storeAt 101 (.pointer (some (a8.add (c.toNat*4)))) (.agg #[.bool E,.slice F G H,.bool J,.slice L M N])) (fun _ c1=>∃ a9,A=some a9/\0<=d/\d<(B:Int)/\wpH P (Instr.storeAt 101 (.pointer (some (a9.add (d.toNat*4)))) (.agg #[.bool R,.slice S T V,.bool W,.slice X Z a0])) (fun _ c2=>K (.tuple #[]) c2) c1) a)))
theorem B2e(a:OA)(b:Int)(d:Int)(hvc:B88 Tryz.prog a b d h K):FCall Tryz.prog A1u #[.pointer a,I b,I d] h K:=
 B7 Tryz.func102 (c:=C0 Tryz.f102) (by kernel_rfl) (rs:=[]) (by kernel_rfl) (fa:=⟨[(2,⟨[17],[],[.int .i64 0],⟨([8]++Lrg 17 18),[]⟩⟩)],[],[(4,((Lrg 0 16),[[],[],[],[],[],[],[4,5],[4,5,6],[],[],[8,9],[8,9,10],([0,1]++Lrg 4 8),([0,1]++Lrg 4 9),(Lrg 0 14),(Lrg 0 15)])),(6,((Lrg 0 28),[[],[0],[0,1],[0,1,2],[],[],[5],[5,6],[5,6,7],[],[],[10],[10,11],[10,11,12],[],[10,11,12,13,14],[10,11,12,13,14,15],[],[17],[17,18],[17,18,19],[],[17,18,19,20,21],[17,18,19,20,21,22],(Lrg 0 9++Lrg 10 14),(Lrg 0 9++Lrg 10 15),(Lrg 0 26),(Lrg 0 27)]))],[],[]⟩)
  (cfg:=⟨61,[],none,[76],[],false⟩) (args:=[.pointer a,I b,I d]) (by kernel_rfl) (B0 Tryz.call76 Bodies.nil) (Eq.mp (by kernel_rfl) hvc)
def B89(P:Program)(i:OA)(t:Int)(c:Int)(h:Heap)(K:Value->Heap->Prop):Prop:=
 ∃ (d:List Value->Heap->Prop) (j:List Value->Heap->Nat),d [I t] h/\
 ∀ (a:Int),∀ b,d [I a] b->∃ s,i=some s/\∃ (u:OA) (k v:Nat),b.cell? (s.add 2)=some (.slice u k v)/\Br (decide (a<(k:Int))) (FCall P Nm #[.pointer i,I a] b (fun x e=>∃ (l:OA) (m w:Nat),x= .slice l m w/\∃ g,l=some g/\0<=c/\c<(m:Int)/\∃ (n:Bool) (o:OA) (p q:Nat),e.cell? (Addr.add (g.add (c.toNat*2)) 0)=some (.bool n)/\e.cell? (Addr.add (g.add (c.toNat*2)) 1)=some (.slice o p q)/\FCall P H1 #[.agg #[.bool n,.slice o p q]] e (fun y f=>∃ (r:Bool),y= .bool r/\Br (!r) (K (.tuple #[I a,.bool true]) f)
 (d [I (B4 (a+1))] f/\j [I (B4 (a+1))] f<j [I a] b))))
 (K (.tuple #[I 0,.bool false]) b)
theorem B2f(a:OA)(b:Int)(d:Int)(hvc:B89 Tryz.prog a b d h K):FCall Tryz.prog A1v #[.pointer a,I b,I d] h K:=
 B7 Tryz.func101 (c:=C0 Tryz.f101) (by kernel_rfl) (rs:=[.tmp 6,.tmp 7]) (by kernel_rfl) (fa:=⟨[(2,⟨[8],[],[.int .i64 0],⟨([6,7,8]++Lrg 10 18),[]⟩⟩)],[],[],[],[]⟩)
  (cfg:=⟨28,[],none,[76,135],[],false⟩) (args:=[.pointer a,I b,I d]) (by kernel_rfl) (B0 Tryz.call76 (B0 Tryz.call135 Bodies.nil)) (Eq.mp (by kernel_rfl) hvc)
def B40(P:Program)(F:OA)(b4:Int)(b5:Int)(b:Int)(b6:Bool)(b7:OA)(b8 b9:Nat)(h:Heap)(K:Value->Heap->Prop):Prop:=
 FCall P Nm #[.pointer F,I b4] h (fun c2 c3=>∃ (i:OA) (e c0:Nat),c2= .slice i e c0/\FCall P Nm #[.pointer F,I b5] c3 (fun c4 v=>∃ (j:OA) (k c1:Nat),c4= .slice j k c1/\∃ A,i=some A/\0<=b/\b<(e:Int)/\∃ (m:Bool) (n:OA) (o p:Nat),v.cell? (Addr.add (A.add (b.toNat*2)) 0)=some (.bool m)/\v.cell? (Addr.add (A.add (b.toNat*2)) 1)=some (.slice n o p)/\∃ (f:List Value->Heap->Prop) (d:List Value->Heap->Nat),f [I 0] v/\
 ∀ (a:Int),∀ c,f [I a] c->Br (decide (a<(e:Int))) (∃ B,i=some B/\0<=a/\a<(e:Int)/\∃ (q:Bool) (r:OA) (s t:Nat),c.cell? (Addr.add (B.add (a.toNat*2)) 0)=some (.bool q)/\c.cell? (Addr.add (B.add (a.toNat*2)) 1)=some (.slice r s t)/\∃ (u:List Value->Heap->Prop),(FCall P H1 #[.agg #[.bool q,.slice r s t]] c (fun c5 a8=>∃ (G:Bool),c5= .bool G/\Br G (FCall P H1 #[.agg #[.bool m,.slice n o p]] a8 (fun c6 g=>∃ (H:Bool),c6= .bool H/\Br H (f [I (B4 (a+1))] g/\d [I (B4 (a+1))] g<d [I a] c)
 (∃ C,j=some C/\0<=a/\a<(k:Int)/\∃ (J:Bool) (L:OA) (M N:Nat),g.cell? (Addr.add (C.add (a.toNat*2)) 0)=some (.bool J)/\g.cell? (Addr.add (C.add (a.toNat*2)) 1)=some (.slice L M N)/\FCall P H1 #[.agg #[.bool J,.slice L M N]] g (fun c7 w=>∃ (O:Bool),c7= .bool O/\Br O (f [I (B4 (a+1))] w/\d [I (B4 (a+1))] w<d [I a] c)
 (u [] w)))))
 (u [] a8)))/\
 ∀ b2,u [] b2->wpH P (Instr.alloc 185 true (.tuple #[])) (fun c8 x=>∃ (l:Addr),c8= .pointer (some l)/\∃ D,j=some D/\0<=b/\b<(k:Int)/\∃ (Q:Bool) (R:OA) (S T:Nat),x.cell? (Addr.add (D.add (b.toNat*2)) 0)=some (.bool Q)/\x.cell? (Addr.add (D.add (b.toNat*2)) 1)=some (.slice R S T)/\FCall P Y8 #[.pointer (some l),.agg #[.bool Q,.slice R S T],.agg #[.bool q,.slice r s t]] x (fun c9 y=>c9= .tuple #[]/\∃ E,j=some E/\0<=a/\a<(k:Int)/\∃ (V:Bool) (W:OA) (X Z:Nat),y.cell? (Addr.add (E.add (a.toNat*2)) 0)=some (.bool V)/\y.cell? (Addr.add (E.add (a.toNat*2)) 1)=some (.slice W X Z)/\FCall P Dc #[.pointer (some l),.agg #[.bool m,.slice n o p],.agg #[.bool V,.slice W X Z]] y (fun d0 a9=>d0= .tuple #[]/\FCall P Vy #[.pointer (some l)] a9 (fun d1 z=>∃ (a0:Bool) (a1:OA) (a2 a3:Nat),d1= .agg #[.bool a0,.slice a1 a2 a3]/\Heap.le a9 z/\FCall P Jr #[.agg #[.bool a0,.slice a1 a2 a3],.agg #[.bool b6,.slice b7 b8 b9]] z (fun d2 b0=>∃ (a4:Bool) (a5:OA) (a6 a7:Nat),d2= .agg #[.bool a4,.slice a5 a6 a7]/\Heap.le z b0/\∃ b3,i=some b3/\0<=a/\a<(e:Int)/\wpH P (Instr.storeAt 94 (.pointer (some (b3.add (a.toNat*2)))) (.agg #[.bool a4,.slice a5 a6 a7])) (fun _ b1=>f [I (B4 (a+1))] b1/\d [I (B4 (a+1))] b1<d [I a] c) b0))))) b2)
 (K (.tuple #[]) c)))
theorem A9y(a:OA)(b:Int)(d:Int)(e:Int)(f:Bool)(g:OA)(i j:Nat)(hvc:B40 Tryz.prog a b d e f g i j h K):FCall Tryz.prog Wl #[.pointer a,I b,I d,I e,.agg #[.bool f,.slice g i j]] h K:=
 B7 Tryz.func104 (c:=C0 Tryz.f104) (by kernel_rfl) (rs:=[]) (by kernel_rfl) (fa:=⟨[(4,⟨[28],[],[.int .i64 0],⟨([13,14,15]++Lrg 28 37),[14]⟩⟩)],[(7,⟨[],[],[],⟨(Lrg 33 13),[]⟩⟩)],[(8,([0,1,2,3,4,5],[[],[],[0,1],[0,1,2],[],[0,1,2,3,4]])),(9,([0,1,2,3,4,5],[[],[],[],[1,2],[1,2,3],[0,1,2,3,4]])),(10,([0,1,3,2,4,5,6],[[],[],[],[],[2,3],[0,1,2,3,4],[0,1,2,3,4,5]]))],[],[]⟩)
  (cfg:=⟨65,[9,12,14],none,[76,135,136,150,151,160],[150,160],false⟩) (args:=[.pointer a,I b,I d,I e,.agg #[.bool f,.slice g i j]]) (by kernel_rfl) (B0 Tryz.call76 (B0 Tryz.call135 (B0 Tryz.call136 (B0 Tryz.call150 (B0 Tryz.call151 (B0 Tryz.call160 Bodies.nil)))))) (Eq.mp (by kernel_rfl) hvc)
def A9u(P:Program)(m:OA)(Z:Int)(h:Heap)(K:Value->Heap->Prop):Prop:=
 FCall P Tn #[I 1] h (fun a3 a4=>∃ (G:Bool) (H:OA) (J L:Nat),a3= .agg #[.bool G,.slice H J L]/\∃ (o:List Value->Heap->Prop) (p:List Value->Heap->Nat),o [.slice none 0 0,I 1,I 0,.bool G,.slice H J L] a4/\
 ∀ (e:OA) (b f:Nat) (d:Int) (a:Int) (g:Bool) (i:OA) (j k:Nat),∀ n,o [.slice e b f,I d,I a,.bool g,.slice i j k] n->Br (decide (a<Z)) (FCall P A1v #[.pointer m,I (b:Int),I a] n (fun a5 s=>∃ (t:Int) (M:Bool),a5= .tuple #[I t,.bool M]/\Br (!M) (o [.slice e b f,I d,I (B4 (a+1)),.bool g,.slice i j k] s/\p [.slice e b f,I d,I (B4 (a+1)),.bool g,.slice i j k] s<p [.slice e b f,I d,I a,.bool g,.slice i j k] n)
 (∃ (u:List Value->Heap->Prop),(Br (t != (b:Int)) (FCall P A1u #[.pointer m,I (b:Int),I t] s (fun a6 a7=>a6= .tuple #[]/\u [I (B4 (0-d))] a7))
 (u [I d] s))/\
 ∀ (v:Int),∀ E,u [I v] E->∃ X,m=some X/\∃ (a0:OA) (N a1:Nat),E.cell? (X.add 2)=some (.slice a0 N a1)/\∃ (q:List Value->Heap->Prop) (r:List Value->Heap->Nat),q [I 0] E/\
 ∀ (c:Int),∀ l,q [I c] l->Br (decide (c<(N:Int))) (Br (c != (b:Int)) (FCall P Wl #[.pointer m,I c,I (b:Int),I a,.agg #[.bool g,.slice i j k]] l (fun a8 V=>a8= .tuple #[]/\q [I (B4 (c+1))] V/\r [I (B4 (c+1))] V<r [I c] l))
 (q [I (B4 (c+1))] l/\r [I (B4 (c+1))] l<r [I c] l))
 (FCall P Nm #[.pointer m,I (b:Int)] l (fun a9 D=>∃ (O:OA) (Q a2:Nat),a9= .slice O Q a2/\∃ F,O=some F/\0<=a/\a<(Q:Int)/\∃ (w:Bool) (x:OA) (y z:Nat),D.cell? (Addr.add (F.add (a.toNat*2)) 0)=some (.bool w)/\D.cell? (Addr.add (F.add (a.toNat*2)) 1)=some (.slice x y z)/\wpH P (Instr.buildSlice 27 1 #[(0,I a)]) (fun b0 b1=>∃ (R:OA) (S T:Nat),b0= .slice R S T/\wpH P (Builtin.append_ #[27,27] 27 #[.slice e b f,.slice R S T]) (fun b2 W=>∃ (A:OA) (B C:Nat),b2= .slice A B C/\o [.slice A B C,I v,I (B4 (a+1)),.bool w,.slice x y z] W/\p [.slice A B C,I v,I (B4 (a+1)),.bool w,.slice x y z] W<p [.slice e b f,I d,I a,.bool g,.slice i j k] n) b1) D)))))
 (K (.tuple #[.slice e b f,.agg #[.bool g,.slice i j k],I d]) n))
theorem A5g(a:OA)(b:Int)(hvc:A9u Tryz.prog a b h K):FCall Tryz.prog Fh #[.pointer a,I b] h K:=
 B7 Tryz.func69 (c:=C0 Tryz.f69) (by kernel_rfl) (rs:=[.tmp 4,.cell 5 94,.tmp 6]) (by kernel_rfl) (fa:=⟨[(4,⟨[7,9,17],[(8,2)],[.slice none 0 0,.int .i64 0,.int .i64 0,.bool false,.slice none 0 0],⟨([7,9,10,11,12,13,14]++Lrg 17 52),[8]⟩⟩),(13,⟨[45],[],[.int .i64 0],⟨([14]++Lrg 45 13),[]⟩⟩)],[(12,⟨[9],[],[.int .i64 0],⟨([9]++Lrg 31 9),[]⟩⟩)],[(21,([0,1,2,3,4,5],[[],[],[],[0],[0,1,3],[0,1,2,3,4]]))],[],[]⟩)
  (cfg:=⟨72,[5,8],none,[76,100,101,102,104],[102,104],false⟩) (args:=[.pointer a,I b]) (by kernel_rfl) (B0 Tryz.call76 (B0 Tryz.call100 (B0 Tryz.call101 (B0 Tryz.call102 (B0 Tryz.call104 Bodies.nil))))) (Eq.mp (by kernel_rfl) hvc)
def B3q(P:Program)(e:OA)(f g:Nat)(i:Int)(h:Heap)(K:Value->Heap->Prop):Prop:=
 wpH P (Instr.box 87 (.slice e f g)) (fun j k=>∃ (b:Addr),j= .pointer (some b)/\wpH P (Instr.box 3 (I i)) (fun l d=>∃ (a:Addr),l= .pointer (some a)/\∃ (c:Int),d.cell? a=some (I c)/\Br (decide (c<(1:Int))) (False)
 (K (.func (.func 174) #[] #[.pointer (some b),.pointer (some a)]) d)) k) h
theorem A9k(a:OA)(b d:Nat)(e:Int)(hvc:B3q Tryz.prog a b d e h K):FCall Tryz.prog Wf #[.slice a b d,I e] h K:=
 B7 Tryz.func131 (c:=C0 Tryz.f131) (by kernel_rfl) (rs:=[.tmp 4]) (by kernel_rfl) (fa:=⟨[],[],[],[],[]⟩)
  (cfg:=⟨9,[],none,[],[],false⟩) (args:=[.slice a b d,I e]) (by kernel_rfl) Bodies.nil (Eq.mp (by kernel_rfl) hvc)
def A9l(P:Program)(p:Nat)(f:Addr)(j:Addr)(h:Heap)(K:Value->Heap->Prop):Prop:=
 ∃ (g:List Value->Heap->Prop) (k:List Value->Heap->Nat),g [I 0] h/\
 ∀ (a:Int),∀ d,g [I a] d->∃ (q:OA) (l r:Nat),d.cell? f=some (.slice q l r)/\Br (decide (a<(l:Int))) (∃ (c:Int),d.cell? j=some (I c)/\∃ (s:OA) (b t:Nat),d.cell? f=some (.slice s b t)/\(0<=a/\a<=(b:Int))/\∃ (m:OA) (u n:Nat),d.cell? f=some (.slice m u n)/\(0<=B4 (a+(if ((b-(a.toNat):Nat):Int)<c then ((b-(a.toNat):Nat):Int) else c))/\B4 (a+(if ((b-(a.toNat):Nat):Int)<c then ((b-(a.toNat):Nat):Int) else c))<=(n:Int))/\(0<=B4 (a+(if ((b-(a.toNat):Nat):Int)<c then ((b-(a.toNat):Nat):Int) else c))/\B4 (a+(if ((b-(a.toNat):Nat):Int)<c then ((b-(a.toNat):Nat):Int) else c))<=(((B4 (a+(if ((b-(a.toNat):Nat):Int)<c then ((b-(a.toNat):Nat):Int) else c))).toNat:Nat):Int))/\(0<=a/\a<=(((B4 (a+(if ((b-(a.toNat):Nat):Int)<c then ((b-(a.toNat):Nat):Int) else c))).toNat:Nat):Int))/\YCall P p #[.slice (J8 m ((B4 (a+(if ((b-(a.toNat):Nat):Int)<c then ((b-(a.toNat):Nat):Int) else c))).toNat) (a.toNat) 4) ((B4 (a+(if ((b-(a.toNat):Nat):Int)<c then ((b-(a.toNat):Nat):Int) else c))).toNat-a.toNat) ((B4 (a+(if ((b-(a.toNat):Nat):Int)<c then ((b-(a.toNat):Nat):Int) else c))).toNat-a.toNat)] d (fun v e=>∃ (o:Bool),v= .bool o/\Br (!o) (K (.tuple #[]) e)
 (∃ (i:Int),e.cell? j=some (I i)/\g [I (B4 (a+i))] e/\k [I (B4 (a+i))] e<k [I a] d)))
 (K (.tuple #[]) d)
theorem A5d(a:Nat)(b:Addr)(d:Addr)(hvc:A9l Tryz.prog a b d h K):FCall Tryz.prog Fd #[.func (.yield a) #[] #[],.pointer (some b),.pointer (some d)] h K:=
 B7 Tryz.func174 (c:=C0 Tryz.f174) (by kernel_rfl) (rs:=[]) (by kernel_rfl) (fa:=⟨[(1,⟨[4],[],[.int .i64 0],⟨(Lrg 4 27),[]⟩⟩)],[],[(3,([0,1,2,3,4,5,6],[[],[],[],[1,2],[1,2,3],[0,1,2,3,4],[0,1,2,3,4,5]]))],[],[]⟩)
  (cfg:=⟨31,[],none,[],[],false⟩) (args:=[.func (.yield a) #[] #[],.pointer (some b),.pointer (some d)]) (by kernel_rfl) Bodies.nil (Eq.mp (by kernel_rfl) hvc)
theorem Xk:∀ (args:Array Value) (W:World),(callFunc Fd args).run Tryz.prog W= .ok (.enter Fd args) W:=Tryz.call174
def B84(P:Program)(c:Int)(b:Int)(r:OA)(j s:Nat)(h:Heap)(K:Value->Heap->Prop):Prop:=
 Br (decide (c<(1:Int))) (K (.tuple #[.slice none 0 0,.bool false]) h)
 (Br (decide (c>(64:Int))) (K (.tuple #[.slice none 0 0,.bool false]) h)
 (Br (decide (b<(1:Int))) (K (.tuple #[.slice none 0 0,.bool false]) h)
 (Br (decide (b>(64:Int))) (K (.tuple #[.slice none 0 0,.bool false]) h)
 (Br ((j:Int) != (B4 (c*b))) (K (.tuple #[.slice none 0 0,.bool false]) h)
 (FCall P A1q #[.slice r j s] h (fun u o=>∃ (k:OA) (t d:Nat) (l:Bool),u= .tuple #[.slice k t d,.bool l]/\Br (!l) (K (.tuple #[.slice none 0 0,.bool false]) o)
 (wpH P (Instr.makeSlice 46 (I c) (I c)) (fun v w=>∃ (f:OA) (g m:Nat),v= .slice f g m/\∃ (i:List Value->Heap->Prop) (n:List Value->Heap->Nat),i [I 0] w/\
 ∀ (a:Int),∀ e,i [I a] e->Br (decide (a<c)) ((0<=B4 ((B4 (a+1))*b)/\B4 ((B4 (a+1))*b)<=(d:Int))/\(0<=B4 (a*b)/\B4 (a*b)<=(((B4 ((B4 (a+1))*b)).toNat:Nat):Int))/\∃ q,f=some q/\0<=a/\a<(g:Int)/\wpH P (Instr.storeAt 43 (.pointer (some (q.add (a.toNat*1)))) (.slice (J8 k d ((B4 (a*b)).toNat) 4) (((B4 ((B4 (a+1))*b)).toNat)-((B4 (a*b)).toNat)) (d-((B4 (a*b)).toNat)))) (fun _ p=>i [I (B4 (a+1))] p/\n [I (B4 (a+1))] p<n [I a] e) e)
 (K (.tuple #[.slice f g m,.bool true]) e)) o)))))))
theorem B2b(a:Int)(b:Int)(d:OA)(e f:Nat)(hvc:B84 Tryz.prog a b d e f h K):FCall Tryz.prog A1r #[.agg #[I a,I b,.slice d e f]] h K:=
 B7 Tryz.func27 (c:=C0 Tryz.f27) (by kernel_rfl) (rs:=[.tmp 2,.tmp 3]) (by kernel_rfl) (fa:=⟨[(8,⟨[7],[],[.int .i64 0],⟨([7]++Lrg 48 20),[]⟩⟩)],[],[],[],[]⟩)
  (cfg:=⟨69,[1],none,[26],[],false⟩) (args:=[.agg #[I a,I b,.slice d e f]]) (by kernel_rfl) (B0 Tryz.call26 Bodies.nil) (Eq.mp (by kernel_rfl) hvc)
def B85(P:Program)(n:OA)(c E:Nat)(h:Heap)(K:Value->Heap->Prop):Prop:=
 Br ((c:Int)==(0:Int)) (K (.agg #[I 0,I 0,.slice none 0 0]) h)
 (∃ y,n=some y/\0<=(0:Int)/\(0:Int)<(c:Int)/\∃ (A:OA) (o B:Nat),h.cell? (y.add (((0:Int)).toNat*1))=some (.slice A o B)/\∃ (j:List Value->Heap->Prop) (p:List Value->Heap->Nat),j [I 0,I (c:Int),I (o:Int),.slice none 0 0] h/\
 ∀ (a:Int) (d:Int) (e:Int) (f:OA) (g i:Nat),∀ b,j [I a,I d,I e,.slice f g i] b->Br (decide (a<(c:Int))) (∃ z,n=some z/\0<=a/\a<(c:Int)/\∃ (q:OA) (r s:Nat),b.cell? (z.add (a.toNat*1))=some (.slice q r s)/\FCall P Vz #[.slice q r s] b (fun C w=>∃ (t:OA) (u v:Nat),C= .slice t u v/\Heap.le b w/\wpH P (Builtin.append_ #[22,22] 22 #[.slice f g i,.slice t u v]) (fun D x=>∃ (k:OA) (l m:Nat),D= .slice k l m/\j [I (B4 (a+1)),I d,I e,.slice k l m] x/\p [I (B4 (a+1)),I d,I e,.slice k l m] x<p [I a,I d,I e,.slice f g i] b) w))
 (K (.agg #[I d,I e,.slice f g i]) b))
theorem B2c(a:OA)(b d:Nat)(hvc:B85 Tryz.prog a b d h K):FCall Tryz.prog A1s #[.slice a b d] h K:=
 B7 Tryz.func73 (c:=C0 Tryz.f73) (by kernel_rfl) (rs:=[.cell 2 24]) (by kernel_rfl) (fa:=⟨[(5,⟨[4],[(3,3)],[.int .i64 0,.int .i64 0,.int .i64 0,.slice none 0 0],⟨([4]++Lrg 16 15),[3]⟩⟩)],[],[(7,((Lrg 0 10),[[],[0],[],[],[2,3],[2,3,4],[2,3,4,5],[0,1,2,3,4,5,6],(Lrg 0 8),(Lrg 0 9)]))],[],[]⟩)
  (cfg:=⟨32,[2,3],none,[84],[1000000000],false⟩) (args:=[.slice a b d]) (by kernel_rfl) (B0 Tryz.call84 Bodies.nil) (Eq.mp (by kernel_rfl) hvc)
def B86(P:Program)(B:OA)(k J:Nat)(h:Heap)(K:Value->Heap->Prop):Prop:=
 ∃ (f:List Value->Heap->Prop) (l:List Value->Heap->Nat),f [.slice none 0 0,I 0] h/\
 ∀ (b:OA) (c d:Nat) (a:Int),∀ e,f [.slice b c d,I a] e->Br (decide (a<(k:Int))) (wpH P (Instr.buildSlice 43 0 #[]) (fun C y=>∃ (m:OA) (n o:Nat),C= .slice m n o/\∃ A,B=some A/\0<=a/\a<(k:Int)/\∃ (p:OA) (q r:Nat),y.cell? (A.add (a.toNat*1))=some (.slice p q r)/\wpH P (Builtin.append_ #[43,43] 43 #[.slice m n o,.slice p q r]) (fun D E=>∃ (s:OA) (t u:Nat),D= .slice s t u/\wpH P (Instr.buildSlice 46 1 #[(0,.slice s t u)]) (fun F G=>∃ (v:OA) (w x:Nat),F= .slice v w x/\wpH P (Builtin.append_ #[46,46] 46 #[.slice b c d,.slice v w x]) (fun H z=>∃ (g:OA) (i j:Nat),H= .slice g i j/\f [.slice g i j,I (B4 (a+1))] z/\l [.slice g i j,I (B4 (a+1))] z<l [.slice b c d,I a] e) G) E) y) e)
 (K (.slice b c d) e)
theorem B2d(a:OA)(b d:Nat)(hvc:B86 Tryz.prog a b d h K):FCall Tryz.prog A1t #[.slice a b d] h K:=
 B7 Tryz.func105 (c:=C0 Tryz.f105) (by kernel_rfl) (rs:=[.tmp 2]) (by kernel_rfl) (fa:=⟨[(3,⟨[3,4],[],[.slice none 0 0,.int .i64 0],⟨(Lrg 3 17),[]⟩⟩)],[],[],[],[]⟩)
  (cfg:=⟨21,[],none,[],[],false⟩) (args:=[.slice a b d]) (by kernel_rfl) Bodies.nil (Eq.mp (by kernel_rfl) hvc)
def If(P:Program)(f:OA)(g i:Nat)(b2:Int)(b3:List Value->Heap->Prop)(l:List Value->Heap->Nat)(c:Int)(b4:Bool)(b5:OA)(b6 b7:Nat)(b8:Bool)(b9:OA)(c0 c1:Nat)(c2:Heap)(c3:Heap):Prop:=
 ∃ (j:List Value->Heap->Prop) (m:List Value->Heap->Nat),j [I b2] c2/\
 ∀ (a:Int),∀ b,j [I a] b->∃ a7,f=some a7/\0<=c/\c<(g:Int)/\∃ (c4:OA) (n c5:Nat),b.cell? (a7.add (c.toNat*1))=some (.slice c4 n c5)/\Br (decide (a<(n:Int))) (∃ a8,f=some a8/\0<=c/\c<(g:Int)/\∃ (o:OA) (p c6:Nat),b.cell? (a8.add (c.toNat*1))=some (.slice o p c6)/\∃ a9,f=some a9/\0<=c/\c<(g:Int)/\∃ (q:OA) (r c7:Nat),b.cell? (a9.add (c.toNat*1))=some (.slice q r c7)/\∃ d,q=some d/\0<=a/\a<(r:Int)/\∃ (s:Bool) (t:OA) (u v:Nat) (w:Bool) (x:OA) (y z:Nat),b.cell? (Addr.add (d.add (a.toNat*4)) 0)=some (.bool s)/\b.cell? (Addr.add (d.add (a.toNat*4)) 1)=some (.slice t u v)/\b.cell? (Addr.add (d.add (a.toNat*4)) 2)=some (.bool w)/\b.cell? (Addr.add (d.add (a.toNat*4)) 3)=some (.slice x y z)/\∃ b0,f=some b0/\0<=(i:Int)/\(i:Int)<(g:Int)/\∃ (A:OA) (B c8:Nat),b.cell? (b0.add (((i:Int)).toNat*1))=some (.slice A B c8)/\∃ e,A=some e/\0<=a/\a<(B:Int)/\∃ (C:Bool) (D:OA) (E F:Nat) (G:Bool) (H:OA) (J L:Nat),b.cell? (Addr.add (e.add (a.toNat*4)) 0)=some (.bool C)/\b.cell? (Addr.add (e.add (a.toNat*4)) 1)=some (.slice D E F)/\b.cell? (Addr.add (e.add (a.toNat*4)) 2)=some (.bool G)/\b.cell? (Addr.add (e.add (a.toNat*4)) 3)=some (.slice H J L)/\FCall P Wc #[.agg #[.bool b4,.slice b5 b6 b7,.bool b8,.slice b9 c0 c1],.agg #[.bool C,.slice D E F,.bool G,.slice H J L]] b (fun c9 k=>∃ (M:Bool) (N:OA) (O Q:Nat) (R:Bool) (S:OA) (T V:Nat),c9= .agg #[.bool M,.slice N O Q,.bool R,.slice S T V]/\Heap.le b k/\FCall P A1n #[.agg #[.bool s,.slice t u v,.bool w,.slice x y z],.agg #[.bool M,.slice N O Q,.bool R,.slice S T V]] k (fun d0 a5=>∃ (W:Bool) (X:OA) (Z a0:Nat) (a1:Bool) (a2:OA) (a3 a4:Nat),d0= .agg #[.bool W,.slice X Z a0,.bool a1,.slice a2 a3 a4]/\Heap.le k a5/\∃ b1,o=some b1/\0<=a/\a<(p:Int)/\wpH P (Instr.storeAt 54 (.pointer (some (b1.add (a.toNat*4)))) (.agg #[.bool W,.slice X Z a0,.bool a1,.slice a2 a3 a4])) (fun _ a6=>j [I (B4 (a+1))] a6/\m [I (B4 (a+1))] a6<m [I a] b) a5)))
 (b3 [I (B4 (c+1))] b/\l [I (B4 (c+1))] b<l [I c] c3)
def Dp(P:Program)(v:OA)(i:Nat)(S:List Value->Heap->Prop)(w:List Value->Heap->Nat)(x:OA)(g y:Nat)(c:Int)(T:Bool)(V:OA)(W X:Nat)(Z:Bool)(a0:OA)(a1 a2:Nat)(z:Bool)(A:OA)(B C:Nat)(D:Bool)(E:OA)(F G:Nat)(a3:Heap)(a4:Heap):Prop:=
 ∃ (d:List Value->Heap->Prop) (e:List Value->Heap->Nat),d [I 0] a4/\
 ∀ (a:Int),∀ b,d [I a] b->Br (decide (a<(i:Int))) (∃ R,v=some R/\0<=a/\a<(i:Int)/\∃ (H:OA) (J a5:Nat),b.cell? (R.add (a.toNat*1))=some (.slice H J a5)/\∃ f,H=some f/\0<=c/\c<(J:Int)/\∃ (j:Bool) (k:OA) (l m:Nat) (n:Bool) (o:OA) (p q:Nat),b.cell? (Addr.add (f.add (c.toNat*4)) 0)=some (.bool j)/\b.cell? (Addr.add (f.add (c.toNat*4)) 1)=some (.slice k l m)/\b.cell? (Addr.add (f.add (c.toNat*4)) 2)=some (.bool n)/\b.cell? (Addr.add (f.add (c.toNat*4)) 3)=some (.slice o p q)/\Br (a==(g:Int)) (d [I (B4 (a+1))] b/\e [I (B4 (a+1))] b<e [I a] b)
 (FCall P Jx #[.agg #[.bool j,.slice k l m,.bool n,.slice o p q]] b (fun a6 u=>∃ (L:Int),a6=I L/\Br (L==(0:Int)) (d [I (B4 (a+1))] u/\e [I (B4 (a+1))] u<e [I a] b)
 (If P v i g c d e a j k l m n o p q u b))))
 (wpH P (Instr.buildSlice 27 1 #[(0,I c)]) (fun a7 a8=>∃ (M:OA) (N O:Nat),a7= .slice M N O/\wpH P (Builtin.append_ #[27,27] 27 #[.slice x g y,.slice M N O]) (fun a9 Q=>∃ (r:OA) (s t:Nat),a9= .slice r s t/\S [.slice r s t,I (B4 (c+1)),.bool z,.slice A B C,.bool D,.slice E F G] Q/\w [.slice r s t,I (B4 (c+1)),.bool z,.slice A B C,.bool D,.slice E F G] Q<w [.slice x g y,I c,.bool T,.slice V W X,.bool Z,.slice a0 a1 a2] a3) a8) b)
def Ig(P:Program)(e:OA)(f:Nat)(M:List Value->Heap->Prop)(N:List Value->Heap->Nat)(O:OA)(c Q:Nat)(R:Int)(S:Bool)(T:OA)(V W:Nat)(X:Bool)(Z:OA)(a0 a1:Nat)(a2:Bool)(a3:OA)(a4 a5:Nat)(a6:Bool)(a7:OA)(a8 a9:Nat)(b0:Bool)(b1:OA)(b2 b3:Nat)(b4:Bool)(b5:OA)(b6 b7:Nat)(b8:Heap)(b9:Heap):Prop:=
 ∃ (g:List Value->Heap->Prop) (i:List Value->Heap->Nat),g [I 0] b8/\
 ∀ (a:Int),∀ b,g [I a] b->∃ G,e=some G/\0<=(c:Int)/\(c:Int)<(f:Int)/\∃ (c0:OA) (j c1:Nat),b.cell? (G.add (((c:Int)).toNat*1))=some (.slice c0 j c1)/\Br (decide (a<(j:Int))) (∃ H,e=some H/\0<=(c:Int)/\(c:Int)<(f:Int)/\∃ (k:OA) (l c2:Nat),b.cell? (H.add (((c:Int)).toNat*1))=some (.slice k l c2)/\∃ J,e=some J/\0<=(c:Int)/\(c:Int)<(f:Int)/\∃ (m:OA) (n c3:Nat),b.cell? (J.add (((c:Int)).toNat*1))=some (.slice m n c3)/\∃ d,m=some d/\0<=a/\a<(n:Int)/\∃ (o:Bool) (p:OA) (q r:Nat) (s:Bool) (t:OA) (u v:Nat),b.cell? (Addr.add (d.add (a.toNat*4)) 0)=some (.bool o)/\b.cell? (Addr.add (d.add (a.toNat*4)) 1)=some (.slice p q r)/\b.cell? (Addr.add (d.add (a.toNat*4)) 2)=some (.bool s)/\b.cell? (Addr.add (d.add (a.toNat*4)) 3)=some (.slice t u v)/\FCall P A1o #[.agg #[.bool o,.slice p q r,.bool s,.slice t u v],.agg #[.bool a2,.slice a3 a4 a5,.bool a6,.slice a7 a8 a9]] b (fun c4 E=>∃ (w:Bool) (x:OA) (y z:Nat) (A:Bool) (B:OA) (C D:Nat),c4= .agg #[.bool w,.slice x y z,.bool A,.slice B C D]/\Heap.le b E/\∃ L,k=some L/\0<=a/\a<(l:Int)/\wpH P (Instr.storeAt 54 (.pointer (some (L.add (a.toNat*4)))) (.agg #[.bool w,.slice x y z,.bool A,.slice B C D])) (fun _ F=>g [I (B4 (a+1))] F/\i [I (B4 (a+1))] F<i [I a] b) E))
 (Dp P e f M N O c Q R S T V W X Z a0 a1 b0 b1 b2 b3 b4 b5 b6 b7 b9 b)
def Ih(P:Program)(n:OA)(o:Nat)(A:List Value->Heap->Prop)(B:List Value->Heap->Nat)(C:OA)(d D:Nat)(a:Int)(E:Bool)(F:OA)(G H:Nat)(J:Bool)(L:OA)(M N:Nat)(O:Bool)(Q:OA)(R S:Nat)(T:Bool)(V:OA)(W X:Nat)(Z:Heap)(b:Heap):Prop:=
 ∃ z,n=some z/\0<=(d:Int)/\(d:Int)<(o:Int)/\∃ (p:OA) (q a0:Nat),b.cell? (z.add (((d:Int)).toNat*1))=some (.slice p q a0)/\∃ c,p=some c/\0<=a/\a<(q:Int)/\∃ (e:Bool) (f:OA) (g i:Nat) (j:Bool) (k:OA) (l m:Nat),b.cell? (Addr.add (c.add (a.toNat*4)) 0)=some (.bool e)/\b.cell? (Addr.add (c.add (a.toNat*4)) 1)=some (.slice f g i)/\b.cell? (Addr.add (c.add (a.toNat*4)) 2)=some (.bool j)/\b.cell? (Addr.add (c.add (a.toNat*4)) 3)=some (.slice k l m)/\FCall P Wc #[.agg #[.bool O,.slice Q R S,.bool T,.slice V W X],.agg #[.bool e,.slice f g i,.bool j,.slice k l m]] b (fun a1 a2=>∃ (r:Bool) (s:OA) (t u:Nat) (v:Bool) (w:OA) (x y:Nat),a1= .agg #[.bool r,.slice s t u,.bool v,.slice w x y]/\Ig P n o A B C d D a E F G H J L M N e f g i j k l m r s t u v w x y a2 Z)
def Ii(P:Program)(e:OA)(c:Nat)(t:List Value->Heap->Prop)(r:List Value->Heap->Nat)(f:OA)(a g:Nat)(i:Int)(j:Bool)(k:OA)(l m:Nat)(n:Bool)(o:OA)(p q:Nat)(b:Int)(u:Heap)(d:Heap):Prop:=
 Br (b==(c:Int)) (t [.slice f a g,I (B4 (i+1)),.bool false,.slice none 0 0,.bool false,.slice none 0 0] d/\r [.slice f a g,I (B4 (i+1)),.bool false,.slice none 0 0,.bool false,.slice none 0 0] d<r [.slice f a g,I i,.bool j,.slice k l m,.bool n,.slice o p q] u)
 (∃ (s:List Value->Heap->Prop),(Br (b != (a:Int)) (∃ V,e=some V/\0<=(a:Int)/\(a:Int)<(c:Int)/\∃ (v:OA) (w x:Nat),d.cell? (V.add (((a:Int)).toNat*1))=some (.slice v w x)/\∃ W,e=some W/\0<=b/\b<(c:Int)/\∃ (y:OA) (z A:Nat),d.cell? (W.add (b.toNat*1))=some (.slice y z A)/\∃ X,e=some X/\0<=b/\b<(c:Int)/\wpH P (Instr.storeAt 43 (.pointer (some (X.add (b.toNat*1)))) (.slice v w x)) (fun _ a1=>∃ Z,e=some Z/\0<=(a:Int)/\(a:Int)<(c:Int)/\wpH P (Instr.storeAt 43 (.pointer (some (Z.add (((a:Int)).toNat*1)))) (.slice y z A)) (fun _ a2=>FCall P Wb #[.agg #[.bool j,.slice k l m,.bool n,.slice o p q]] a2 (fun a3 a4=>∃ (B:Bool) (C:OA) (D E:Nat) (F:Bool) (G:OA) (H J:Nat),a3= .agg #[.bool B,.slice C D E,.bool F,.slice G H J]/\s [.bool B,.slice C D E,.bool F,.slice G H J] a4)) a1) d)
 (s [.bool j,.slice k l m,.bool n,.slice o p q] d))/\
 ∀ (L:Bool) (M:OA) (N O:Nat) (Q:Bool) (R:OA) (S T:Nat),∀ a0,s [.bool L,.slice M N O,.bool Q,.slice R S T] a0->Ih P e c t r f a g i j k l m n o p q L M N O Q R S T u a0)
def A3r(P:Program)(a1:OA)(a2 a3:Nat)(u:Int)(h:Heap)(K:Value->Heap->Prop):Prop:=
 FCall P A1t #[.slice a1 a2 a3] h (fun a6 a7=>∃ (f:OA) (c k:Nat),a6= .slice f c k/\FCall P B92 #[I 1] a7 (fun a8 a9=>∃ (z:Bool) (A:OA) (B C:Nat) (D:Bool) (E:OA) (F G:Nat),a8= .agg #[.bool z,.slice A B C,.bool D,.slice E F G]/\∃ (v:List Value->Heap->Prop) (a4:List Value->Heap->Nat),v [.slice none 0 0,I 0,.bool z,.slice A B C,.bool D,.slice E F G] a9/\
 ∀ (i:OA) (a j:Nat) (d:Int) (m:Bool) (n:OA) (o p:Nat) (q:Bool) (r:OA) (s t:Nat),∀ g,v [.slice i a j,I d,.bool m,.slice n o p,.bool q,.slice r s t] g->Br (decide (d<u)) (Br (decide ((a:Int)<(c:Int))) (∃ (w:List Value->Heap->Prop),(∃ (x:List Value->Heap->Prop) (H:List Value->Heap->Nat),x [I (a:Int)] g/\
 ∀ (b:Int),∀ e,x [I b] e->Br (decide (b<(c:Int))) (∃ Z,f=some Z/\0<=b/\b<(c:Int)/\∃ (J:OA) (L a5:Nat),e.cell? (Z.add (b.toNat*1))=some (.slice J L a5)/\∃ l,J=some l/\0<=d/\d<(L:Int)/\∃ (M:Bool) (N:OA) (O Q:Nat) (R:Bool) (S:OA) (T V:Nat),e.cell? (Addr.add (l.add (d.toNat*4)) 0)=some (.bool M)/\e.cell? (Addr.add (l.add (d.toNat*4)) 1)=some (.slice N O Q)/\e.cell? (Addr.add (l.add (d.toNat*4)) 2)=some (.bool R)/\e.cell? (Addr.add (l.add (d.toNat*4)) 3)=some (.slice S T V)/\FCall P Jx #[.agg #[.bool M,.slice N O Q,.bool R,.slice S T V]] e (fun b0 y=>∃ (W:Int),b0=I W/\Br (W==(0:Int)) (x [I (B4 (b+1))] y/\H [I (B4 (b+1))] y<H [I b] e)
 (w [I b] y)))
 (w [I b] e))/\
 ∀ (X:Int),∀ a0,w [I X] a0->Ii P f c v a4 i a j d m n o p q r s t X g a0)
 (Br (decide ((a:Int)<u)) (K (.tuple #[.slice f c k,.slice i a j,.agg #[.bool false,.slice none 0 0,.bool false,.slice none 0 0]]) g)
 (K (.tuple #[.slice f c k,.slice i a j,.agg #[.bool m,.slice n o p,.bool q,.slice r s t]]) g)))
 (Br (decide ((a:Int)<u)) (K (.tuple #[.slice f c k,.slice i a j,.agg #[.bool false,.slice none 0 0,.bool false,.slice none 0 0]]) g)
 (K (.tuple #[.slice f c k,.slice i a j,.agg #[.bool m,.slice n o p,.bool q,.slice r s t]]) g))))
theorem A2g(a:OA)(b d:Nat)(e:Int)(hvc:A3r Tryz.prog a b d e h K):FCall Tryz.prog Lx #[.slice a b d,I e] h K:=
 B7 Tryz.func72 (c:=C0 Tryz.f72) (by kernel_rfl) (rs:=[.tmp 4,.tmp 5,.cell 6 54]) (by kernel_rfl) (fa:=⟨[(5,⟨[8,10],[(9,4)],[.slice none 0 0,.int .i64 0,.bool false,.slice none 0 0,.bool false,.slice none 0 0],⟨([8]++Lrg 10 8++Lrg 21 148),[9,13,16]⟩⟩),(9,⟨[12],[],[.int .i64 0],⟨([12]++Lrg 36 17),[]⟩⟩),(19,⟨[14],[],[.int .i64 0],⟨([14]++Lrg 87 24),[]⟩⟩),(23,⟨[15],[],[.int .i64 0],⟨([15,16,17]++Lrg 111 54),[16]⟩⟩),(28,⟨[17],[],[.int .i64 0],⟨([17]++Lrg 133 32),[]⟩⟩)],[(11,⟨[12],[],[.int .i64 0],⟨([12]++Lrg 36 17),[]⟩⟩),(16,⟨[],[(9,4)],[.bool false,.slice none 0 0,.bool false,.slice none 0 0],⟨(Lrg 58 19),[9]⟩⟩)],[(14,((Lrg 0 16),[[],[],[],[],[],[],[4,5],[4,5,6],[],[],[8,9],[8,9,10],([0,1]++Lrg 4 8),([0,1]++Lrg 4 9),(Lrg 0 14),(Lrg 0 15)])),(21,((Lrg 0 16),[[],[],[0,1],[0,1,2],[],[],[],[5,6],[5,6,7],[],[5,6,7,8,9],[5,6,7,8,9,10],[],(Lrg 5 8),(Lrg 0 14),(Lrg 0 15)])),(30,((Lrg 0 24),[[],[],[0,1],[0,1,2],[],[],[],[5,6],[5,6,7],[],[5,6,7,8,9],[5,6,7,8,9,10],[],[],[],[13,14],[13,14,15],[],[13,14,15,16,17],[13,14,15,16,17,18],(Lrg 12 8),(Lrg 5 16),(Lrg 0 22),(Lrg 0 23)])),(34,([0,1,2,3,4,5],[[],[],[],[0],[0,1,3],[0,1,2,3,4]]))],[],[]⟩)
  (cfg:=⟨177,[6,9,13,16],none,[32,59,88,105,106,107,140],[],false⟩) (args:=[.slice a b d,I e]) (by kernel_rfl) (B0 Tryz.call32 (B0 Tryz.call59 (B0 Tryz.call88 (B0 Tryz.call105 (B0 Tryz.call106 (B0 Tryz.call107 (B0 Tryz.call140 Bodies.nil))))))) (Eq.mp (by kernel_rfl) hvc)
def A9r(P:Program)(s:Int)(a:Int)(t:OA)(u v:Nat)(h:Heap)(K:Value->Heap->Prop):Prop:=
 FCall P A1r #[.agg #[I s,I a,.slice t u v]] h (fun E r=>∃ (b:OA) (c d:Nat) (e:Bool),E= .tuple #[.slice b c d,.bool e]/\Br (!e) (K (.tuple #[.agg #[I 0,I 0,.slice none 0 0],.slice none 0 0,I 1]) r)
 (FCall P Lx #[.slice b c d,I a] r (fun F G=>∃ (f:OA) (g i:Nat) (j:OA) (k l:Nat) (w:Bool) (x:OA) (y z:Nat) (A:Bool) (B:OA) (C D:Nat),F= .tuple #[.slice f g i,.slice j k l,.agg #[.bool w,.slice x y z,.bool A,.slice B C D]]/\FCall P A1s #[.slice f g i] G (fun H J=>∃ (m:Int) (n:Int) (o:OA) (p q:Nat),H= .agg #[I m,I n,.slice o p q]/\K (.tuple #[.agg #[I m,I n,.slice o p q],.slice j k l,I 0]) J))))
theorem A5e(a:Int)(b:Int)(d:OA)(e f:Nat)(hvc:A9r Tryz.prog a b d e f h K):FCall Tryz.prog Qj #[.agg #[I a,I b,.slice d e f]] h K:=
 B7 Tryz.func16 (c:=C0 Tryz.f16) (by kernel_rfl) (rs:=[.cell 2 24,.tmp 3,.tmp 4]) (by kernel_rfl) (fa:=⟨[],[],[],[],[]⟩)
  (cfg:=⟨29,[1,2,9],none,[27,72,73],[],false⟩) (args:=[.agg #[I a,I b,.slice d e f]]) (by kernel_rfl) (B0 Tryz.call27 (B0 Tryz.call72 (B0 Tryz.call73 Bodies.nil))) (Eq.mp (by kernel_rfl) hvc)
def B3u(P:Program)(i:Int)(j:OA)(d k:Nat)(h:Heap)(K:Value->Heap->Prop):Prop:=
 ∃ (c:List Value->Heap->Prop) (e:List Value->Heap->Nat),c [I 0] h/\
 ∀ (a:Int),∀ b,c [I a] b->Br (decide (a<(d:Int))) (∃ g,j=some g/\0<=a/\a<(d:Int)/\∃ (f:ByteArray),b.cell? (g.add (a.toNat*1))=some (.string f)/\Br (decide (((ByteArray.size f:Nat):Int)>i)) (K (.bool false) b)
 (c [I (B4 (a+1))] b/\e [I (B4 (a+1))] b<e [I a] b))
 (K (.bool true) b)
theorem A9p(a:Int)(b:OA)(d e:Nat)(hvc:B3u Tryz.prog a b d e h K):FCall Tryz.prog Wi #[I a,.slice b d e] h K:=
 B7 Tryz.func22 (c:=C0 Tryz.f22) (by kernel_rfl) (rs:=[.tmp 4]) (by kernel_rfl) (fa:=⟨[(2,⟨[5],[],[.int .i64 0],⟨(Lrg 4 15),[]⟩⟩)],[],[],[],[]⟩)
  (cfg:=⟨19,[],none,[],[],false⟩) (args:=[I a,.slice b d e]) (by kernel_rfl) Bodies.nil (Eq.mp (by kernel_rfl) hvc)
def Nv(P:Program)(d:Int)(e:Int)(f:OA)(b g:Nat)(a:Int)(i:Int)(h:Heap)(K:Value->Heap->Prop):Prop:=
 Br (decide (d<=a)) (Br (decide (e<=a)) (Br (decide ((b:Int)<=(B4 ((B4 (a*a))+2)))) (FCall P Wi #[I i,.slice f b g] h (fun j k=>∃ (c:Bool),j= .bool c/\K (.bool c) k))
 (K (.bool false) h))
 (K (.bool false) h))
 (K (.bool false) h)
theorem Ru(a:Int)(b:Int)(d:OA)(e f:Nat)(g:Int)(i:Int)(hvc:Nv Tryz.prog a b d e f g i h K):FCall Tryz.prog Bn #[.agg #[I a,I b,.slice d e f],I g,I i] h K:=
 B7 Tryz.func48 (c:=C0 Tryz.f48) (by kernel_rfl) (rs:=[.tmp 6]) (by kernel_rfl) (fa:=⟨[],[],[],[],[]⟩)
  (cfg:=⟨33,[3],none,[22],[],false⟩) (args:=[.agg #[I a,I b,.slice d e f],I g,I i]) (by kernel_rfl) (B0 Tryz.call22 Bodies.nil) (Eq.mp (by kernel_rfl) hvc)
def A3p(P:Program)(l:OA)(c n:Nat)(m:OA)(e o:Nat)(h:Heap)(K:Value->Heap->Prop):Prop:=
 Br ((c:Int) != (e:Int)) (K (.bool false) h)
 (∃ (d:List Value->Heap->Prop) (f:List Value->Heap->Nat),d [I 0] h/\
 ∀ (a:Int),∀ b,d [I a] b->Br (decide (a<(c:Int))) (∃ j,l=some j/\0<=a/\a<(c:Int)/\∃ (g:ByteArray),b.cell? (j.add (a.toNat*1))=some (.string g)/\∃ k,m=some k/\0<=a/\a<(e:Int)/\∃ (i:ByteArray),b.cell? (k.add (a.toNat*1))=some (.string i)/\Br (!(ByteArray.toList g==ByteArray.toList i)) (K (.bool false) b)
 (d [I (B4 (a+1))] b/\f [I (B4 (a+1))] b<f [I a] b))
 (K (.bool true) b))
theorem A2e(a:OA)(b d:Nat)(e:OA)(f g:Nat)(hvc:A3p Tryz.prog a b d e f g h K):FCall Tryz.prog Gt #[.slice a b d,.slice e f g] h K:=
 B7 Tryz.func25 (c:=C0 Tryz.f25) (by kernel_rfl) (rs:=[.tmp 4]) (by kernel_rfl) (fa:=⟨[(4,⟨[5],[],[.int .i64 0],⟨([4,5]++Lrg 11 15),[]⟩⟩)],[],[(6,((Lrg 0 9),[[],[],[0,1],[0,1,2],[],[],[4,5],[4,5,6],(Lrg 0 8)]))],[],[]⟩)
  (cfg:=⟨26,[],none,[],[],false⟩) (args:=[.slice a b d,.slice e f g]) (by kernel_rfl) Bodies.nil (Eq.mp (by kernel_rfl) hvc)
def B83(P:Program)(l:OA)(c n:Nat)(m:OA)(e o:Nat)(h:Heap)(K:Value->Heap->Prop):Prop:=
 Br ((c:Int) != (e:Int)) (K (.bool false) h)
 (∃ (d:List Value->Heap->Prop) (f:List Value->Heap->Nat),d [I 0] h/\
 ∀ (a:Int),∀ b,d [I a] b->Br (decide (a<(c:Int))) (∃ j,l=some j/\0<=a/\a<(c:Int)/\∃ (g:Int),b.cell? (j.add (a.toNat*1))=some (I g)/\∃ k,m=some k/\0<=a/\a<(e:Int)/\∃ (i:Int),b.cell? (k.add (a.toNat*1))=some (I i)/\Br (g != i) (K (.bool false) b)
 (d [I (B4 (a+1))] b/\f [I (B4 (a+1))] b<f [I a] b))
 (K (.bool true) b))
theorem B29(a:OA)(b d:Nat)(e:OA)(f g:Nat)(hvc:B83 Tryz.prog a b d e f g h K):FCall Tryz.prog Wj #[.slice a b d,.slice e f g] h K:=
 B7 Tryz.func21 (c:=C0 Tryz.f21) (by kernel_rfl) (rs:=[.tmp 4]) (by kernel_rfl) (fa:=⟨[(4,⟨[5],[],[.int .i64 0],⟨([4,5]++Lrg 11 15),[]⟩⟩)],[],[(6,((Lrg 0 9),[[],[],[0,1],[0,1,2],[],[],[4,5],[4,5,6],(Lrg 0 8)]))],[],[]⟩)
  (cfg:=⟨26,[],none,[],[],false⟩) (args:=[.slice a b d,.slice e f g]) (by kernel_rfl) Bodies.nil (Eq.mp (by kernel_rfl) hvc)
def A0g(P:Program)(b:Int)(c:Int)(d:OA)(e f:Nat)(g:Int)(i:Int)(j:OA)(k l:Nat)(h:Heap)(K:Value->Heap->Prop):Prop:=
 Br (b==g) (Br (c==i) (FCall P Gt #[.slice d e f,.slice j k l] h (fun m n=>∃ (a:Bool),m= .bool a/\K (.bool a) n))
 (K (.bool false) h))
 (K (.bool false) h)
theorem A0f(a:Int)(b:Int)(d:OA)(e f:Nat)(g:Int)(i:Int)(j:OA)(k l:Nat)(hvc:A0g Tryz.prog a b d e f g i j k l h K):FCall Tryz.prog As #[.agg #[I a,I b,.slice d e f],.agg #[I g,I i,.slice j k l]] h K:=
 B7 Tryz.func20 (c:=C0 Tryz.f20) (by kernel_rfl) (rs:=[.tmp 4]) (by kernel_rfl) (fa:=⟨[],[],[],[],[]⟩)
  (cfg:=⟨24,[2,3],none,[25],[],false⟩) (args:=[.agg #[I a,I b,.slice d e f],.agg #[I g,I i,.slice j k l]]) (by kernel_rfl) (B0 Tryz.call25 Bodies.nil) (Eq.mp (by kernel_rfl) hvc)
def Ul(P:Program)(e:Int)(f:Int)(g:OA)(i j:Nat)(h:Heap)(K:Value->Heap->Prop):Prop:=
 FCall P A7r #[.slice g i j] h (fun k d=>∃ (a:OA) (b c:Nat),k= .slice a b c/\Heap.le h d/\K (.agg #[I e,I f,.slice a b c]) d)
theorem Xm(a:Int)(b:Int)(d:OA)(e f:Nat)(hvc:Ul Tryz.prog a b d e f h K):FCall Tryz.prog Fe #[.agg #[I a,I b,.slice d e f]] h K:=
 B7 Tryz.func44 (c:=C0 Tryz.f44) (by kernel_rfl) (rs:=[.cell 2 24]) (by kernel_rfl) (fa:=⟨[],[],[(1,((Lrg 0 9),[[],[0],[],[2],[],[4],[4,5],[0,1,2,3,4,5,6],(Lrg 0 8)]))],[],[]⟩)
  (cfg:=⟨11,[1,2],none,[110],[],false⟩) (args:=[.agg #[I a,I b,.slice d e f]]) (by kernel_rfl) (B0 Tryz.call110 Bodies.nil) (Eq.mp (by kernel_rfl) hvc)
def C0j(P:Program)(g:OA)(i j:Nat)(h:Heap)(K:Value->Heap->Prop):Prop:=
 wpH P (Instr.buildSlice 22 0 #[]) (fun k l=>∃ (a:OA) (b c:Nat),k= .slice a b c/\wpH P (Builtin.append_ #[22,22] 22 #[.slice a b c,.slice g i j]) (fun m n=>∃ (d:OA) (e f:Nat),m= .slice d e f/\K (.slice d e f) n) l) h
theorem B5t(a:OA)(b d:Nat)(hvc:C0j Tryz.prog a b d h K):FCall Tryz.prog A7r #[.slice a b d] h K:=
 B7 Tryz.func110 (c:=C0 Tryz.f110) (by kernel_rfl) (rs:=[.tmp 2]) (by kernel_rfl) (fa:=⟨[],[],[],[],[]⟩)
  (cfg:=⟨6,[],none,[],[],false⟩) (args:=[.slice a b d]) (by kernel_rfl) Bodies.nil (Eq.mp (by kernel_rfl) hvc)
def B3t(P:Program)(i:OA)(j b:Nat)(h:Heap)(K:Value->Heap->Prop):Prop:=
 (0<=(b:Int)/\(b:Int)<=(b:Int))/\∃ (d:List Value->Heap->Prop) (e:List Value->Heap->Nat),d [I 0] h/\
 ∀ (a:Int),∀ c,d [I a] c->Br (decide (a<(((((b:Int)).toNat)-0:Nat):Int))) (∃ g,J8 i b 0 1=some g/\0<=a/\a<(((((b:Int)).toNat)-0:Nat):Int)/\wpH P (Instr.storeAt 9 (.pointer (some (g.add (a.toNat*1)))) (.string ({ data:=#[115,112,111,105,108,116] }:ByteArray))) (fun _ f=>d [I (B4 (a+1))] f/\e [I (B4 (a+1))] f<e [I a] c) c)
 (K (.tuple #[]) c)
theorem A9o(a:OA)(b d:Nat)(hvc:B3t Tryz.prog a b d h K):FCall Tryz.prog Ke #[.slice a b d] h K:=
 B7 Tryz.func47 (c:=C0 Tryz.f47) (by kernel_rfl) (rs:=[]) (by kernel_rfl) (fa:=⟨[(2,⟨[2],[],[.int .i64 0],⟨([2]++Lrg 7 9),[]⟩⟩)],[],[],[],[]⟩)
  (cfg:=⟨16,[],none,[],[],false⟩) (args:=[.slice a b d]) (by kernel_rfl) Bodies.nil (Eq.mp (by kernel_rfl) hvc)
def B3s(P:Program) (h:Heap)(K:Value->Heap->Prop):Prop:=
 wpH P (Instr.buildSlice 22 4 #[(0,.string ({ data:=#[50] }:ByteArray)),(1,.string ({ data:=#[52] }:ByteArray)),(2,.string ({ data:=#[49] }:ByteArray)),(3,.string ({ data:=#[50] }:ByteArray))]) (fun D E=>∃ (b:OA) (c d:Nat),D= .slice b c d/\FCall P Fc #[.agg #[I 2,I 2,.slice b c d]] E (fun F G=>∃ (B:Int) (C:Int) (e:OA) (f g:Nat) (i:OA) (j k:Nat) (l:Int),F= .tuple #[.agg #[I B,I C,.slice e f g],.slice i j k,I l]/\wpH P (Instr.buildSlice 22 4 #[(0,.string ({ data:=#[49] }:ByteArray)),(1,.string ({ data:=#[50] }:ByteArray)),(2,.string ({ data:=#[51] }:ByteArray)),(3,.string ({ data:=#[52] }:ByteArray))]) (fun H J=>∃ (m:OA) (n o:Nat),H= .slice m n o/\FCall P A7o #[.agg #[I 2,I 2,.slice m n o]] J (fun L z=>∃ (p:ByteArray) (q:Int),L= .tuple #[.string p,I q]/\Br (l==(0:Int)) (wpH P (Instr.buildSlice 22 4 #[(0,.string ({ data:=#[49] }:ByteArray)),(1,.string ({ data:=#[50] }:ByteArray)),(2,.string ({ data:=#[48] }:ByteArray)),(3,.string ({ data:=#[48] }:ByteArray))]) (fun M N=>∃ (r:OA) (s t:Nat),M= .slice r s t/\FCall P Gt #[.slice e f g,.slice r s t] N (fun O A=>∃ (u:Bool),O= .bool u/\Br u (wpH P (Instr.buildSlice 27 1 #[(0,I 0)]) (fun Q R=>∃ (v:OA) (w x:Nat),Q= .slice v w x/\FCall P Wj #[.slice i j k,.slice v w x] R (fun S a=>∃ (y:Bool),S= .bool y/\Br y (Br (ByteArray.toList p==ByteArray.toList ({ data:=#[45,50] }:ByteArray)) (K (.bool (q==(0:Int))) a)
 (K (.bool false) a))
 (K (.bool false) a))) A)
 (K (.bool false) A))) z)
 (K (.bool false) z))) G)) h
theorem A9n (hvc:B3s Tryz.prog  h K):FCall Tryz.prog Gs #[] h K:=
 B7 Tryz.func14 (c:=C0 Tryz.f14) (by kernel_rfl) (rs:=[.tmp 0]) (by kernel_rfl) (fa:=⟨[],[],[],[],[]⟩)
  (cfg:=⟨42,[1,2],none,[15,21,25,37],[],false⟩) (args:=[]) (by kernel_rfl) (B0 Tryz.call15 (B0 Tryz.call21 (B0 Tryz.call25 (B0 Tryz.call37 Bodies.nil)))) (Eq.mp (by kernel_rfl) hvc)
def B3r(P:Program)(b:Int)(c:Int)(d:OA)(e f:Nat)(h:Heap)(K:Value->Heap->Prop):Prop:=
 FCall P Bn #[.agg #[I b,I c,.slice d e f],I 6,I 12] h (fun g i=>∃ (a:Bool),g= .bool a/\K (.bool a) i)
theorem A9m(a:Int)(b:Int)(d:OA)(e f:Nat)(hvc:B3r Tryz.prog a b d e f h K):FCall Tryz.prog Wg #[.agg #[I a,I b,.slice d e f]] h K:=
 B7 Tryz.func13 (c:=C0 Tryz.f13) (by kernel_rfl) (rs:=[.tmp 2]) (by kernel_rfl) (fa:=⟨[],[],[],[],[]⟩)
  (cfg:=⟨5,[1],none,[48],[],false⟩) (args:=[.agg #[I a,I b,.slice d e f]]) (by kernel_rfl) (B0 Tryz.call48 Bodies.nil) (Eq.mp (by kernel_rfl) hvc)
def Uk(P:Program)(a:Int)(b:Int)(c:OA)(d e:Nat)(h:Heap)(K:Value->Heap->Prop):Prop:=
 FCall P Wg #[.agg #[I a,I b,.slice c d e]] h (fun c6 b2=>∃ (t:Bool),c6= .bool t/\Br (!t) (FCall P Gs #[] b2 (fun c7 c8=>∃ (u:Bool),c7= .bool u/\K (.bool u) c8))
 (FCall P Ov #[.agg #[I a,I b,.slice c d e]] b2 (fun c9 b3=>∃ (v:Bool),c9= .bool v/\Br (!v) (FCall P Gs #[] b3 (fun d0 d1=>∃ (w:Bool),d0= .bool w/\K (.bool w) d1))
 (FCall P Fe #[.agg #[I a,I b,.slice c d e]] b3 (fun d2 d3=>∃ (g:Int) (i:Int) (j:OA) (k l:Nat),d2= .agg #[I g,I i,.slice j k l]/\FCall P Fb #[.agg #[I a,I b,.slice c d e]] d3 (fun d4 d5=>∃ (c1:Int) (c2:Int) (x:OA) (y z:Nat) (A:Int),d4= .tuple #[.agg #[I c1,I c2,.slice x y z],I A]/\FCall P Fc #[.agg #[I a,I b,.slice c d e]] d5 (fun d6 d7=>∃ (c3:Int) (c4:Int) (B:OA) (C D:Nat) (E:OA) (o c5:Nat) (F:Int),d6= .tuple #[.agg #[I c3,I c4,.slice B C D],.slice E o c5,I F]/\FCall P We #[.string ({ data:=#[49] }:ByteArray),.agg #[I a,I b,.slice c d e]] d7 (fun d8 m=>∃ (G:Int) (H:Int) (p:OA) (q r:Nat) (J:Int),d8= .tuple #[.agg #[I G,I H,.slice p q r],I J]/\Br (A != (0:Int)) (K (.bool false) m)
 (Br (F != (0:Int)) (K (.bool false) m)
 (Br (J != (0:Int)) (K (.bool false) m)
 (FCall P As #[.agg #[I G,I H,.slice p q r],.agg #[I g,I i,.slice j k l]] m (fun d9 b4=>∃ (L:Bool),d9= .bool L/\Br (!L) (K (.bool false) b4)
 (FCall P Ke #[.slice x y z] b4 (fun e0 e1=>e0= .tuple #[]/\FCall P Ke #[.slice B C D] e1 (fun e2 e3=>e2= .tuple #[]/\FCall P Ke #[.slice p q r] e3 (fun e4 e5=>e4= .tuple #[]/\∃ (s:List Value->Heap->Prop) (M:List Value->Heap->Nat),s [I 0] e5/\
 ∀ (f:Int),∀ n,s [I f] n->Br (decide (f<(o:Int))) (∃ c0,E=some c0/\0<=f/\f<(o:Int)/\wpH P (Instr.storeAt 3 (.pointer (some (c0.add (f.toNat*1)))) (I (-1:Int))) (fun _ b5=>s [I (B4 (f+1))] b5/\M [I (B4 (f+1))] b5<M [I f] n) n)
 (FCall P Fc #[.agg #[I a,I b,.slice c d e]] n (fun e6 e7=>∃ (N:Int) (O:Int) (Q:OA) (R S:Nat) (T:OA) (V W:Nat) (X:Int),e6= .tuple #[.agg #[I N,I O,.slice Q R S],.slice T V W,I X]/\FCall P Qj #[.agg #[I g,I i,.slice j k l]] e7 (fun e8 b6=>∃ (Z:Int) (a0:Int) (a1:OA) (a2 a3:Nat) (a4:OA) (a5 a6:Nat) (a7:Int),e8= .tuple #[.agg #[I Z,I a0,.slice a1 a2 a3],.slice a4 a5 a6,I a7]/\Br (X==a7) (FCall P As #[.agg #[I N,I O,.slice Q R S],.agg #[I Z,I a0,.slice a1 a2 a3]] b6 (fun e9 b7=>∃ (a8:Bool),e9= .bool a8/\Br a8 (FCall P Wj #[.slice T V W,.slice a4 a5 a6] b7 (fun f0 b8=>∃ (a9:Bool),f0= .bool a9/\Br a9 (FCall P As #[.agg #[I a,I b,.slice c d e],.agg #[I g,I i,.slice j k l]] b8 (fun f1 b9=>∃ (b0:Bool),f1= .bool b0/\Br b0 (FCall P Gs #[] b9 (fun f2 f3=>∃ (b1:Bool),f2= .bool b1/\K (.bool b1) f3))
 (K (.bool false) b9)))
 (K (.bool false) b8)))
 (K (.bool false) b7)))
 (K (.bool false) b6))))))))))))))))))))
theorem Xl(a:Int)(b:Int)(d:OA)(e f:Nat)(hvc:Uk Tryz.prog a b d e f h K):FCall Tryz.prog Nl #[.agg #[I a,I b,.slice d e f]] h K:=
 B7 Tryz.func7 (c:=C0 Tryz.f7) (by kernel_rfl) (rs:=[.tmp 2]) (by kernel_rfl) (fa:=⟨[(13,⟨[11],[],[.int .i64 0],⟨([11]++Lrg 68 9),[]⟩⟩)],[],[],[],[]⟩)
  (cfg:=⟨110,[1,3,4,6,9,12,14],none,[13,14,15,16,20,21,43,44,45,46,47],[47],false⟩) (args:=[.agg #[I a,I b,.slice d e f]]) (by kernel_rfl) (B0 Tryz.call13 (B0 Tryz.call14 (B0 Tryz.call15 (B0 Tryz.call16 (B0 Tryz.call20 (B0 Tryz.call21 (B0 Tryz.call43 (B0 Tryz.call44 (B0 Tryz.call45 (B0 Tryz.call46 (B0 Tryz.call47 Bodies.nil))))))))))) (Eq.mp (by kernel_rfl) hvc)
end Go.Proofs.YthilnfgnpdeofaaGreatDoor
