/-
  Texts of this proof, merged by a program of ours.
-/
import Derived.Test.YtajkakhfcokljaaGreatDoorProg
import Derived.Test.YtajkakhfcokljaaGreatDoorG05
import Derived.Test.YtajkakhfcokljaaGreatDoorG06
import Derived.Test.YtajkakhfcokljaaGreatDoorG13
import Derived.Test.YtajkakhfcokljaaGreatDoorG07
import Derived.Test.YtajkakhfcokljaaGreatDoorG10
import Derived.Test.YtajkakhfcokljaaGreatDoorG27
import Derived.Test.YtajkakhfcokljaaGreatDoorG09
open Go.Proofs.Tryz
open _root_.Go.Addr renaming add->C2w
open _root_.Go.Builtin renaming append_->C2y
open _root_.Go.Instr renaming storeAt->C2x,buildSlice->C2z,makeSlice->C30
namespace Go.Proofs.YtajkakhfcokljaaGreatDoor
set_option linter.all false
open Go
set_option maxRecDepth 100000
variable {h:Heap} {K:VP}
abbrev Mv:Nat:=104
abbrev Db:Nat:=97
abbrev Q8:Nat:=136
abbrev C05:Nat:=70
abbrev Rb:Nat:=137
abbrev C0a:Nat:=20
abbrev Ix:Nat:=66
abbrev A2m:Nat:=67
abbrev C09:Nat:=77
abbrev C1z:Nat:=15
abbrev B6b:Nat:=17
abbrev C2s:Nat:=22
abbrev B4d:Nat:=47
abbrev C1y:Nat:=127
abbrev B7n:Nat:=186
abbrev C20:Nat:=26
abbrev C0d:Nat:=129
abbrev B4e:Nat:=151
abbrev B7l:Nat:=74
abbrev B8o:Nat:=59
abbrev C21:Nat:=25
abbrev B7m:Nat:=125
abbrev B2k:Nat:=117
abbrev B2l:Nat:=75
abbrev C0b:Nat:=76
abbrev Iw:Nat:=68
abbrev Rf:Nat:=144
abbrev C1c:Nat:=142
abbrev C1d:Nat:=141
abbrev Xf:Nat:=143
abbrev B8w:Nat:=69
abbrev Wz:Nat:=135
abbrev Gi:Nat:=191
abbrev B8p:Nat:=62
abbrev B8n:Nat:=63
abbrev C18:Nat:=133
abbrev C0k:Nat:=21
abbrev A2q:Nat:=35
abbrev Re:Nat:=64
abbrev Kr:Nat:=107
abbrev A2o:Nat:=65
abbrev A2r:Nat:=168
abbrev A2p:Nat:=93
abbrev Xc:Nat:=92
abbrev A4c:Nat:=102
abbrev A93:Nat:=103
abbrev B7p:Nat:=187
abbrev C22:Nat:=16
abbrev B6e:Nat:=18
abbrev C2t:Nat:=23
abbrev B8u:Nat:=128
abbrev Pk:Nat:=14
abbrev B1e:Nat:=24
abbrev Hr:Nat:=60
abbrev C1a:Nat:=61
abbrev B6d:Nat:=19
abbrev A92:Nat:=29
abbrev C0e:Nat:=13
abbrev B4f:Nat:=3
abbrev A1f:Nat:=4
abbrev Vl:Nat:=203
abbrev Ps:Nat:=111
abbrev Lw:Nat:=98
abbrev C0q:Nat:=25
abbrev C0p:Nat:=118
abbrev C01:Nat:=45
abbrev Lx:Nat:=3
abbrev Bi:Nat:=95
abbrev G7:Nat:=106
theorem B7z:SliceT prog Bi G7 (.agg #[.bool false,.slice none 0 0,.bool false,.slice none 0 0]) 4 64:=⟨by kernel_rfl,by kernel_rfl,rfl,by decide⟩
theorem A3p:prog.cellsOf G7=4/\(prog.info? G7).isSome=true:=⟨by kernel_rfl,by kernel_rfl⟩
abbrev Nw:Nat:=109
abbrev Ji:Nat:=102
theorem tZs:SliceT prog Nw Ji (.agg #[.bool false,.slice none 0 0]) 2 32:=⟨by kernel_rfl,by kernel_rfl,rfl,by decide⟩
theorem A1u:prog.cellsOf Ji=2/\(prog.info? Ji).isSome=true:=⟨by kernel_rfl,by kernel_rfl⟩
abbrev A1o:Nat:=52
abbrev Cs:Nat:=58
theorem C03:SliceT prog A1o Cs (.slice none 0 0) 1 24:=⟨by kernel_rfl,by kernel_rfl,rfl,by decide⟩
theorem A3q:prog.cellsOf Cs=1/\(prog.info? Cs).isSome=true:=⟨by kernel_rfl,by kernel_rfl⟩
abbrev C00:Nat:=114
abbrev B7h:Nat:=118
abbrev B7v:Nat:=22
abbrev B5j:Nat:=23
def A4q(P:Program)(x:OA)(c B:Nat)(h:Heap)(K:VP):Prop:=
 wpH P (C30 95 (I (c:Int)) (I (c:Int))) (fun y z=>∃ (d:OA) (e g:Nat),y= .slice d e g/\∃ (f:LP) (i:LN),f [I 0] z/\
 ∀ a b,f [I a] b->Br (decide (a<(c:Int))) (∃ v,x=some v/\0<=a/\a<(c:Int)/\∃ (j:ByteArray),b.cell? (v.add (a.toNat*1))=some (.string j)/\FCall P A2i #[.string j] b (fun A t=>∃ (k:Bool) (l:OA) (m n:Nat) (o:Bool) (p:OA) (q r:Nat) (s:Bool),A= .tuple #[.agg #[.bool k,.slice l m n,.bool o,.slice p q r],.bool s]/\Br (!s) (K (.tuple #[.slice none 0 0,.bool false]) t)
 (∃ w,d=some w/\0<=a/\a<(e:Int)/\wpH P (C2x 106 (.pointer (some (w.add (a.toNat*4)))) (.agg #[.bool k,.slice l m n,.bool o,.slice p q r])) (fun _ u=>f [I (B4 (a+1))] u/\i [I (B4 (a+1))] u<i [I a] b) t)))
 (K (.tuple #[.slice d e g,.bool true]) b)) h
theorem A36 a b c(hvc:A4q prog a b c h K):FCall prog Mv #[.slice a b c] h K:=
 C7 bod func104 [.tmp 2,.tmp 3] { loops:=[(3,⟨[14],[],[.int .i64 0],⟨([2,3,5,6,7,8]++Lrg 14 17),[7]⟩⟩)] } 32 [7] [83] [] (by kernel_rfl) hvc
def A4p(P:Program)(v:OA)(d A:Nat)(h:Heap)(K:VP):Prop:=
 wpH P (C30 23 (I (d:Int)) (I (d:Int))) (fun w x=>∃ (e:OA) (f i:Nat),w= .slice e f i/\∃ (g:LP) (j:LN),g [I 0] x/\
 ∀ a b,g [I a] b->Br (decide (a<(d:Int))) (∃ c,v=some c/\0<=a/\a<(d:Int)/\∃ (k:Bool) (l:OA) (m n:Nat) (o:Bool) (p:OA) (q r:Nat),b.cell? (C2w (c.add (a.toNat*4)) 0)=some (.bool k)/\b.cell? (C2w (c.add (a.toNat*4)) 1)=some (.slice l m n)/\b.cell? (C2w (c.add (a.toNat*4)) 2)=some (.bool o)/\b.cell? (C2w (c.add (a.toNat*4)) 3)=some (.slice p q r)/\FCall P Ra #[.agg #[.bool k,.slice l m n,.bool o,.slice p q r]] b (fun y z=>∃ (s:ByteArray),y= .string s/\∃ u,e=some u/\0<=a/\a<(f:Int)/\wpH P (C2x 9 (.pointer (some (u.add (a.toNat*1)))) (.string s)) (fun _ t=>g [I (B4 (a+1))] t/\j [I (B4 (a+1))] t<j [I a] b) z))
 (K (.slice e f i) b)) h
theorem A35 a b c(hvc:A4p prog a b c h K):FCall prog Db #[.slice a b c] h K:=
 C7 bod func97 [.tmp 2] { loops:=[(3,⟨[11],[],[.int .i64 0],⟨([4,5]++Lrg 11 11),[5]⟩⟩)] } 23 [5] [73] [] (by kernel_rfl) hvc
def Cg(P:Program)(C:OA)(u O:Nat)(h:Heap)(K:VP):Prop:=
 FCall P Qz #[I 1] h (fun H J=>∃ (v:Bool) (w:OA) (x y:Nat),H= .agg #[.bool v,.slice w x y]/\∃ (i:LP) (g:LN),i [I 0,.bool v,.slice w x y] J/\
 ∀ a b c d e f,i [I a,.bool b,.slice c d e] f->Br (decide (a<(u:Int))) (∃ j,C=some j/\0<=a/\a<(u:Int)/\∃ (D:Bool) (E:OA) (F G:Nat) (k:Bool) (l:OA) (m n:Nat),f.cell? (C2w (j.add (a.toNat*4)) 0)=some (.bool D)/\f.cell? (C2w (j.add (a.toNat*4)) 1)=some (.slice E F G)/\f.cell? (C2w (j.add (a.toNat*4)) 2)=some (.bool k)/\f.cell? (C2w (j.add (a.toNat*4)) 3)=some (.slice l m n)/\FCall P E9 #[.agg #[.bool k,.slice l m n]] f (fun L s=>∃ (z:Bool),L= .bool z/\Br (!z) (FCall P Wo #[.agg #[.bool k,.slice l m n],.agg #[.bool b,.slice c d e]] s (fun M t=>∃ (A:Bool),M= .bool A/\Br (!A) (FCall P A8x #[.agg #[.bool b,.slice c d e],.agg #[.bool k,.slice l m n]] t (fun N B=>∃ (o:Bool) (p:OA) (q r:Nat),N= .agg #[.bool o,.slice p q r]/\i [I (B4 (a+1)),.bool o,.slice p q r] B/\g [I (B4 (a+1)),.bool o,.slice p q r] B<g [I a,.bool b,.slice c d e] f))
 (i [I (B4 (a+1)),.bool b,.slice c d e] t/\g [I (B4 (a+1)),.bool b,.slice c d e] t<g [I a,.bool b,.slice c d e] f)))
 (i [I (B4 (a+1)),.bool b,.slice c d e] s/\g [I (B4 (a+1)),.bool b,.slice c d e] s<g [I a,.bool b,.slice c d e] f)))
 (K (.agg #[.bool b,.slice c d e]) f))
theorem He a b c(hvc:Cg prog a b c h K):FCall prog Q8 #[.slice a b c] h K:=
 C7 bod func136 [.cell 2 102] { loops:=[(3,⟨[9],[(3,2)],[.int .i64 0,.bool false,.slice none 0 0],⟨([5]++Lrg 9 20),[3,5]⟩⟩)] } 30 [2,3,5] [138,139,192,193] [] (by kernel_rfl) hvc
def B0h(P:Program)(c:Bool)(d:OA)(e f:Nat)(g:Bool)(i:OA)(j k:Nat)(l:Bool)(m:OA)(n o:Nat)(h:Heap)(K:VP):Prop:=
 FCall P E9 #[.agg #[.bool g,.slice i j k]] h (fun D a=>∃ (p:Bool),D= .bool p/\Br p (FCall P Da #[.agg #[.bool c,.slice d e f],.agg #[.bool l,.slice m n o]] a (fun E F=>∃ (q:Bool) (r:OA) (s t:Nat),E= .agg #[.bool q,.slice r s t]/\K (.agg #[.bool q,.slice r s t]) F))
 (FCall P Cz #[.agg #[.bool l,.slice m n o],.agg #[.bool g,.slice i j k]] a (fun G b=>∃ (u:Bool) (v:OA) (w x:Nat),G= .agg #[.bool u,.slice v w x]/\Heap.le a b/\FCall P Da #[.agg #[.bool c,.slice d e f],.agg #[.bool u,.slice v w x]] b (fun H C=>∃ (y:Bool) (z:OA) (A B:Nat),H= .agg #[.bool y,.slice z A B]/\Heap.le b C/\K (.agg #[.bool y,.slice z A B]) C))))
theorem A6g a b c d e f g i j k l m(hvc:B0h prog a b c d e f g i j k l m h K):FCall prog Rb #[.agg #[.bool a,.slice b c d,.bool e,.slice f g i],.agg #[.bool j,.slice k l m]] h K:=
 C7 bod func137 [.cell 4 102] an0 19 [2,3,4] [138,140,154] [] (by kernel_rfl) hvc
def A15(P:Program)(a:Int)(b:Int)(d:OA)(c e:Nat)(h:Heap)(K:VP):Prop:=
 Br (decide ((1:Int)<=a)) (Br (decide (a<=(64:Int))) (Br (decide ((1:Int)<=b)) (Br (decide (b<=(64:Int))) (K (.bool ((c:Int)==(B4 (a*b)))) h)
 (K (.bool false) h))
 (K (.bool false) h))
 (K (.bool false) h))
 (K (.bool false) h)
theorem A14 a b c d e(hvc:A15 prog a b c d e h K):FCall prog Ix #[.agg #[I a,I b,.slice c d e]] h K:=
 C7 bod func66 [.tmp 2] an0 32 [1] [] [] (by kernel_rfl) hvc
def B9r(P:Program)(k:Int)(l:Int)(a:OA)(b c:Nat)(h:Heap)(K:VP):Prop:=
 FCall P Ix #[.agg #[I k,I l,.slice a b c]] h (fun m j=>∃ (d:Bool),m= .bool d/\Br (!d) (K (.tuple #[.slice none 0 0,.bool false]) j)
 (FCall P Mv #[.slice a b c] j (fun n o=>∃ (e:OA) (f g:Nat) (i:Bool),n= .tuple #[.slice e f g,.bool i]/\K (.tuple #[.slice e f g,.bool i]) o)))
theorem B3n a b c d e(hvc:B9r prog a b c d e h K):FCall prog A2m #[.agg #[I a,I b,.slice c d e]] h K:=
 C7 bod func67 [.tmp 2,.tmp 3] an0 12 [1] [66,104] [] (by kernel_rfl) hvc
def A13(P:Program)(m3:OA)(m4 m5:Nat)(b7:Int)(h:Heap)(K:VP):Prop:=
 wpH P (Instr.box 111 (.agg #[I b7,.slice none 0 0,.slice none 0 0])) (fun n1 n2=>∃ (b8:Addr),n1= .pointer (some b8)/\wpH P (Instr.alloc 98 true (.tuple #[])) (fun n3 n4=>∃ (b:Addr),n3= .pointer (some b)/\wpH P (C2x 98 (.pointer (some b)) (.pointer (some b8))) (fun _ n5=>FCall P Wz #[.slice m3 m4 m5,I b7] n5 (fun n6 n7=>∃ (b9:Value),n6=b9/\A4t P (b9) n7 (fun (m6:List Value) (m7:Heap) (x:Heap->Prop)=>∃ (W:OA) (y c0:Nat),m6=[.slice W y c0]/\FCall P Q8 #[.slice W y c0] m7 (fun n8 b4=>∃ (z:Bool) (A:OA) (B C:Nat),n8= .agg #[.bool z,.slice A B C]/\∃ (c1:OA),b4.cell? b=some (.pointer c1)/\∃ l0,c1=some l0/\∃ (m8:OA) (f m9:Nat),b4.cell? (l0.add 1)=some (.slice m8 f m9)/\∃ (s:LP) (q:LN),s [I 0,.bool false,.slice none 0 0] b4/\
 ∀ a m n o p e,s [I a,.bool m,.slice n o p] e->Br (decide (a<(y:Int))) (∃ w,W=some w/\0<=a/\a<(y:Int)/\∃ (c2:Bool) (c3:OA) (c4 c5:Nat) (c6:Bool) (c7:OA) (c8 c9:Nat),e.cell? (C2w (w.add (a.toNat*4)) 0)=some (.bool c2)/\e.cell? (C2w (w.add (a.toNat*4)) 1)=some (.slice c3 c4 c5)/\e.cell? (C2w (w.add (a.toNat*4)) 2)=some (.bool c6)/\e.cell? (C2w (w.add (a.toNat*4)) 3)=some (.slice c7 c8 c9)/\FCall P Rb #[.agg #[.bool c2,.slice c3 c4 c5,.bool c6,.slice c7 c8 c9],.agg #[.bool z,.slice A B C]] e (fun n9 o0=>∃ (D:Bool) (E:OA) (F G:Nat),n9= .agg #[.bool D,.slice E F G]/\FCall P Od #[.agg #[.bool m,.slice n o p],.agg #[.bool D,.slice E F G]] o0 (fun o1 l=>∃ (g:Bool) (i:OA) (j k:Nat),o1= .agg #[.bool g,.slice i j k]/\∃ (d0:OA),l.cell? b=some (.pointer d0)/\∃ l1,d0=some l1/\∃ (H:OA) (J L:Nat),l.cell? (l1.add 1)=some (.slice H J L)/\(∃ (d1:OA),l.cell? b=some (.pointer d1)/\wpH P (C2z 109 1 #[(0,.agg #[.bool D,.slice E F G])]) (fun o2 j8=>∃ (d2:OA) (d3 d4:Nat),o2= .slice d2 d3 d4/\Heap.le l j8/\wpH P (C2y #[109,109] 109 #[.slice H J L,.slice d2 d3 d4]) (fun o3 o4=>∃ (d5:OA) (d6 d7:Nat),o3= .slice d5 d6 d7/\∃ l2,d1=some l2/\wpH P (C2x 109 (.pointer (some (l2.add 1))) (.slice d5 d6 d7)) (fun _ j9=>s [I (B4 (a+1)),.bool g,.slice i j k] j9/\q [I (B4 (a+1)),.bool g,.slice i j k] j9<q [I a,.bool m,.slice n o p] e) o4) j8) l)/\(wpH P (C2z 109 1 #[(0,.agg #[.bool D,.slice E F G])]) (fun o5 N=>∃ (X:OA) (Z a0:Nat),o5= .slice X Z a0/\Heap.le l N/\(∃ (d8:OA),N.cell? b=some (.pointer d8)/\wpH P (C2y #[109,109] 109 #[.slice H J L,.slice X Z a0]) (fun o6 o7=>∃ (d9:OA) (e0 e1:Nat),o6= .slice d9 e0 e1/\∃ l3,d8=some l3/\wpH P (C2x 109 (.pointer (some (l3.add 1))) (.slice d9 e0 e1)) (fun _ k0=>s [I (B4 (a+1)),.bool g,.slice i j k] k0/\q [I (B4 (a+1)),.bool g,.slice i j k] k0<q [I a,.bool m,.slice n o p] e) o7) N)/\(wpH P (C2y #[109,109] 109 #[.slice H J L,.slice X Z a0]) (fun o8 k1=>∃ (e2:OA) (e3 e4:Nat),o8= .slice e2 e3 e4/\∃ (e5:OA),k1.cell? b=some (.pointer e5)/\∃ l4,e5=some l4/\wpH P (C2x 109 (.pointer (some (l4.add 1))) (.slice e2 e3 e4)) (fun _ k2=>s [I (B4 (a+1)),.bool g,.slice i j k] k2/\q [I (B4 (a+1)),.bool g,.slice i j k] k2<q [I a,.bool m,.slice n o p] e) k1) N)) l))))
 (∃ (a1:LP),(FCall P E9 #[.agg #[.bool m,.slice n o p]] e (fun o9 k3=>∃ (e6:Bool),o9= .bool e6/\Br e6 (FCall P Qz #[I 1] k3 (fun p0 p1=>∃ (e7:Bool) (e8:OA) (e9 f0:Nat),p0= .agg #[.bool e7,.slice e8 e9 f0]/\a1 [.bool e7,.slice e8 e9 f0] p1))
 (a1 [.bool m,.slice n o p] k3)))/\
 ∀ Q R S T V,a1 [.bool Q,.slice R S T] V->∃ (f1:OA),V.cell? b=some (.pointer f1)/\∃ l5,f1=some l5/\∃ (f2:OA) (M f3:Nat),V.cell? (l5.add 1)=some (.slice f2 M f3)/\(0<=(f:Int)/\(f:Int)<=(M:Int))/\∃ (a2:LP) (f4:LN),a2 [I 0] V/\
 ∀ d c,a2 [I d] c->Br (decide (d<((M-(((f:Int)).toNat):Nat):Int))) (∃ b6,J5 f2 f3 (((f:Int)).toNat) 2=some b6/\0<=d/\d<((M-(((f:Int)).toNat):Nat):Int)/\∃ (f5:Bool) (f6:OA) (f7 f8:Nat),c.cell? (C2w (b6.add (d.toNat*2)) 0)=some (.bool f5)/\c.cell? (C2w (b6.add (d.toNat*2)) 1)=some (.slice f6 f7 f8)/\∃ (f9:OA),c.cell? b=some (.pointer f9)/\∃ l6,f9=some l6/\∃ (g0:OA) (g1 n0:Nat),c.cell? (l6.add 1)=some (.slice g0 g1 n0)/\FCall P Cz #[.agg #[.bool f5,.slice f6 f7 f8],.agg #[.bool Q,.slice R S T]] c (fun p2 k4=>∃ (g2:Bool) (g3:OA) (g4 g5:Nat),p2= .agg #[.bool g2,.slice g3 g4 g5]/\Heap.le c k4/\∃ l7,g0=some l7/\0<=B4 ((f:Int)+d)/\B4 ((f:Int)+d)<(g1:Int)/\wpH P (C2x 102 (.pointer (some (l7.add ((B4 ((f:Int)+d)).toNat*2)))) (.agg #[.bool g2,.slice g3 g4 g5])) (fun _ k5=>a2 [I (B4 (d+1))] k5/\f4 [I (B4 (d+1))] k5<f4 [I d] c) k4))
 (∃ (g6:OA),c.cell? b=some (.pointer g6)/\∃ l8,g6=some l8/\∃ (t:OA) (u v:Nat),c.cell? (l8.add 2)=some (.slice t u v)/\(∃ (g7:OA),c.cell? b=some (.pointer g7)/\FCall P Bo #[.agg #[.bool z,.slice A B C],.agg #[.bool Q,.slice R S T]] c (fun p3 b5=>∃ (g8:Bool) (g9:OA) (h0 h1:Nat) (h2:Bool) (h3:OA) (h4 h5:Nat),p3= .agg #[.bool g8,.slice g9 h0 h1,.bool h2,.slice h3 h4 h5]/\Heap.le c b5/\wpH P (C2z 95 1 #[(0,.agg #[.bool g8,.slice g9 h0 h1,.bool h2,.slice h3 h4 h5])]) (fun p4 k6=>∃ (h6:OA) (h7 h8:Nat),p4= .slice h6 h7 h8/\Heap.le b5 k6/\wpH P (C2y #[95,95] 95 #[.slice t u v,.slice h6 h7 h8]) (fun p5 p6=>∃ (h9:OA) (i0 i1:Nat),p5= .slice h9 i0 i1/\∃ l9,g7=some l9/\wpH P (C2x 95 (.pointer (some (l9.add 2))) (.slice h9 i0 i1)) (fun _ p7=>x p7) p6) k6) b5))/\(FCall P Bo #[.agg #[.bool z,.slice A B C],.agg #[.bool Q,.slice R S T]] c (fun p8 r=>∃ (a3:Bool) (a4:OA) (a5 a6:Nat) (a7:Bool) (a8:OA) (a9 b0:Nat),p8= .agg #[.bool a3,.slice a4 a5 a6,.bool a7,.slice a8 a9 b0]/\Heap.le c r/\(∃ (i2:OA),r.cell? b=some (.pointer i2)/\wpH P (C2z 95 1 #[(0,.agg #[.bool a3,.slice a4 a5 a6,.bool a7,.slice a8 a9 b0])]) (fun p9 k7=>∃ (i3:OA) (i4 i5:Nat),p9= .slice i3 i4 i5/\Heap.le r k7/\wpH P (C2y #[95,95] 95 #[.slice t u v,.slice i3 i4 i5]) (fun q0 q1=>∃ (i6:OA) (i7 i8:Nat),q0= .slice i6 i7 i8/\∃ m0,i2=some m0/\wpH P (C2x 95 (.pointer (some (m0.add 2))) (.slice i6 i7 i8)) (fun _ q2=>x q2) q1) k7) r)/\(wpH P (C2z 95 1 #[(0,.agg #[.bool a3,.slice a4 a5 a6,.bool a7,.slice a8 a9 b0])]) (fun q3 O=>∃ (b1:OA) (b2 b3:Nat),q3= .slice b1 b2 b3/\Heap.le r O/\(∃ (i9:OA),O.cell? b=some (.pointer i9)/\wpH P (C2y #[95,95] 95 #[.slice t u v,.slice b1 b2 b3]) (fun q4 q5=>∃ (j0:OA) (j1 j2:Nat),q4= .slice j0 j1 j2/\∃ m1,i9=some m1/\wpH P (C2x 95 (.pointer (some (m1.add 2))) (.slice j0 j1 j2)) (fun _ q6=>x q6) q5) O)/\(wpH P (C2y #[95,95] 95 #[.slice t u v,.slice b1 b2 b3]) (fun q7 k8=>∃ (j3:OA) (j4 j5:Nat),q7= .slice j3 j4 j5/\∃ (j6:OA),k8.cell? b=some (.pointer j6)/\∃ m2,j6=some m2/\wpH P (C2x 95 (.pointer (some (m2.add 2))) (.slice j3 j4 j5)) (fun _ q8=>x q8) k8) O)) r)))))))
 (fun k9=>∃ (j7:OA),k9.cell? b=some (.pointer j7)/\K (.pointer j7) k9))) n4) n2) h
theorem A12 a b c d(hvc:A13 prog a b c d h K):FCall prog Iw #[.slice a b c,I d] h K:=
 C7 bod func68 [.tmp 4] ⟨[(8,⟨[31],[(9,2)],[.int .i64 0,.bool false,.slice none 0 0],⟨([11,12]++Lrg 31 21),[9,11,12]⟩⟩),(17,⟨[62],[],[.int .i64 0],⟨([13,14]++Lrg 62 17),[14]⟩⟩)],[(16,⟨[],[(9,2)],[.bool false,.slice none 0 0],⟨[52,53,54],[9]⟩⟩)],[(12,([1,2,3,4,5,0,6,7,8,9,10],[])),(21,([1,2,3,4,5,6,0,7,8,9,10,11,12],[]))],[(4,[.slice none 0 0])],[(12,[(0,[6,7])]),(21,[(0,[7,8,9])])]⟩ 92 [7,9,11,12,14] [115,132,135,136,137,138,139,140] [1000000000] (by kernel_rfl) hvc
def C2o(P:Program)(e:OA)(a:Int)(h:Heap)(K:VP):Prop:=
 ∃ g,e=some g/\∃ (f:OA) (k d:Nat),h.cell? (g.add 1)=some (.slice f k d)/\∃ i,e=some i/\∃ b,h.cell? (i.add 0)=some (I b)/\∃ j,e=some j/\∃ c,h.cell? (j.add 0)=some (I c)/\(0<=B4 ((B4 (a+1))*c)/\B4 ((B4 (a+1))*c)<=(d:Int))/\(0<=B4 (a*b)/\B4 (a*b)<=(((B4 ((B4 (a+1))*c)).toNat:Nat):Int))/\K (.slice (J5 f d ((B4 (a*b)).toNat) 2) (((B4 ((B4 (a+1))*c)).toNat)-((B4 (a*b)).toNat)) (d-((B4 (a*b)).toNat))) h
theorem B7f a b(hvc:C2o prog a b h K):FCall prog Rf #[.pointer a,I b] h K:=
 C7 bod func144 [.tmp 4] an0 23 [] [] [] (by kernel_rfl) hvc
def B5h(P:Program)(F:OA)(b4:Int)(b5:Int)(b:Int)(b6:Bool)(b7:OA)(b8 b9:Nat)(h:Heap)(K:VP):Prop:=
 FCall P Rf #[.pointer F,I b4] h (fun c2 c3=>∃ (i:OA) (e c0:Nat),c2= .slice i e c0/\FCall P Rf #[.pointer F,I b5] c3 (fun c4 v=>∃ (j:OA) (k c1:Nat),c4= .slice j k c1/\∃ A,i=some A/\0<=b/\b<(e:Int)/\∃ (m:Bool) (n:OA) (o p:Nat),v.cell? (C2w (A.add (b.toNat*2)) 0)=some (.bool m)/\v.cell? (C2w (A.add (b.toNat*2)) 1)=some (.slice n o p)/\∃ (f:LP) (d:LN),f [I 0] v/\
 ∀ a c,f [I a] c->Br (decide (a<(e:Int))) (∃ B,i=some B/\0<=a/\a<(e:Int)/\∃ (q:Bool) (r:OA) (s t:Nat),c.cell? (C2w (B.add (a.toNat*2)) 0)=some (.bool q)/\c.cell? (C2w (B.add (a.toNat*2)) 1)=some (.slice r s t)/\∃ (u:LP),(FCall P E9 #[.agg #[.bool q,.slice r s t]] c (fun c5 a8=>∃ (G:Bool),c5= .bool G/\Br G (FCall P E9 #[.agg #[.bool m,.slice n o p]] a8 (fun c6 g=>∃ (H:Bool),c6= .bool H/\Br H (f [I (B4 (a+1))] g/\d [I (B4 (a+1))] g<d [I a] c)
 (∃ C,j=some C/\0<=a/\a<(k:Int)/\∃ (J:Bool) (L:OA) (M N:Nat),g.cell? (C2w (C.add (a.toNat*2)) 0)=some (.bool J)/\g.cell? (C2w (C.add (a.toNat*2)) 1)=some (.slice L M N)/\FCall P E9 #[.agg #[.bool J,.slice L M N]] g (fun c7 w=>∃ (O:Bool),c7= .bool O/\Br O (f [I (B4 (a+1))] w/\d [I (B4 (a+1))] w<d [I a] c)
 (u [] w)))))
 (u [] a8)))/\
 ∀ b2,u [] b2->wpH P (Instr.alloc 203 true (.tuple #[])) (fun c8 x=>∃ (l:Addr),c8= .pointer (some l)/\∃ D,j=some D/\0<=b/\b<(k:Int)/\∃ (Q:Bool) (R:OA) (S T:Nat),x.cell? (C2w (D.add (b.toNat*2)) 0)=some (.bool Q)/\x.cell? (C2w (D.add (b.toNat*2)) 1)=some (.slice R S T)/\FCall P Au #[.pointer (some l),.agg #[.bool Q,.slice R S T],.agg #[.bool q,.slice r s t]] x (fun c9 y=>c9= .tuple #[]/\∃ E,j=some E/\0<=a/\a<(k:Int)/\∃ (V:Bool) (W:OA) (X Z:Nat),y.cell? (C2w (E.add (a.toNat*2)) 0)=some (.bool V)/\y.cell? (C2w (E.add (a.toNat*2)) 1)=some (.slice W X Z)/\FCall P Em #[.pointer (some l),.agg #[.bool m,.slice n o p],.agg #[.bool V,.slice W X Z]] y (fun d0 a9=>d0= .tuple #[]/\FCall P Wr #[.pointer (some l)] a9 (fun d1 z=>∃ (a0:Bool) (a1:OA) (a2 a3:Nat),d1= .agg #[.bool a0,.slice a1 a2 a3]/\Heap.le a9 z/\FCall P Cz #[.agg #[.bool a0,.slice a1 a2 a3],.agg #[.bool b6,.slice b7 b8 b9]] z (fun d2 b0=>∃ (a4:Bool) (a5:OA) (a6 a7:Nat),d2= .agg #[.bool a4,.slice a5 a6 a7]/\Heap.le z b0/\∃ b3,i=some b3/\0<=a/\a<(e:Int)/\wpH P (C2x 102 (.pointer (some (b3.add (a.toNat*2)))) (.agg #[.bool a4,.slice a5 a6 a7])) (fun _ b1=>f [I (B4 (a+1))] b1/\d [I (B4 (a+1))] b1<d [I a] c) b0))))) b2)
 (K (.tuple #[]) c)))
theorem B1a a b c d e f g i(hvc:B5h prog a b c d e f g i h K):FCall prog Xf #[.pointer a,I b,I c,I d,.agg #[.bool e,.slice f g i]] h K:=
 C7 bod func143 [] ⟨[(4,⟨[28],[],[.int .i64 0],⟨([13,14,15]++Lrg 28 37),[14]⟩⟩)],[(7,⟨[],[],[],⟨(Lrg 33 13),[]⟩⟩)],[(10,([0,1,3,2,4,5,6],[]))],[],[]⟩ 65 [9,12,14] [138,140,144,152,153,196] [152,196] (by kernel_rfl) hvc
def B57(P:Program)(e:OA)(f g:Nat)(i:Int)(h:Heap)(K:VP):Prop:=
 wpH P (Instr.box 95 (.slice e f g)) (fun j k=>∃ (b:Addr),j= .pointer (some b)/\wpH P (Instr.box 3 (I i)) (fun l d=>∃ (a:Addr),l= .pointer (some a)/\∃ (c:Int),d.cell? a=some (I c)/\Br (decide (c<(1:Int))) (False)
 (K (.func (.func 191) #[] #[.pointer (some b),.pointer (some a)]) d)) k) h
theorem B0x a b c d(hvc:B57 prog a b c d h K):FCall prog Wz #[.slice a b c,I d] h K:=
 C7 bod func135 [.tmp 4] an0 9 [] [] [] (by kernel_rfl) hvc
def B0y(P:Program)(p:Nat)(f:Addr)(j:Addr)(h:Heap)(K:VP):Prop:=
 ∃ (g:LP) (k:LN),g [I 0] h/\
 ∀ a d,g [I a] d->∃ (q:OA) (l r:Nat),d.cell? f=some (.slice q l r)/\Br (decide (a<(l:Int))) (∃ (c:Int),d.cell? j=some (I c)/\∃ (s:OA) (b t:Nat),d.cell? f=some (.slice s b t)/\(0<=a/\a<=(b:Int))/\∃ (m:OA) (u n:Nat),d.cell? f=some (.slice m u n)/\(0<=B4 (a+(if ((b-(a.toNat):Nat):Int)<c then ((b-(a.toNat):Nat):Int) else c))/\B4 (a+(if ((b-(a.toNat):Nat):Int)<c then ((b-(a.toNat):Nat):Int) else c))<=(n:Int))/\(0<=B4 (a+(if ((b-(a.toNat):Nat):Int)<c then ((b-(a.toNat):Nat):Int) else c))/\B4 (a+(if ((b-(a.toNat):Nat):Int)<c then ((b-(a.toNat):Nat):Int) else c))<=(((B4 (a+(if ((b-(a.toNat):Nat):Int)<c then ((b-(a.toNat):Nat):Int) else c))).toNat:Nat):Int))/\(0<=a/\a<=(((B4 (a+(if ((b-(a.toNat):Nat):Int)<c then ((b-(a.toNat):Nat):Int) else c))).toNat:Nat):Int))/\YCall P p #[.slice (J5 m ((B4 (a+(if ((b-(a.toNat):Nat):Int)<c then ((b-(a.toNat):Nat):Int) else c))).toNat) (a.toNat) 4) ((B4 (a+(if ((b-(a.toNat):Nat):Int)<c then ((b-(a.toNat):Nat):Int) else c))).toNat-a.toNat) ((B4 (a+(if ((b-(a.toNat):Nat):Int)<c then ((b-(a.toNat):Nat):Int) else c))).toNat-a.toNat)] d (fun v e=>∃ (o:Bool),v= .bool o/\Br (!o) (K (.tuple #[]) e)
 (∃ (i:Int),e.cell? j=some (I i)/\g [I (B4 (a+i))] e/\k [I (B4 (a+i))] e<k [I a] d)))
 (K (.tuple #[]) d)
theorem A6p(a:Nat)(b:Addr)(c:Addr)(hvc:B0y prog a b c h K):FCall prog Gi #[.func (.yield a) #[] #[],.pointer (some b),.pointer (some c)] h K:=
 C7 bod func191 [] { loops:=[(1,⟨[4],[],[.int .i64 0],⟨(Lrg 4 27),[]⟩⟩)] } 31 [] [] [] (by kernel_rfl) hvc
theorem Yc:∀ (args:Array Value) (W:World),(callFunc Gi args).run prog W= .ok (.enter Gi args) W:=call191
def B9v(P:Program)(c:Int)(b:Int)(r:OA)(j s:Nat)(h:Heap)(K:VP):Prop:=
 Br (decide (c<(1:Int))) (K (.tuple #[.slice none 0 0,.bool false]) h)
 (Br (decide (c>(64:Int))) (K (.tuple #[.slice none 0 0,.bool false]) h)
 (Br (decide (b<(1:Int))) (K (.tuple #[.slice none 0 0,.bool false]) h)
 (Br (decide (b>(64:Int))) (K (.tuple #[.slice none 0 0,.bool false]) h)
 (Br ((j:Int) != (B4 (c*b))) (K (.tuple #[.slice none 0 0,.bool false]) h)
 (FCall P Wx #[.slice r j s] h (fun u o=>∃ (k:OA) (t d:Nat) (l:Bool),u= .tuple #[.slice k t d,.bool l]/\Br (!l) (K (.tuple #[.slice none 0 0,.bool false]) o)
 (wpH P (C30 52 (I c) (I c)) (fun v w=>∃ (f:OA) (g m:Nat),v= .slice f g m/\∃ (i:LP) (n:LN),i [I 0] w/\
 ∀ a e,i [I a] e->Br (decide (a<c)) ((0<=B4 ((B4 (a+1))*b)/\B4 ((B4 (a+1))*b)<=(d:Int))/\(0<=B4 (a*b)/\B4 (a*b)<=(((B4 ((B4 (a+1))*b)).toNat:Nat):Int))/\∃ q,f=some q/\0<=a/\a<(g:Int)/\wpH P (C2x 58 (.pointer (some (q.add (a.toNat*1)))) (.slice (J5 k d ((B4 (a*b)).toNat) 4) (((B4 ((B4 (a+1))*b)).toNat)-((B4 (a*b)).toNat)) (d-((B4 (a*b)).toNat)))) (fun _ p=>i [I (B4 (a+1))] p/\n [I (B4 (a+1))] p<n [I a] e) e)
 (K (.tuple #[.slice f g m,.bool true]) e)) o)))))))
theorem B3s a b c d e(hvc:B9v prog a b c d e h K):FCall prog A2q #[.agg #[I a,I b,.slice c d e]] h K:=
 C7 bod func35 [.tmp 2,.tmp 3] { loops:=[(8,⟨[7],[],[.int .i64 0],⟨([7]++Lrg 48 20),[]⟩⟩)] } 69 [1] [38] [] (by kernel_rfl) hvc
def B9w(P:Program)(n:OA)(c E:Nat)(h:Heap)(K:VP):Prop:=
 Br ((c:Int)==(0:Int)) (K (.agg #[I 0,I 0,.slice none 0 0]) h)
 (∃ y,n=some y/\0<=(0:Int)/\(0:Int)<(c:Int)/\∃ (A:OA) (o B:Nat),h.cell? (y.add (((0:Int)).toNat*1))=some (.slice A o B)/\∃ (j:LP) (p:LN),j [I 0,I (c:Int),I (o:Int),.slice none 0 0] h/\
 ∀ a d e f g i b,j [I a,I d,I e,.slice f g i] b->Br (decide (a<(c:Int))) (∃ z,n=some z/\0<=a/\a<(c:Int)/\∃ (q:OA) (r s:Nat),b.cell? (z.add (a.toNat*1))=some (.slice q r s)/\FCall P Ws #[.slice q r s] b (fun C w=>∃ (t:OA) (u v:Nat),C= .slice t u v/\Heap.le b w/\wpH P (C2y #[23,23] 23 #[.slice f g i,.slice t u v]) (fun D x=>∃ (k:OA) (l m:Nat),D= .slice k l m/\j [I (B4 (a+1)),I d,I e,.slice k l m] x/\p [I (B4 (a+1)),I d,I e,.slice k l m] x<p [I a,I d,I e,.slice f g i] b) w))
 (K (.agg #[I d,I e,.slice f g i]) b))
theorem B3t a b c(hvc:B9w prog a b c h K):FCall prog Re #[.slice a b c] h K:=
 C7 bod func64 [.cell 2 25] { loops:=[(5,⟨[4],[(3,3)],[.int .i64 0,.int .i64 0,.int .i64 0,.slice none 0 0],⟨([4]++Lrg 16 15),[3]⟩⟩)] } 32 [2,3] [123] [1000000000] (by kernel_rfl) hvc
def B5c(P:Program)(c:Int)(g:Int)(h:Heap)(K:VP):Prop:=
 wpH P (C30 52 (I c) (I c)) (fun p q=>∃ (d:OA) (e i:Nat),p= .slice d e i/\∃ (f:LP) (j:LN),f [I 0] q/\
 ∀ a b,f [I a] b->Br (decide (a<c)) (wpH P (C30 58 (I g) (I g)) (fun r s=>∃ (k:OA) (l m:Nat),r= .slice k l m/\∃ o,d=some o/\0<=a/\a<(e:Int)/\wpH P (C2x 58 (.pointer (some (o.add (a.toNat*1)))) (.slice k l m)) (fun _ n=>f [I (B4 (a+1))] n/\j [I (B4 (a+1))] n<j [I a] b) s) b)
 (K (.slice d e i) b)) h
theorem B14 a b(hvc:B5c prog a b h K):FCall prog Kr #[I a,I b] h K:=
 C7 bod func107 [.tmp 4] { loops:=[(3,⟨[6],[],[.int .i64 0],⟨([6]++Lrg 9 10),[]⟩⟩)] } 20 [] [] [] (by kernel_rfl) hvc
def B9t(P:Program)(c:Int)(h:Heap)(K:VP):Prop:=
 FCall P Kr #[I c,I c] h (fun y z=>∃ (d:OA) (e g:Nat),y= .slice d e g/\∃ (f:LP) (i:LN),f [I 0] z/\
 ∀ a b,f [I a] b->Br (decide (a<c)) (∃ v,d=some v/\0<=a/\a<(e:Int)/\∃ (j:OA) (k x:Nat),b.cell? (v.add (a.toNat*1))=some (.slice j k x)/\FCall P C17 #[I 1] b (fun A t=>∃ (l:Bool) (m:OA) (n o:Nat) (p:Bool) (q:OA) (r s:Nat),A= .agg #[.bool l,.slice m n o,.bool p,.slice q r s]/\Heap.le b t/\∃ w,j=some w/\0<=a/\a<(k:Int)/\wpH P (C2x 66 (.pointer (some (w.add (a.toNat*4)))) (.agg #[.bool l,.slice m n o,.bool p,.slice q r s])) (fun _ u=>f [I (B4 (a+1))] u/\i [I (B4 (a+1))] u<i [I a] b) t))
 (K (.slice d e g) b))
theorem B3q a(hvc:B9t prog a h K):FCall prog A2o #[I a] h K:=
 C7 bod func65 [.tmp 2] { loops:=[(3,⟨[4],[],[.int .i64 0],⟨([4]++Lrg 8 12),[]⟩⟩)] } 21 [] [107,109] [] (by kernel_rfl) hvc
def B9x(P:Program)(B:OA)(k J:Nat)(h:Heap)(K:VP):Prop:=
 ∃ (f:LP) (l:LN),f [.slice none 0 0,I 0] h/\
 ∀ b c d a e,f [.slice b c d,I a] e->Br (decide (a<(k:Int))) (wpH P (C2z 58 0 #[]) (fun C y=>∃ (m:OA) (n o:Nat),C= .slice m n o/\∃ A,B=some A/\0<=a/\a<(k:Int)/\∃ (p:OA) (q r:Nat),y.cell? (A.add (a.toNat*1))=some (.slice p q r)/\wpH P (C2y #[58,58] 58 #[.slice m n o,.slice p q r]) (fun D E=>∃ (s:OA) (t u:Nat),D= .slice s t u/\wpH P (C2z 52 1 #[(0,.slice s t u)]) (fun F G=>∃ (v:OA) (w x:Nat),F= .slice v w x/\wpH P (C2y #[52,52] 52 #[.slice b c d,.slice v w x]) (fun H z=>∃ (g:OA) (i j:Nat),H= .slice g i j/\f [.slice g i j,I (B4 (a+1))] z/\l [.slice g i j,I (B4 (a+1))] z<l [.slice b c d,I a] e) G) E) y) e)
 (K (.slice b c d) e)
theorem B3u a b c(hvc:B9x prog a b c h K):FCall prog A2r #[.slice a b c] h K:=
 C7 bod func168 [.tmp 2] { loops:=[(3,⟨[3,4],[],[.slice none 0 0,.int .i64 0],⟨(Lrg 3 17),[]⟩⟩)] } 21 [] [] [] (by kernel_rfl) hvc
def B9u(P:Program)(g:OA)(d V:Nat)(h:Heap)(K:VP):Prop:=
 ∃ E,g=some E/\0<=(0:Int)/\(0:Int)<(d:Int)/\∃ (L:OA) (m M:Nat),h.cell? (E.add (((0:Int)).toNat*1))=some (.slice L m M)/\FCall P Kr #[I (m:Int),I (d:Int)] h (fun S T=>∃ (i:OA) (j n:Nat),S= .slice i j n/\∃ (k:LP) (o:LN),k [I 0] T/\
 ∀ a f,k [I a] f->Br (decide (a<(d:Int))) (∃ (l:LP) (p:LN),l [I 0] f/\
 ∀ b c,l [I b] c->∃ F,g=some F/\0<=a/\a<(d:Int)/\∃ (N:OA) (q O:Nat),c.cell? (F.add (a.toNat*1))=some (.slice N q O)/\Br (decide (b<(q:Int))) (∃ G,i=some G/\0<=b/\b<(j:Int)/\∃ (r:OA) (s Q:Nat),c.cell? (G.add (b.toNat*1))=some (.slice r s Q)/\∃ H,g=some H/\0<=a/\a<(d:Int)/\∃ (t:OA) (u R:Nat),c.cell? (H.add (a.toNat*1))=some (.slice t u R)/\∃ e,t=some e/\0<=b/\b<(u:Int)/\∃ (v:Bool) (w:OA) (x y:Nat) (z:Bool) (A:OA) (B C:Nat),c.cell? (C2w (e.add (b.toNat*4)) 0)=some (.bool v)/\c.cell? (C2w (e.add (b.toNat*4)) 1)=some (.slice w x y)/\c.cell? (C2w (e.add (b.toNat*4)) 2)=some (.bool z)/\c.cell? (C2w (e.add (b.toNat*4)) 3)=some (.slice A B C)/\∃ J,r=some J/\0<=a/\a<(s:Int)/\wpH P (C2x 66 (.pointer (some (J.add (a.toNat*4)))) (.agg #[.bool v,.slice w x y,.bool z,.slice A B C])) (fun _ D=>l [I (B4 (b+1))] D/\p [I (B4 (b+1))] D<p [I b] c) c)
 (k [I (B4 (a+1))] c/\o [I (B4 (a+1))] c<o [I a] f))
 (K (.slice i j n) f))
theorem B3r a b c(hvc:B9u prog a b c h K):FCall prog A2p #[.slice a b c] h K:=
 C7 bod func93 [.tmp 2] { loops:=[(3,⟨[4],[],[.int .i64 0],⟨([4,5]++Lrg 13 28),[]⟩⟩),(6,⟨[5],[],[.int .i64 0],⟨([5]++Lrg 19 22),[]⟩⟩)] } 42 [] [107] [] (by kernel_rfl) hvc
def B5b(P:Program)(w:OA)(l g4:Nat)(s:OA)(m g5:Nat)(h:Heap)(K:VP):Prop:=
 ∃ e1,s=some e1/\0<=(0:Int)/\(0:Int)<(m:Int)/\∃ (f0:OA) (x f1:Nat),h.cell? (e1.add (((0:Int)).toNat*1))=some (.slice f0 x f1)/\FCall P Kr #[I (l:Int),I (x:Int)] h (fun f9 g0=>∃ (n:OA) (o y:Nat),f9= .slice n o y/\∃ (t:LP) (z:LN),t [I 0] g0/\
 ∀ d r,t [I d] r->Br (decide (d<(l:Int))) (∃ (p:LP) (q:LN),p [I 0] r/\
 ∀ a f,p [I a] f->Br (decide (a<(m:Int))) (∃ (u:LP) (A:LN),u [I 0] f/\
 ∀ c e,u [I c] e->∃ e2,s=some e2/\0<=(0:Int)/\(0:Int)<(m:Int)/\∃ (f2:OA) (B f3:Nat),e.cell? (e2.add (((0:Int)).toNat*1))=some (.slice f2 B f3)/\Br (decide (c<(B:Int))) (∃ e3,w=some e3/\0<=d/\d<(l:Int)/\∃ (C:OA) (D f4:Nat),e.cell? (e3.add (d.toNat*1))=some (.slice C D f4)/\∃ g,C=some g/\0<=a/\a<(D:Int)/\∃ (E:Bool) (F:OA) (G H:Nat) (J:Bool) (L:OA) (M N:Nat),e.cell? (C2w (g.add (a.toNat*4)) 0)=some (.bool E)/\e.cell? (C2w (g.add (a.toNat*4)) 1)=some (.slice F G H)/\e.cell? (C2w (g.add (a.toNat*4)) 2)=some (.bool J)/\e.cell? (C2w (g.add (a.toNat*4)) 3)=some (.slice L M N)/\FCall P Ca #[.agg #[.bool E,.slice F G H,.bool J,.slice L M N]] e (fun g1 b=>∃ e4,g1=I e4/\Br (e4 != (0:Int)) (∃ e5,n=some e5/\0<=d/\d<(o:Int)/\∃ (O:OA) (Q f5:Nat),b.cell? (e5.add (d.toNat*1))=some (.slice O Q f5)/\∃ e6,n=some e6/\0<=d/\d<(o:Int)/\∃ (R:OA) (S f6:Nat),b.cell? (e6.add (d.toNat*1))=some (.slice R S f6)/\∃ i,R=some i/\0<=c/\c<(S:Int)/\∃ (T:Bool) (V:OA) (W X:Nat) (Z:Bool) (a0:OA) (a1 a2:Nat),b.cell? (C2w (i.add (c.toNat*4)) 0)=some (.bool T)/\b.cell? (C2w (i.add (c.toNat*4)) 1)=some (.slice V W X)/\b.cell? (C2w (i.add (c.toNat*4)) 2)=some (.bool Z)/\b.cell? (C2w (i.add (c.toNat*4)) 3)=some (.slice a0 a1 a2)/\∃ e7,w=some e7/\0<=d/\d<(l:Int)/\∃ (a3:OA) (a4 f7:Nat),b.cell? (e7.add (d.toNat*1))=some (.slice a3 a4 f7)/\∃ j,a3=some j/\0<=a/\a<(a4:Int)/\∃ (a5:Bool) (a6:OA) (a7 a8:Nat) (a9:Bool) (b0:OA) (b1 b2:Nat),b.cell? (C2w (j.add (a.toNat*4)) 0)=some (.bool a5)/\b.cell? (C2w (j.add (a.toNat*4)) 1)=some (.slice a6 a7 a8)/\b.cell? (C2w (j.add (a.toNat*4)) 2)=some (.bool a9)/\b.cell? (C2w (j.add (a.toNat*4)) 3)=some (.slice b0 b1 b2)/\∃ e8,s=some e8/\0<=a/\a<(m:Int)/\∃ (b3:OA) (b4 f8:Nat),b.cell? (e8.add (a.toNat*1))=some (.slice b3 b4 f8)/\∃ k,b3=some k/\0<=c/\c<(b4:Int)/\∃ (b5:Bool) (b6:OA) (b7 b8:Nat) (b9:Bool) (c0:OA) (c1 c2:Nat),b.cell? (C2w (k.add (c.toNat*4)) 0)=some (.bool b5)/\b.cell? (C2w (k.add (c.toNat*4)) 1)=some (.slice b6 b7 b8)/\b.cell? (C2w (k.add (c.toNat*4)) 2)=some (.bool b9)/\b.cell? (C2w (k.add (c.toNat*4)) 3)=some (.slice c0 c1 c2)/\FCall P Rc #[.agg #[.bool a5,.slice a6 a7 a8,.bool a9,.slice b0 b1 b2],.agg #[.bool b5,.slice b6 b7 b8,.bool b9,.slice c0 c1 c2]] b (fun g2 v=>∃ (c3:Bool) (c4:OA) (c5 c6:Nat) (c7:Bool) (c8:OA) (c9 d0:Nat),g2= .agg #[.bool c3,.slice c4 c5 c6,.bool c7,.slice c8 c9 d0]/\Heap.le b v/\FCall P Rd #[.agg #[.bool T,.slice V W X,.bool Z,.slice a0 a1 a2],.agg #[.bool c3,.slice c4 c5 c6,.bool c7,.slice c8 c9 d0]] v (fun g3 d9=>∃ (d1:Bool) (d2:OA) (d3 d4:Nat) (d5:Bool) (d6:OA) (d7 d8:Nat),g3= .agg #[.bool d1,.slice d2 d3 d4,.bool d5,.slice d6 d7 d8]/\Heap.le v d9/\∃ e9,O=some e9/\0<=c/\c<(Q:Int)/\wpH P (C2x 66 (.pointer (some (e9.add (c.toNat*4)))) (.agg #[.bool d1,.slice d2 d3 d4,.bool d5,.slice d6 d7 d8])) (fun _ e0=>u [I (B4 (c+1))] e0/\A [I (B4 (c+1))] e0<A [I c] e) d9)))
 (p [I (B4 (a+1))] b/\q [I (B4 (a+1))] b<q [I a] f)))
 (p [I (B4 (a+1))] e/\q [I (B4 (a+1))] e<q [I a] f))
 (t [I (B4 (d+1))] f/\z [I (B4 (d+1))] f<z [I d] r))
 (K (.slice n o y) r))
theorem B12 a b c d e f(hvc:B5b prog a b c d e f h K):FCall prog Xc #[.slice a b c,.slice d e f] h K:=
 C7 bod func92 [.tmp 4] { loops:=[(3,⟨[6],[],[.int .i64 0],⟨([6,7,8]++Lrg 16 60),[]⟩⟩),(6,⟨[7],[],[.int .i64 0],⟨([7,8]++Lrg 22 54),[]⟩⟩),(9,⟨[8],[],[.int .i64 0],⟨([8]++Lrg 28 48),[]⟩⟩)] } 77 [] [39,107,110,163] [] (by kernel_rfl) hvc
def C2m(P:Program)(a3:OA)(y a8:Nat)(a4:OA)(a5 a9:Nat)(h:Heap)(K:VP):Prop:=
 ∃ (n:LP) (z:LN),n [I 0,.bool false,.slice none 0 0,.bool false,.slice none 0 0] h/\
 ∀ a e f g i j k l m b,n [I a,.bool e,.slice f g i,.bool j,.slice k l m] b->Br (decide (a<(y:Int))) (∃ c,a3=some c/\0<=a/\a<(y:Int)/\∃ (A:Bool) (B:OA) (C D:Nat) (E:Bool) (F:OA) (G H:Nat),b.cell? (C2w (c.add (a.toNat*4)) 0)=some (.bool A)/\b.cell? (C2w (c.add (a.toNat*4)) 1)=some (.slice B C D)/\b.cell? (C2w (c.add (a.toNat*4)) 2)=some (.bool E)/\b.cell? (C2w (c.add (a.toNat*4)) 3)=some (.slice F G H)/\∃ d,a4=some d/\0<=a/\a<(a5:Int)/\∃ (J:Bool) (L:OA) (M N:Nat) (O:Bool) (Q:OA) (R S:Nat),b.cell? (C2w (d.add (a.toNat*4)) 0)=some (.bool J)/\b.cell? (C2w (d.add (a.toNat*4)) 1)=some (.slice L M N)/\b.cell? (C2w (d.add (a.toNat*4)) 2)=some (.bool O)/\b.cell? (C2w (d.add (a.toNat*4)) 3)=some (.slice Q R S)/\FCall P Rc #[.agg #[.bool A,.slice B C D,.bool E,.slice F G H],.agg #[.bool J,.slice L M N,.bool O,.slice Q R S]] b (fun a6 w=>∃ (T:Bool) (V:OA) (W X:Nat) (Z:Bool) (a0:OA) (a1 a2:Nat),a6= .agg #[.bool T,.slice V W X,.bool Z,.slice a0 a1 a2]/\Heap.le b w/\FCall P Rd #[.agg #[.bool e,.slice f g i,.bool j,.slice k l m],.agg #[.bool T,.slice V W X,.bool Z,.slice a0 a1 a2]] w (fun a7 x=>∃ (o:Bool) (p:OA) (q r:Nat) (s:Bool) (t:OA) (u v:Nat),a7= .agg #[.bool o,.slice p q r,.bool s,.slice t u v]/\Heap.le w x/\n [I (B4 (a+1)),.bool o,.slice p q r,.bool s,.slice t u v] x/\z [I (B4 (a+1)),.bool o,.slice p q r,.bool s,.slice t u v] x<z [I a,.bool e,.slice f g i,.bool j,.slice k l m] b)))
 (K (.agg #[.bool e,.slice f g i,.bool j,.slice k l m]) b)
theorem B7d a b c d e f(hvc:C2m prog a b c d e f h K):FCall prog A4c #[.slice a b c,.slice d e f] h K:=
 C7 bod func102 [.cell 4 66] { loops:=[(3,⟨[6],[(5,4)],[.int .i64 0,.bool false,.slice none 0 0,.bool false,.slice none 0 0],⟨([6]++Lrg 8 17),[5]⟩⟩)] } 26 [4,5] [110,163] [] (by kernel_rfl) hvc
def C2n(P:Program)(x:OA)(c F:Nat)(y:OA)(z A:Nat)(h:Heap)(K:VP):Prop:=
 wpH P (C30 58 (I (c:Int)) (I (c:Int))) (fun B C=>∃ (d:OA) (e g:Nat),B= .slice d e g/\∃ (f:LP) (i:LN),f [I 0] C/\
 ∀ a b,f [I a] b->Br (decide (a<(c:Int))) (∃ v,x=some v/\0<=a/\a<(c:Int)/\∃ (j:OA) (k l:Nat),b.cell? (v.add (a.toNat*1))=some (.slice j k l)/\FCall P A4c #[.slice j k l,.slice y z A] b (fun D E=>∃ (m:Bool) (n:OA) (o p:Nat) (q:Bool) (r:OA) (s t:Nat),D= .agg #[.bool m,.slice n o p,.bool q,.slice r s t]/\∃ w,d=some w/\0<=a/\a<(e:Int)/\wpH P (C2x 66 (.pointer (some (w.add (a.toNat*4)))) (.agg #[.bool m,.slice n o p,.bool q,.slice r s t])) (fun _ u=>f [I (B4 (a+1))] u/\i [I (B4 (a+1))] u<i [I a] b) E))
 (K (.slice d e g) b)) h
theorem B7e a b c d e f(hvc:C2n prog a b c d e f h K):FCall prog A93 #[.slice a b c,.slice d e f] h K:=
 C7 bod func103 [.tmp 4] { loops:=[(3,⟨[6],[],[.int .i64 0],⟨([6]++Lrg 10 15),[]⟩⟩)] } 26 [] [102] [] (by kernel_rfl) hvc
def B59(P:Program)(i:Int)(j:OA)(d k:Nat)(h:Heap)(K:VP):Prop:=
 ∃ (c:LP) (e:LN),c [I 0] h/\
 ∀ a b,c [I a] b->Br (decide (a<(d:Int))) (∃ g,j=some g/\0<=a/\a<(d:Int)/\∃ (f:ByteArray),b.cell? (g.add (a.toNat*1))=some (.string f)/\Br (decide (((ByteArray.size f:Nat):Int)>i)) (K (.bool false) b)
 (c [I (B4 (a+1))] b/\e [I (B4 (a+1))] b<e [I a] b))
 (K (.bool true) b)
theorem B10 a b c d(hvc:B59 prog a b c d h K):FCall prog Pk #[I a,.slice b c d] h K:=
 C7 bod func14 [.tmp 4] { loops:=[(2,⟨[5],[],[.int .i64 0],⟨(Lrg 4 15),[]⟩⟩)] } 19 [] [] [] (by kernel_rfl) hvc
def A4x(P:Program)(l:OA)(c n:Nat)(m:OA)(e o:Nat)(h:Heap)(K:VP):Prop:=
 Br ((c:Int) != (e:Int)) (K (.bool false) h)
 (∃ (d:LP) (f:LN),d [I 0] h/\
 ∀ a b,d [I a] b->Br (decide (a<(c:Int))) (∃ j,l=some j/\0<=a/\a<(c:Int)/\∃ (g:ByteArray),b.cell? (j.add (a.toNat*1))=some (.string g)/\∃ k,m=some k/\0<=a/\a<(e:Int)/\∃ (i:ByteArray),b.cell? (k.add (a.toNat*1))=some (.string i)/\Br (!(ByteArray.toList g==ByteArray.toList i)) (K (.bool false) b)
 (d [I (B4 (a+1))] b/\f [I (B4 (a+1))] b<f [I a] b))
 (K (.bool true) b))
theorem A3b a b c d e f(hvc:A4x prog a b c d e f h K):FCall prog Hr #[.slice a b c,.slice d e f] h K:=
 C7 bod func60 [.tmp 4] { loops:=[(4,⟨[5],[],[.int .i64 0],⟨([4,5]++Lrg 11 15),[]⟩⟩)] } 26 [] [] [] (by kernel_rfl) hvc
def C2l(P:Program)(b:Int)(a:Int)(h:Heap)(K:VP):Prop:=
 Br (decide (a=0)) False
 (Br (decide ((Int.tmod b a)<(0:Int))) (K (I (B4 ((Int.tmod b a)+a))) h)
 (K (I (Int.tmod b a)) h))
theorem B7c a b(hvc:C2l prog a b h K):FCall prog A92 #[I a,I b] h K:=
 C7 bod func29 [.tmp 4] an0 15 [] [] [] (by kernel_rfl) hvc
end Go.Proofs.YtajkakhfcokljaaGreatDoor
