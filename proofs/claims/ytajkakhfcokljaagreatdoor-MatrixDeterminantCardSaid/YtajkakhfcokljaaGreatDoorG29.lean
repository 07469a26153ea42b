/-
  Texts of this proof, merged by a program of ours.
-/
import Derived.Test.YtajkakhfcokljaaGreatDoorProg
import Derived.Test.YtajkakhfcokljaaGreatDoorG05
import Derived.Test.YtajkakhfcokljaaGreatDoorG06
import Derived.Test.YtajkakhfcokljaaGreatDoorG13
import Derived.Test.YtajkakhfcokljaaGreatDoorG07
import Derived.Test.YtajkakhfcokljaaGreatDoorG10
import Derived.Test.YtajkakhfcokljaaGreatDoorG27
import Derived.Test.YtajkakhfcokljaaGreatDoorG09
open Go.Proofs.Tryz
set_option linter.all false
open _root_.Go.Addr renaming add->B8g
open _root_.Go.Builtin renaming append_->B8j
open _root_.ByteArray renaming toList->B8k
open _root_.Go.Instr renaming storeAt->B8h,buildSlice->B8i,makeSlice->B8l,alloc->B8m
namespace Go.Proofs.YtajkakhfcokljaaGreatDoor
open Go
set_option maxRecDepth 100000
variable {h:Heap} {K:VP}
abbrev Kh:Nat:=104
abbrev Kf:Nat:=97
abbrev H8:Nat:=136
abbrev Un:Nat:=70
abbrev Ej:Nat:=137
abbrev Nh:Nat:=20
abbrev Cv:Nat:=66
abbrev Kk:Nat:=67
abbrev Ng:Nat:=77
abbrev B7n:Nat:=15
abbrev B2m:Nat:=17
abbrev B8b:Nat:=22
abbrev B0s:Nat:=47
abbrev B7m:Nat:=127
abbrev B3t:Nat:=186
abbrev A5y:Nat:=26
abbrev B5w:Nat:=129
abbrev Em:Nat:=151
abbrev Fx:Nat:=74
abbrev Pa:Nat:=59
abbrev Sd:Nat:=25
abbrev B3s:Nat:=125
abbrev A9d:Nat:=117
abbrev X5:Nat:=75
abbrev Ur:Nat:=76
abbrev Z5:Nat:=68
abbrev Ll:Nat:=144
abbrev A0f:Nat:=142
abbrev A0g:Nat:=141
abbrev Uu:Nat:=143
abbrev Ep:Nat:=69
abbrev Ni:Nat:=135
abbrev En:Nat:=191
abbrev B4s:Nat:=62
abbrev B4r:Nat:=63
abbrev B6x:Nat:=133
abbrev B5x:Nat:=21
abbrev B70:Nat:=35
abbrev B71:Nat:=64
abbrev B5z:Nat:=107
abbrev B6y:Nat:=65
abbrev B72:Nat:=168
abbrev B6z:Nat:=93
abbrev B5y:Nat:=92
abbrev B7p:Nat:=102
abbrev B7q:Nat:=103
abbrev B3u:Nat:=187
abbrev B7o:Nat:=16
abbrev B2o:Nat:=18
abbrev B8c:Nat:=23
abbrev B4t:Nat:=128
abbrev Us:Nat:=14
abbrev T5:Nat:=24
abbrev Kl:Nat:=60
abbrev A0e:Nat:=61
abbrev B2n:Nat:=19
abbrev A5z:Nat:=29
abbrev P2:Nat:=13
abbrev B0t:Nat:=3
abbrev V9:Nat:=4
abbrev Gk:Nat:=203
abbrev Np:Nat:=111
abbrev Js:Nat:=98
abbrev B64:Nat:=25
abbrev B62:Nat:=118
abbrev Tf:Nat:=45
abbrev I6:Nat:=3
theorem B22:SliceT prog Tf I6 (I 0) 1 8:=⟨by kernel_rfl,by kernel_rfl,rfl,by decide⟩
abbrev Y4:Nat:=95
abbrev K9:Nat:=106
theorem B3q:SliceT prog Y4 K9 (.agg #[.bool false,.slice none 0 0,.bool false,.slice none 0 0]) 4 64:=⟨by kernel_rfl,by kernel_rfl,rfl,by decide⟩
theorem Tk:prog.cellsOf K9=4/\(prog.info? K9).isSome=true:=⟨by kernel_rfl,by kernel_rfl⟩
abbrev Ky:Nat:=109
abbrev Cf:Nat:=102
theorem tZs:SliceT prog Ky Cf (.agg #[.bool false,.slice none 0 0]) 2 32:=⟨by kernel_rfl,by kernel_rfl,rfl,by decide⟩
theorem Tj:prog.cellsOf Cf=2/\(prog.info? Cf).isSome=true:=⟨by kernel_rfl,by kernel_rfl⟩
abbrev B63:Nat:=52
abbrev B40:Nat:=58
abbrev Hv:Nat:=114
abbrev Rn:Nat:=118
theorem B68:SliceT prog Hv Rn (.agg #[.slice none 0 0,.bool false,.slice none 0 0]) 3 56:=⟨by kernel_rfl,by kernel_rfl,rfl,by decide⟩
abbrev B3z:Nat:=22
abbrev B1w:Nat:=23
def A28(P:Program)(x:OA)(c B:Nat)(h:Heap)(K:VP):Prop:=
 wpH P (B8l 95 (I (c:Int)) (I (c:Int))) (fun y z=>∃ (d:OA) (e g:Nat),y= .slice d e g/\∃ (f:LP) (i:LN),f [I 0] z/\
 ∀ a b,f [I a] b->Br (decide (a<(c:Int))) (∃ v,x=some v/\0<=a/\a<(c:Int)/\∃ (j:ByteArray),b.cell? (v.add (a.toNat*1))=some (.string j)/\FCall P Oy #[.string j] b (fun A t=>∃ (k:Bool) (l:OA) (m n:Nat) (o:Bool) (p:OA) (q r:Nat) (s:Bool),A= .tuple #[.agg #[.bool k,.slice l m n,.bool o,.slice p q r],.bool s]/\Br (!s) (K (.tuple #[.slice none 0 0,.bool false]) t)
 (∃ w,d=some w/\0<=a/\a<(e:Int)/\wpH P (B8h 106 (.pointer (some (w.add (a.toNat*4)))) (.agg #[.bool k,.slice l m n,.bool o,.slice p q r])) (fun _ u=>f [I (B5 (a+1))] u/\i [I (B5 (a+1))] u<i [I a] b) t)))
 (K (.tuple #[.slice d e g,.bool true]) b)) h
theorem A0y a b c(hvc:A28 prog a b c h K):FCall prog Kh #[.slice a b c] h K:=
 C6 bod func104 [.tmp 2,.tmp 3] { loops:=[(3,⟨[14],[],[.int .i64 0],⟨([2,3,5,6,7,8]++Lrg 14 17),[7]⟩⟩)] } 32 [7] [83] [] (by kernel_rfl) hvc
def A26(P:Program)(v:OA)(d A:Nat)(h:Heap)(K:VP):Prop:=
 wpH P (B8l 23 (I (d:Int)) (I (d:Int))) (fun w x=>∃ (e:OA) (f i:Nat),w= .slice e f i/\∃ (g:LP) (j:LN),g [I 0] x/\
 ∀ a b,g [I a] b->Br (decide (a<(d:Int))) (∃ c,v=some c/\0<=a/\a<(d:Int)/\∃ (k:Bool) (l:OA) (m n:Nat) (o:Bool) (p:OA) (q r:Nat),b.cell? (B8g (c.add (a.toNat*4)) 0)=some (.bool k)/\b.cell? (B8g (c.add (a.toNat*4)) 1)=some (.slice l m n)/\b.cell? (B8g (c.add (a.toNat*4)) 2)=some (.bool o)/\b.cell? (B8g (c.add (a.toNat*4)) 3)=some (.slice p q r)/\FCall P Ei #[.agg #[.bool k,.slice l m n,.bool o,.slice p q r]] b (fun y z=>∃ (s:ByteArray),y= .string s/\∃ u,e=some u/\0<=a/\a<(f:Int)/\wpH P (B8h 9 (.pointer (some (u.add (a.toNat*1)))) (.string s)) (fun _ t=>g [I (B5 (a+1))] t/\j [I (B5 (a+1))] t<j [I a] b) z))
 (K (.slice e f i) b)) h
theorem A0w a b c(hvc:A26 prog a b c h K):FCall prog Kf #[.slice a b c] h K:=
 C6 bod func97 [.tmp 2] { loops:=[(3,⟨[11],[],[.int .i64 0],⟨([4,5]++Lrg 11 11),[5]⟩⟩)] } 23 [5] [73] [] (by kernel_rfl) hvc
def As(P:Program)(C:OA)(u O:Nat)(h:Heap)(K:VP):Prop:=
 FCall P Sb #[I 1] h (fun H J=>∃ (v:Bool) (w:OA) (x y:Nat),H= .agg #[.bool v,.slice w x y]/\∃ (i:LP) (g:LN),i [I 0,.bool v,.slice w x y] J/\
 ∀ a b c d e f,i [I a,.bool b,.slice c d e] f->Br (decide (a<(u:Int))) (∃ j,C=some j/\0<=a/\a<(u:Int)/\∃ (D:Bool) (E:OA) (F G:Nat) (k:Bool) (l:OA) (m n:Nat),f.cell? (B8g (j.add (a.toNat*4)) 0)=some (.bool D)/\f.cell? (B8g (j.add (a.toNat*4)) 1)=some (.slice E F G)/\f.cell? (B8g (j.add (a.toNat*4)) 2)=some (.bool k)/\f.cell? (B8g (j.add (a.toNat*4)) 3)=some (.slice l m n)/\FCall P F8 #[.agg #[.bool k,.slice l m n]] f (fun L s=>∃ (z:Bool),L= .bool z/\Br (!z) (FCall P Ul #[.agg #[.bool k,.slice l m n],.agg #[.bool b,.slice c d e]] s (fun M t=>∃ (A:Bool),M= .bool A/\Br (!A) (FCall P A5u #[.agg #[.bool b,.slice c d e],.agg #[.bool k,.slice l m n]] t (fun N B=>∃ (o:Bool) (p:OA) (q r:Nat),N= .agg #[.bool o,.slice p q r]/\i [I (B5 (a+1)),.bool o,.slice p q r] B/\g [I (B5 (a+1)),.bool o,.slice p q r] B<g [I a,.bool b,.slice c d e] f))
 (i [I (B5 (a+1)),.bool b,.slice c d e] t/\g [I (B5 (a+1)),.bool b,.slice c d e] t<g [I a,.bool b,.slice c d e] f)))
 (i [I (B5 (a+1)),.bool b,.slice c d e] s/\g [I (B5 (a+1)),.bool b,.slice c d e] s<g [I a,.bool b,.slice c d e] f)))
 (K (.agg #[.bool b,.slice c d e]) f))
theorem Fg a b c(hvc:As prog a b c h K):FCall prog H8 #[.slice a b c] h K:=
 C6 bod func136 [.cell 2 102] { loops:=[(3,⟨[9],[(3,2)],[.int .i64 0,.bool false,.slice none 0 0],⟨([5]++Lrg 9 20),[3,5]⟩⟩)] } 30 [2,3,5] [138,139,192,193] [] (by kernel_rfl) hvc
def B18(P:Program)(a:Bool)(b:OA)(c d:Nat)(h:Heap)(K:VP):Prop:=
 K (.agg #[.bool a,.slice b c d,.bool false,.slice none 0 0]) h
theorem A7b a b c d(hvc:B18 prog a b c d h K):FCall prog Un #[.agg #[.bool a,.slice b c d]] h K:=
 C6 bod func70 [.cell 2 106] an0 5 [1,2] [] [] (by kernel_rfl) hvc
def A7k(P:Program)(c:Bool)(d:OA)(e f:Nat)(g:Bool)(i:OA)(j k:Nat)(l:Bool)(m:OA)(n o:Nat)(h:Heap)(K:VP):Prop:=
 FCall P F8 #[.agg #[.bool g,.slice i j k]] h (fun D a=>∃ (p:Bool),D= .bool p/\Br p (FCall P Lf #[.agg #[.bool c,.slice d e f],.agg #[.bool l,.slice m n o]] a (fun E F=>∃ (q:Bool) (r:OA) (s t:Nat),E= .agg #[.bool q,.slice r s t]/\K (.agg #[.bool q,.slice r s t]) F))
 (FCall P Ir #[.agg #[.bool l,.slice m n o],.agg #[.bool g,.slice i j k]] a (fun G b=>∃ (u:Bool) (v:OA) (w x:Nat),G= .agg #[.bool u,.slice v w x]/\Heap.le a b/\FCall P Lf #[.agg #[.bool c,.slice d e f],.agg #[.bool u,.slice v w x]] b (fun H C=>∃ (y:Bool) (z:OA) (A B:Nat),H= .agg #[.bool y,.slice z A B]/\Heap.le b C/\K (.agg #[.bool y,.slice z A B]) C))))
theorem A3n a b c d e f g i j k l m(hvc:A7k prog a b c d e f g i j k l m h K):FCall prog Ej #[.agg #[.bool a,.slice b c d,.bool e,.slice f g i],.agg #[.bool j,.slice k l m]] h K:=
 C6 bod func137 [.cell 4 102] an0 19 [2,3,4] [138,140,154] [] (by kernel_rfl) hvc
def B1i(P:Program)(n:Int)(o:Int)(f:OA)(c p:Nat)(h:Heap)(K:VP):Prop:=
 FCall P Cv #[.agg #[I n,I o,.slice f c p]] h (fun q l=>∃ (g:Bool),q= .bool g/\Br (!g) (K (.bool false) l)
 (∃ (d:LP) (i:LN),d [I 0] l/\
 ∀ a b,d [I a] b->Br (decide (a<(c:Int))) (∃ m,f=some m/\0<=a/\a<(c:Int)/\∃ (j:ByteArray),b.cell? (m.add (a.toNat*1))=some (.string j)/\FCall P Uo #[.string j] b (fun r e=>∃ (k:Bool),r= .bool k/\Br (!k) (K (.bool false) e)
 (d [I (B5 (a+1))] e/\i [I (B5 (a+1))] e<i [I a] b)))
 (K (.bool true) b)))
theorem A7s a b c d e(hvc:B1i prog a b c d e h K):FCall prog Nh #[.agg #[I a,I b,.slice c d e]] h K:=
 C6 bod func20 [.tmp 2] { loops:=[(4,⟨[11],[],[.int .i64 0],⟨([2,4]++Lrg 11 8),[]⟩⟩)] } 19 [1] [46,66] [] (by kernel_rfl) hvc
def Yw(P:Program)(a:Int)(b:Int)(d:OA)(c e:Nat)(h:Heap)(K:VP):Prop:=
 Br (decide ((1:Int)<=a)) (Br (decide (a<=(64:Int))) (Br (decide ((1:Int)<=b)) (Br (decide (b<=(64:Int))) (K (.bool ((c:Int)==(B5 (a*b)))) h)
 (K (.bool false) h))
 (K (.bool false) h))
 (K (.bool false) h))
 (K (.bool false) h)
theorem Yv a b c d e(hvc:Yw prog a b c d e h K):FCall prog Cv #[.agg #[I a,I b,.slice c d e]] h K:=
 C6 bod func66 [.tmp 2] an0 32 [1] [] [] (by kernel_rfl) hvc
def B5k(P:Program)(k:Int)(l:Int)(a:OA)(b c:Nat)(h:Heap)(K:VP):Prop:=
 FCall P Cv #[.agg #[I k,I l,.slice a b c]] h (fun m j=>∃ (d:Bool),m= .bool d/\Br (!d) (K (.tuple #[.slice none 0 0,.bool false]) j)
 (FCall P Kh #[.slice a b c] j (fun n o=>∃ (e:OA) (f g:Nat) (i:Bool),n= .tuple #[.slice e f g,.bool i]/\K (.tuple #[.slice e f g,.bool i]) o)))
theorem B00 a b c d e(hvc:B5k prog a b c d e h K):FCall prog Kk #[.agg #[I a,I b,.slice c d e]] h K:=
 C6 bod func67 [.tmp 2,.tmp 3] an0 12 [1] [66,104] [] (by kernel_rfl) hvc
def B1h(P:Program)(d:Int)(e:Int)(f:OA)(g i:Nat)(h:Heap)(K:VP):Prop:=
 FCall P Kf #[.slice f g i] h (fun j k=>∃ (a:OA) (b c:Nat),j= .slice a b c/\K (.agg #[I d,I e,.slice a b c]) k)
theorem A7r a b c d e(hvc:B1h prog a b c d e h K):FCall prog Ng #[I a,I b,.slice c d e] h K:=
 C6 bod func77 [.cell 6 25] an0 12 [6] [97] [] (by kernel_rfl) hvc
def B85(P:Program)(q:Int)(c:Int)(c9:OA)(d0 d1:Nat)(j:Int)(k:Int)(d2:OA)(d3 d4:Nat)(h:Heap)(K:VP):Prop:=
 FCall P Kk #[.agg #[I q,I c,.slice c9 d0 d1]] h (fun d7 d8=>∃ (z:OA) (A B:Nat) (C:Bool),d7= .tuple #[.slice z A B,.bool C]/\FCall P Kk #[.agg #[I j,I k,.slice d2 d3 d4]] d8 (fun d9 l=>∃ (D:OA) (E F:Nat) (G:Bool),d9= .tuple #[.slice D E F,.bool G]/\Br (!C) (K (.tuple #[.agg #[I 0,I 0,.slice none 0 0],I 1]) l)
 (Br (!G) (K (.tuple #[.agg #[I 0,I 0,.slice none 0 0],I 1]) l)
 (Br (c != j) (K (.tuple #[.agg #[I 0,I 0,.slice none 0 0],I 4]) l)
 (FCall P Fx #[.slice z A B,I c] l (fun e0 c6=>∃ (H:OA) (r d5:Nat),e0= .slice H r d5/\FCall P X5 #[.slice D E F,I j,I k] c6 (fun e1 y=>∃ (J:OA) (L M:Nat),e1= .slice J L M/\Heap.le c6 y/\FCall P Fx #[.slice J L M,I j] y (fun e2 c7=>∃ (N:OA) (s d6:Nat),e2= .slice N s d6/\Heap.le y c7/\wpH P (B8l 95 (I 0) (I (B5 (q*k)))) (fun e3 e4=>∃ (O:OA) (Q R:Nat),e3= .slice O Q R/\∃ (t:LP) (S:LN),t [.slice O Q R,I 0] e4/\
 ∀ m n o a e,t [.slice m n o,I a] e->Br (decide (a<(r:Int))) (∃ p,H=some p/\0<=a/\a<(r:Int)/\∃ (T:OA) (V W:Nat) (X:Bool) (Z:OA) (a0 a1:Nat),e.cell? (B8g (p.add (a.toNat*3)) 0)=some (.slice T V W)/\e.cell? (B8g (p.add (a.toNat*3)) 1)=some (.bool X)/\e.cell? (B8g (p.add (a.toNat*3)) 2)=some (.slice Z a0 a1)/\∃ (u:LP) (a2:LN),u [.slice m n o,I 0] e/\
 ∀ f g i b d,u [.slice f g i,I b] d->Br (decide (b<(s:Int))) (∃ c,N=some c/\0<=b/\b<(s:Int)/\∃ (a3:OA) (a4 a5:Nat) (a6:Bool) (a7:OA) (a8 a9:Nat),d.cell? (B8g (c.add (b.toNat*3)) 0)=some (.slice a3 a4 a5)/\d.cell? (B8g (c.add (b.toNat*3)) 1)=some (.bool a6)/\d.cell? (B8g (c.add (b.toNat*3)) 2)=some (.slice a7 a8 a9)/\FCall P Ur #[.agg #[.slice T V W,.bool X,.slice Z a0 a1],.agg #[.slice a3 a4 a5,.bool a6,.slice a7 a8 a9]] d (fun e5 e6=>∃ (b0:Bool) (b1:OA) (b2 b3:Nat) (b4:Bool) (b5:OA) (b6 b7:Nat),e5= .agg #[.bool b0,.slice b1 b2 b3,.bool b4,.slice b5 b6 b7]/\wpH P (B8i 95 1 #[(0,.agg #[.bool b0,.slice b1 b2 b3,.bool b4,.slice b5 b6 b7])]) (fun e7 e8=>∃ (b8:OA) (b9 c0:Nat),e7= .slice b8 b9 c0/\wpH P (B8j #[95,95] 95 #[.slice f g i,.slice b8 b9 c0]) (fun e9 c8=>∃ (v:OA) (w x:Nat),e9= .slice v w x/\u [.slice v w x,I (B5 (b+1))] c8/\a2 [.slice v w x,I (B5 (b+1))] c8<a2 [.slice f g i,I b] d) e8) e6))
 (t [.slice f g i,I (B5 (a+1))] d/\S [.slice f g i,I (B5 (a+1))] d<S [.slice m n o,I a] e))
 (FCall P Ng #[I q,I k,.slice m n o] e (fun f0 f1=>∃ (c1:Int) (c2:Int) (c3:OA) (c4 c5:Nat),f0= .agg #[I c1,I c2,.slice c3 c4 c5]/\K (.tuple #[.agg #[I c1,I c2,.slice c3 c4 c5],I 0]) f1))) c7))))))))
theorem B3i a b c d e f g i j k(hvc:B85 prog a b c d e f g i j k h K):FCall prog A5y #[.agg #[I a,I b,.slice c d e],.agg #[I f,I g,.slice i j k]] h K:=
 C6 bod func26 [.cell 4 25,.tmp 5] ⟨[(11,⟨[12,61],[],[.slice none 0 0,.int .i64 0],⟨([12,14,16]++Lrg 61 18),[14,16]⟩⟩),(14,⟨[12,67],[],[.slice none 0 0,.int .i64 0],⟨([12,16]++Lrg 67 11),[16]⟩⟩)],[],[(8,([0,1,2,3,4,6,7,5,8,9],[]))],[],[]⟩ 85 [2,3,4,14,16] [67,74,75,76,77] [] (by kernel_rfl) hvc
def Sw(P:Program)(i:OA)(c z:Nat)(h:Heap)(K:VP):Prop:=
 (wpH P (B8l 109 (I (c:Int)) (I (c:Int))) (fun b5 x=>∃ (j:OA) (k A:Nat),b5= .slice j k A/\Heap.le h x/\FCall P H8 #[.slice i c z] x (fun b6 a7=>∃ (l:Bool) (m:OA) (n o:Nat),b6= .agg #[.bool l,.slice m n o]/\Heap.le x a7/\∃ (p:LP) (B:LN),p [I 0] a7/\
 ∀ a d,p [I a] d->Br (decide (a<(c:Int))) (∃ f,i=some f/\0<=a/\a<(c:Int)/\∃ (C:Bool) (D:OA) (E F:Nat) (G:Bool) (H:OA) (J L:Nat),d.cell? (B8g (f.add (a.toNat*4)) 0)=some (.bool C)/\d.cell? (B8g (f.add (a.toNat*4)) 1)=some (.slice D E F)/\d.cell? (B8g (f.add (a.toNat*4)) 2)=some (.bool G)/\d.cell? (B8g (f.add (a.toNat*4)) 3)=some (.slice H J L)/\FCall P Ej #[.agg #[.bool C,.slice D E F,.bool G,.slice H J L],.agg #[.bool l,.slice m n o]] d (fun b7 a8=>∃ (M:Bool) (N:OA) (O Q:Nat),b7= .agg #[.bool M,.slice N O Q]/\Heap.le d a8/\∃ b3,j=some b3/\0<=a/\a<(k:Int)/\wpH P (B8h 102 (.pointer (some (b3.add (a.toNat*2)))) (.agg #[.bool M,.slice N O Q])) (fun _ a9=>p [I (B5 (a+1))] a9/\B [I (B5 (a+1))] a9<B [I a] d) a8))
 (K (.agg #[.slice j k A,.bool l,.slice m n o]) d))) h)/\(FCall P H8 #[.slice i c z] h (fun b8 y=>∃ (q:Bool) (r:OA) (s t:Nat),b8= .agg #[.bool q,.slice r s t]/\Heap.le h y/\wpH P (B8l 109 (I (c:Int)) (I (c:Int))) (fun b9 b0=>∃ (u:OA) (v R:Nat),b9= .slice u v R/\Heap.le y b0/\∃ (w:LP) (S:LN),w [I 0] b0/\
 ∀ b e,w [I b] e->Br (decide (b<(c:Int))) (∃ g,i=some g/\0<=b/\b<(c:Int)/\∃ (T:Bool) (V:OA) (W X:Nat) (Z:Bool) (a0:OA) (a1 a2:Nat),e.cell? (B8g (g.add (b.toNat*4)) 0)=some (.bool T)/\e.cell? (B8g (g.add (b.toNat*4)) 1)=some (.slice V W X)/\e.cell? (B8g (g.add (b.toNat*4)) 2)=some (.bool Z)/\e.cell? (B8g (g.add (b.toNat*4)) 3)=some (.slice a0 a1 a2)/\FCall P Ej #[.agg #[.bool T,.slice V W X,.bool Z,.slice a0 a1 a2],.agg #[.bool q,.slice r s t]] e (fun c0 b1=>∃ (a3:Bool) (a4:OA) (a5 a6:Nat),c0= .agg #[.bool a3,.slice a4 a5 a6]/\Heap.le e b1/\∃ b4,u=some b4/\0<=b/\b<(v:Int)/\wpH P (B8h 102 (.pointer (some (b4.add (b.toNat*2)))) (.agg #[.bool a3,.slice a4 a5 a6])) (fun _ b2=>w [I (B5 (b+1))] b2/\S [I (B5 (b+1))] b2<S [I b] e) b1))
 (K (.agg #[.slice u v R,.bool q,.slice r s t]) e)) y))
theorem Vs a b c(hvc:Sw prog a b c h K):FCall prog Em #[.slice a b c] h K:=
 C6 bod func151 [.cell 2 118] ⟨[(3,⟨[14],[],[.int .i64 0],⟨([4,5]++Lrg 14 14),[5]⟩⟩)],[],[(1,([0,1,3,6,2,4,5,7],[]))],[],[(1,[(2,[4])])]⟩ 29 [2,3,5] [136,137] [] (by kernel_rfl) hvc
def A2d(P:Program)(D:OA)(E F:Nat)(G:Int)(h:Heap)(K:VP):Prop:=
 wpH P (B8m 114 true (.tuple #[])) (fun L M=>∃ (a:Addr),L= .pointer (some a)/\FCall P Ni #[.slice D E F,I G] M (fun N O=>∃ (d:Value),N=d/\Yq P (d) O (fun (H:List Value) (b:Heap) (J:Heap->Prop)=>∃ (e:OA) (f g:Nat),H=[.slice e f g]/\∃ (i:OA) (j k:Nat),b.cell? a=some (.slice i j k)/\FCall P Em #[.slice e f g] b (fun Q c=>∃ (l:OA) (m n:Nat) (o:Bool) (p:OA) (q r:Nat),Q= .agg #[.slice l m n,.bool o,.slice p q r]/\Heap.le b c/\wpH P (B8i 114 1 #[(0,.agg #[.slice l m n,.bool o,.slice p q r])]) (fun R B=>∃ (s:OA) (t u:Nat),R= .slice s t u/\Heap.le c B/\wpH P (B8j #[114,114] 114 #[.slice i j k,.slice s t u]) (fun S T=>∃ (v:OA) (w x:Nat),S= .slice v w x/\wpH P (B8h 114 (.pointer (some a)) (.slice v w x)) (fun _ V=>J V) T) B) c))
 (fun C=>∃ (y:OA) (z A:Nat),C.cell? a=some (.slice y z A)/\K (.slice y z A) C))) h
theorem A14 a b c d(hvc:A2d prog a b c d h K):FCall prog Fx #[.slice a b c,I d] h K:=
 C6 bod func74 [.tmp 4] { rounds:=[(4,[.slice none 0 0])] } 17 [] [135,151] [1000000000] (by kernel_rfl) hvc
def A7u(P:Program)(l:Int)(c:Int)(W:OA)(X Z:Nat)(h:Heap)(K:VP):Prop:=
 FCall P Kk #[.agg #[I l,I c,.slice W X Z]] h (fun a2 Q=>∃ (d:OA) (e f:Nat) (m:Bool),a2= .tuple #[.slice d e f,.bool m]/\Br (!m) (K (.tuple #[.agg #[I 0,I 0,.slice none 0 0],.slice none 0 0,I 1]) Q)
 (FCall P Z5 #[.slice d e f,I c] Q (fun a3 a4=>∃ (g:OA),a3= .pointer g/\FCall P Ep #[.pointer g,I c] a4 (fun a5 R=>∃ (n:OA) (o p:Nat) (q:Bool) (r:OA) (s t:Nat) (a0:Int),a5= .tuple #[.slice n o p,.agg #[.bool q,.slice r s t],I a0]/\∃ T,g=some T/\∃ (u:OA) (i a1:Nat),R.cell? (T.add 1)=some (.slice u i a1)/\∃ (j:LP) (v:LN),j [I 0] R/\
 ∀ a b,j [I a] b->Br (decide (a<(i:Int))) (∃ k,u=some k/\0<=a/\a<(i:Int)/\∃ (w:Bool) (x:OA) (y z:Nat),b.cell? (B8g (k.add (a.toNat*2)) 0)=some (.bool w)/\b.cell? (B8g (k.add (a.toNat*2)) 1)=some (.slice x y z)/\FCall P S7 #[.agg #[.bool w,.slice x y z],.agg #[.bool q,.slice r s t]] b (fun a6 a7=>∃ (A:Bool) (B:OA) (C D:Nat) (E:Bool) (F:OA) (G H:Nat),a6= .agg #[.bool A,.slice B C D,.bool E,.slice F G H]/\∃ V,d=some V/\0<=a/\a<(e:Int)/\wpH P (B8h 106 (.pointer (some (V.add (a.toNat*4)))) (.agg #[.bool A,.slice B C D,.bool E,.slice F G H])) (fun _ S=>j [I (B5 (a+1))] S/\v [I (B5 (a+1))] S<v [I a] b) a7))
 (FCall P Ng #[I l,I c,.slice d e f] b (fun a8 a9=>∃ (J:Int) (L:Int) (M:OA) (N O:Nat),a8= .agg #[I J,I L,.slice M N O]/\K (.tuple #[.agg #[I J,I L,.slice M N O],.slice n o p,I 0]) a9))))))
theorem A3q a b c d e(hvc:A7u prog a b c d e h K):FCall prog Pa #[.agg #[I a,I b,.slice c d e]] h K:=
 C6 bod func59 [.cell 2 25,.tmp 3,.tmp 4] { loops:=[(7,⟨[38],[],[.int .i64 0],⟨([11,12]++Lrg 38 12),[12]⟩⟩)] } 57 [1,2,9,12] [67,68,69,77,132] [69] (by kernel_rfl) hvc
def B86(P:Program)(n:Int)(d:Int)(d0:OA)(d1 d2:Nat)(h:Heap)(K:VP):Prop:=
 FCall P Kk #[.agg #[I n,I d,.slice d0 d1 d2]] h (fun d6 J=>∃ (M:OA) (N O:Nat) (Q:Bool),d6= .tuple #[.slice M N O,.bool Q]/\Br (!Q) (K (.tuple #[.string ({ data:=#[] }:ByteArray),I 1]) J)
 (Br (n != d) (K (.tuple #[.string ({ data:=#[] }:ByteArray),I 4]) J)
 (FCall P Z5 #[.slice M N O,I d] J (fun d7 d8=>∃ (o:OA),d7= .pointer o/\FCall P Ep #[.pointer o,I d] d8 (fun d9 b8=>∃ (d3:OA) (R d4:Nat) (S:Bool) (T:OA) (V W:Nat) (X:Int),d9= .tuple #[.slice d3 R d4,.agg #[.bool S,.slice T V W],I X]/\Br (decide ((R:Int)<n)) (K (.tuple #[.string ({ data:=#[48] }:ByteArray),I 0]) b8)
 (FCall P Un #[.agg #[.bool S,.slice T V W]] b8 (fun e0 b9=>∃ (p:Bool) (q:OA) (r s:Nat) (t:Bool) (u:OA) (v w:Nat),e0= .agg #[.bool p,.slice q r s,.bool t,.slice u v w]/\∃ (x:LP),(Br (decide (X<(0:Int))) (FCall P A5w #[.agg #[.bool p,.slice q r s,.bool t,.slice u v w]] b9 (fun e1 e2=>∃ (Z:Bool) (a0:OA) (a1 a2:Nat) (a3:Bool) (a4:OA) (a5 a6:Nat),e1= .agg #[.bool Z,.slice a0 a1 a2,.bool a3,.slice a4 a5 a6]/\x [.bool Z,.slice a0 a1 a2,.bool a3,.slice a4 a5 a6] e2))
 (x [.bool p,.slice q r s,.bool t,.slice u v w] b9))/\
 ∀ c1 c2 c3 c4 c5 c6 c7 c8 L,x [.bool c1,.slice c2 c3 c4,.bool c5,.slice c6 c7 c8] L->∃ c9,o=some c9/\∃ (a7:OA) (y d5:Nat),L.cell? (c9.add 2)=some (.slice a7 y d5)/\∃ (z:LP) (a8:LN),z [I 0,.bool c1,.slice c2 c3 c4,.bool c5,.slice c6 c7 c8] L/\
 ∀ a e f g i j k l m b,z [I a,.bool e,.slice f g i,.bool j,.slice k l m] b->Br (decide (a<(y:Int))) (∃ c,a7=some c/\0<=a/\a<(y:Int)/\∃ (a9:Bool) (b0:OA) (b1 b2:Nat) (b3:Bool) (b4:OA) (b5 b6:Nat),b.cell? (B8g (c.add (a.toNat*4)) 0)=some (.bool a9)/\b.cell? (B8g (c.add (a.toNat*4)) 1)=some (.slice b0 b1 b2)/\b.cell? (B8g (c.add (a.toNat*4)) 2)=some (.bool b3)/\b.cell? (B8g (c.add (a.toNat*4)) 3)=some (.slice b4 b5 b6)/\FCall P A5x #[.agg #[.bool e,.slice f g i,.bool j,.slice k l m],.agg #[.bool a9,.slice b0 b1 b2,.bool b3,.slice b4 b5 b6]] b (fun e3 c0=>∃ (A:Bool) (B:OA) (C D:Nat) (E:Bool) (F:OA) (G H:Nat),e3= .agg #[.bool A,.slice B C D,.bool E,.slice F G H]/\z [I (B5 (a+1)),.bool A,.slice B C D,.bool E,.slice F G H] c0/\a8 [I (B5 (a+1)),.bool A,.slice B C D,.bool E,.slice F G H] c0<a8 [I a,.bool e,.slice f g i,.bool j,.slice k l m] b))
 (FCall P Ei #[.agg #[.bool e,.slice f g i,.bool j,.slice k l m]] b (fun e4 e5=>∃ (b7:ByteArray),e4= .string b7/\K (.tuple #[.string b7,I 0]) e5)))))))))
theorem B3j a b c d e(hvc:B86 prog a b c d e h K):FCall prog Sd #[.agg #[I a,I b,.slice c d e]] h K:=
 C6 bod func25 [.tmp 2,.tmp 3] ⟨[(14,⟨[53],[(10,4)],[.int .i64 0,.bool false,.slice none 0 0,.bool false,.slice none 0 0],⟨([12]++Lrg 53 8),[10,12]⟩⟩)],[(13,⟨[],[(10,4)],[.bool false,.slice none 0 0,.bool false,.slice none 0 0],⟨[44,45,46,47],[10]⟩⟩)],[],[],[]⟩ 63 [1,8,10,12] [67,68,69,70,71,72,73] [69] (by kernel_rfl) hvc
def Qh(P:Program)(M:OA)(s V:Nat)(N:Int)(d:Int)(h:Heap)(K:VP):Prop:=
 wpH P (B8l 95 (I 0) (I (s:Int))) (fun O Q=>∃ (t:OA) (u v:Nat),O= .slice t u v/\∃ (n:LP) (w:LN),n [.slice t u v,I 0] Q/\
 ∀ j k l a m,n [.slice j k l,I a] m->Br (decide (a<d)) (∃ (o:LP) (x:LN),o [.slice j k l,I 0] m/\
 ∀ e f g b c,o [.slice e f g,I b] c->Br (decide (b<N)) (∃ i,M=some i/\0<=B5 ((B5 (b*d))+a)/\B5 ((B5 (b*d))+a)<(s:Int)/\∃ (y:Bool) (z:OA) (A B:Nat) (C:Bool) (D:OA) (E F:Nat),c.cell? (B8g (i.add ((B5 ((B5 (b*d))+a)).toNat*4)) 0)=some (.bool y)/\c.cell? (B8g (i.add ((B5 ((B5 (b*d))+a)).toNat*4)) 1)=some (.slice z A B)/\c.cell? (B8g (i.add ((B5 ((B5 (b*d))+a)).toNat*4)) 2)=some (.bool C)/\c.cell? (B8g (i.add ((B5 ((B5 (b*d))+a)).toNat*4)) 3)=some (.slice D E F)/\wpH P (B8i 95 1 #[(0,.agg #[.bool y,.slice z A B,.bool C,.slice D E F])]) (fun R S=>∃ (G:OA) (H J:Nat),R= .slice G H J/\wpH P (B8j #[95,95] 95 #[.slice e f g,.slice G H J]) (fun T L=>∃ (p:OA) (q r:Nat),T= .slice p q r/\o [.slice p q r,I (B5 (b+1))] L/\x [.slice p q r,I (B5 (b+1))] L<x [.slice e f g,I b] c) S) c)
 (n [.slice e f g,I (B5 (a+1))] c/\w [.slice e f g,I (B5 (a+1))] c<w [.slice j k l,I a] m))
 (K (.slice j k l) m)) h
theorem Rf a b c d e(hvc:Qh prog a b c d e h K):FCall prog X5 #[.slice a b c,I d,I e] h K:=
 C6 bod func75 [.tmp 6] { loops:=[(3,⟨[7,14],[],[.slice none 0 0,.int .i64 0],⟨([7,8,9]++Lrg 14 20),[]⟩⟩),(6,⟨[7,18],[],[.slice none 0 0,.int .i64 0],⟨([7,9]++Lrg 18 15),[]⟩⟩)] } 35 [] [] [] (by kernel_rfl) hvc
def B1j(P:Program)(N:OA)(j a7:Nat)(O:Bool)(Q:OA)(R S:Nat)(T:OA)(V a8:Nat)(W:Bool)(X:OA)(Z a0:Nat)(h:Heap)(K:VP):Prop:=
 wpH P (B8m 203 true (.tuple #[])) (fun a1 a2=>∃ (c:Addr),a1= .pointer (some c)/\∃ (d:LP) (k:LN),d [I 0] a2/\
 ∀ a b,d [I a] b->Br (decide (a<(j:Int))) (∃ g,N=some g/\0<=a/\a<(j:Int)/\∃ (l:Bool) (m:OA) (n o:Nat),b.cell? (B8g (g.add (a.toNat*2)) 0)=some (.bool l)/\b.cell? (B8g (g.add (a.toNat*2)) 1)=some (.slice m n o)/\∃ i,T=some i/\0<=a/\a<(V:Int)/\∃ (p:Bool) (q:OA) (r s:Nat),b.cell? (B8g (i.add (a.toNat*2)) 0)=some (.bool p)/\b.cell? (B8g (i.add (a.toNat*2)) 1)=some (.slice q r s)/\FCall P Q9 #[.pointer (some c),.agg #[.bool l,.slice m n o],.agg #[.bool p,.slice q r s]] b (fun a3 L=>a3= .tuple #[]/\d [I (B5 (a+1))] L/\k [I (B5 (a+1))] L<k [I a] b))
 (FCall P Nd #[.pointer (some c)] b (fun a4 e=>∃ (t:Bool) (u:OA) (v w:Nat),a4= .agg #[.bool t,.slice u v w]/\Heap.le b e/\FCall P Lf #[.agg #[.bool O,.slice Q R S],.agg #[.bool W,.slice X Z a0]] e (fun a5 f=>∃ (x:Bool) (y:OA) (z A:Nat),a5= .agg #[.bool x,.slice y z A]/\Heap.le e f/\FCall P S7 #[.agg #[.bool t,.slice u v w],.agg #[.bool x,.slice y z A]] f (fun a6 M=>∃ (B:Bool) (C:OA) (D E:Nat) (F:Bool) (G:OA) (H J:Nat),a6= .agg #[.bool B,.slice C D E,.bool F,.slice G H J]/\Heap.le f M/\K (.agg #[.bool B,.slice C D E,.bool F,.slice G H J]) M))))) h
theorem A7t a b c d e f g i j k l m n o(hvc:B1j prog a b c d e f g i j k l m n o h K):FCall prog Ur #[.agg #[.slice a b c,.bool d,.slice e f g],.agg #[.slice i j k,.bool l,.slice m n o]] h K:=
 C6 bod func76 [.cell 4 106] ⟨[(3,⟨[11],[],[.int .i64 0],⟨([6,7]++Lrg 11 13),[7]⟩⟩)],[],[(7,([1,2,3,4,0,5,6,7],[]))],[],[]⟩ 31 [2,3,4,7] [132,152,153,154] [152] (by kernel_rfl) hvc
def Yu(P:Program)(m3:OA)(m4 m5:Nat)(b7:Int)(h:Heap)(K:VP):Prop:=
 wpH P (Instr.box 111 (.agg #[I b7,.slice none 0 0,.slice none 0 0])) (fun n1 n2=>∃ (b8:Addr),n1= .pointer (some b8)/\wpH P (B8m 98 true (.tuple #[])) (fun n3 n4=>∃ (b:Addr),n3= .pointer (some b)/\wpH P (B8h 98 (.pointer (some b)) (.pointer (some b8))) (fun _ n5=>FCall P Ni #[.slice m3 m4 m5,I b7] n5 (fun n6 n7=>∃ (b9:Value),n6=b9/\Yq P (b9) n7 (fun (m6:List Value) (m7:Heap) (x:Heap->Prop)=>∃ (W:OA) (y c0:Nat),m6=[.slice W y c0]/\FCall P H8 #[.slice W y c0] m7 (fun n8 b4=>∃ (z:Bool) (A:OA) (B C:Nat),n8= .agg #[.bool z,.slice A B C]/\∃ (c1:OA),b4.cell? b=some (.pointer c1)/\∃ l0,c1=some l0/\∃ (m8:OA) (f m9:Nat),b4.cell? (l0.add 1)=some (.slice m8 f m9)/\∃ (s:LP) (q:LN),s [I 0,.bool false,.slice none 0 0] b4/\
 ∀ a m n o p e,s [I a,.bool m,.slice n o p] e->Br (decide (a<(y:Int))) (∃ w,W=some w/\0<=a/\a<(y:Int)/\∃ (c2:Bool) (c3:OA) (c4 c5:Nat) (c6:Bool) (c7:OA) (c8 c9:Nat),e.cell? (B8g (w.add (a.toNat*4)) 0)=some (.bool c2)/\e.cell? (B8g (w.add (a.toNat*4)) 1)=some (.slice c3 c4 c5)/\e.cell? (B8g (w.add (a.toNat*4)) 2)=some (.bool c6)/\e.cell? (B8g (w.add (a.toNat*4)) 3)=some (.slice c7 c8 c9)/\FCall P Ej #[.agg #[.bool c2,.slice c3 c4 c5,.bool c6,.slice c7 c8 c9],.agg #[.bool z,.slice A B C]] e (fun n9 o0=>∃ (D:Bool) (E:OA) (F G:Nat),n9= .agg #[.bool D,.slice E F G]/\FCall P Ow #[.agg #[.bool m,.slice n o p],.agg #[.bool D,.slice E F G]] o0 (fun o1 l=>∃ (g:Bool) (i:OA) (j k:Nat),o1= .agg #[.bool g,.slice i j k]/\∃ (d0:OA),l.cell? b=some (.pointer d0)/\∃ l1,d0=some l1/\∃ (H:OA) (J L:Nat),l.cell? (l1.add 1)=some (.slice H J L)/\(∃ (d1:OA),l.cell? b=some (.pointer d1)/\wpH P (B8i 109 1 #[(0,.agg #[.bool D,.slice E F G])]) (fun o2 j8=>∃ (d2:OA) (d3 d4:Nat),o2= .slice d2 d3 d4/\Heap.le l j8/\wpH P (B8j #[109,109] 109 #[.slice H J L,.slice d2 d3 d4]) (fun o3 o4=>∃ (d5:OA) (d6 d7:Nat),o3= .slice d5 d6 d7/\∃ l2,d1=some l2/\wpH P (B8h 109 (.pointer (some (l2.add 1))) (.slice d5 d6 d7)) (fun _ j9=>s [I (B5 (a+1)),.bool g,.slice i j k] j9/\q [I (B5 (a+1)),.bool g,.slice i j k] j9<q [I a,.bool m,.slice n o p] e) o4) j8) l)/\(wpH P (B8i 109 1 #[(0,.agg #[.bool D,.slice E F G])]) (fun o5 N=>∃ (X:OA) (Z a0:Nat),o5= .slice X Z a0/\Heap.le l N/\(∃ (d8:OA),N.cell? b=some (.pointer d8)/\wpH P (B8j #[109,109] 109 #[.slice H J L,.slice X Z a0]) (fun o6 o7=>∃ (d9:OA) (e0 e1:Nat),o6= .slice d9 e0 e1/\∃ l3,d8=some l3/\wpH P (B8h 109 (.pointer (some (l3.add 1))) (.slice d9 e0 e1)) (fun _ k0=>s [I (B5 (a+1)),.bool g,.slice i j k] k0/\q [I (B5 (a+1)),.bool g,.slice i j k] k0<q [I a,.bool m,.slice n o p] e) o7) N)/\(wpH P (B8j #[109,109] 109 #[.slice H J L,.slice X Z a0]) (fun o8 k1=>∃ (e2:OA) (e3 e4:Nat),o8= .slice e2 e3 e4/\∃ (e5:OA),k1.cell? b=some (.pointer e5)/\∃ l4,e5=some l4/\wpH P (B8h 109 (.pointer (some (l4.add 1))) (.slice e2 e3 e4)) (fun _ k2=>s [I (B5 (a+1)),.bool g,.slice i j k] k2/\q [I (B5 (a+1)),.bool g,.slice i j k] k2<q [I a,.bool m,.slice n o p] e) k1) N)) l))))
 (∃ (a1:LP),(FCall P F8 #[.agg #[.bool m,.slice n o p]] e (fun o9 k3=>∃ (e6:Bool),o9= .bool e6/\Br e6 (FCall P Sb #[I 1] k3 (fun p0 p1=>∃ (e7:Bool) (e8:OA) (e9 f0:Nat),p0= .agg #[.bool e7,.slice e8 e9 f0]/\a1 [.bool e7,.slice e8 e9 f0] p1))
 (a1 [.bool m,.slice n o p] k3)))/\
 ∀ Q R S T V,a1 [.bool Q,.slice R S T] V->∃ (f1:OA),V.cell? b=some (.pointer f1)/\∃ l5,f1=some l5/\∃ (f2:OA) (M f3:Nat),V.cell? (l5.add 1)=some (.slice f2 M f3)/\(0<=(f:Int)/\(f:Int)<=(M:Int))/\∃ (a2:LP) (f4:LN),a2 [I 0] V/\
 ∀ d c,a2 [I d] c->Br (decide (d<((M-(((f:Int)).toNat):Nat):Int))) (∃ b6,J1 f2 f3 (((f:Int)).toNat) 2=some b6/\0<=d/\d<((M-(((f:Int)).toNat):Nat):Int)/\∃ (f5:Bool) (f6:OA) (f7 f8:Nat),c.cell? (B8g (b6.add (d.toNat*2)) 0)=some (.bool f5)/\c.cell? (B8g (b6.add (d.toNat*2)) 1)=some (.slice f6 f7 f8)/\∃ (f9:OA),c.cell? b=some (.pointer f9)/\∃ l6,f9=some l6/\∃ (g0:OA) (g1 n0:Nat),c.cell? (l6.add 1)=some (.slice g0 g1 n0)/\FCall P Ir #[.agg #[.bool f5,.slice f6 f7 f8],.agg #[.bool Q,.slice R S T]] c (fun p2 k4=>∃ (g2:Bool) (g3:OA) (g4 g5:Nat),p2= .agg #[.bool g2,.slice g3 g4 g5]/\Heap.le c k4/\∃ l7,g0=some l7/\0<=B5 ((f:Int)+d)/\B5 ((f:Int)+d)<(g1:Int)/\wpH P (B8h 102 (.pointer (some (l7.add ((B5 ((f:Int)+d)).toNat*2)))) (.agg #[.bool g2,.slice g3 g4 g5])) (fun _ k5=>a2 [I (B5 (d+1))] k5/\f4 [I (B5 (d+1))] k5<f4 [I d] c) k4))
 (∃ (g6:OA),c.cell? b=some (.pointer g6)/\∃ l8,g6=some l8/\∃ (t:OA) (u v:Nat),c.cell? (l8.add 2)=some (.slice t u v)/\(∃ (g7:OA),c.cell? b=some (.pointer g7)/\FCall P S7 #[.agg #[.bool z,.slice A B C],.agg #[.bool Q,.slice R S T]] c (fun p3 b5=>∃ (g8:Bool) (g9:OA) (h0 h1:Nat) (h2:Bool) (h3:OA) (h4 h5:Nat),p3= .agg #[.bool g8,.slice g9 h0 h1,.bool h2,.slice h3 h4 h5]/\Heap.le c b5/\wpH P (B8i 95 1 #[(0,.agg #[.bool g8,.slice g9 h0 h1,.bool h2,.slice h3 h4 h5])]) (fun p4 k6=>∃ (h6:OA) (h7 h8:Nat),p4= .slice h6 h7 h8/\Heap.le b5 k6/\wpH P (B8j #[95,95] 95 #[.slice t u v,.slice h6 h7 h8]) (fun p5 p6=>∃ (h9:OA) (i0 i1:Nat),p5= .slice h9 i0 i1/\∃ l9,g7=some l9/\wpH P (B8h 95 (.pointer (some (l9.add 2))) (.slice h9 i0 i1)) (fun _ p7=>x p7) p6) k6) b5))/\(FCall P S7 #[.agg #[.bool z,.slice A B C],.agg #[.bool Q,.slice R S T]] c (fun p8 r=>∃ (a3:Bool) (a4:OA) (a5 a6:Nat) (a7:Bool) (a8:OA) (a9 b0:Nat),p8= .agg #[.bool a3,.slice a4 a5 a6,.bool a7,.slice a8 a9 b0]/\Heap.le c r/\(∃ (i2:OA),r.cell? b=some (.pointer i2)/\wpH P (B8i 95 1 #[(0,.agg #[.bool a3,.slice a4 a5 a6,.bool a7,.slice a8 a9 b0])]) (fun p9 k7=>∃ (i3:OA) (i4 i5:Nat),p9= .slice i3 i4 i5/\Heap.le r k7/\wpH P (B8j #[95,95] 95 #[.slice t u v,.slice i3 i4 i5]) (fun q0 q1=>∃ (i6:OA) (i7 i8:Nat),q0= .slice i6 i7 i8/\∃ m0,i2=some m0/\wpH P (B8h 95 (.pointer (some (m0.add 2))) (.slice i6 i7 i8)) (fun _ q2=>x q2) q1) k7) r)/\(wpH P (B8i 95 1 #[(0,.agg #[.bool a3,.slice a4 a5 a6,.bool a7,.slice a8 a9 b0])]) (fun q3 O=>∃ (b1:OA) (b2 b3:Nat),q3= .slice b1 b2 b3/\Heap.le r O/\(∃ (i9:OA),O.cell? b=some (.pointer i9)/\wpH P (B8j #[95,95] 95 #[.slice t u v,.slice b1 b2 b3]) (fun q4 q5=>∃ (j0:OA) (j1 j2:Nat),q4= .slice j0 j1 j2/\∃ m1,i9=some m1/\wpH P (B8h 95 (.pointer (some (m1.add 2))) (.slice j0 j1 j2)) (fun _ q6=>x q6) q5) O)/\(wpH P (B8j #[95,95] 95 #[.slice t u v,.slice b1 b2 b3]) (fun q7 k8=>∃ (j3:OA) (j4 j5:Nat),q7= .slice j3 j4 j5/\∃ (j6:OA),k8.cell? b=some (.pointer j6)/\∃ m2,j6=some m2/\wpH P (B8h 95 (.pointer (some (m2.add 2))) (.slice j3 j4 j5)) (fun _ q8=>x q8) k8) O)) r)))))))
 (fun k9=>∃ (j7:OA),k9.cell? b=some (.pointer j7)/\K (.pointer j7) k9))) n4) n2) h
theorem Yt a b c d(hvc:Yu prog a b c d h K):FCall prog Z5 #[.slice a b c,I d] h K:=
 C6 bod func68 [.tmp 4] ⟨[(8,⟨[31],[(9,2)],[.int .i64 0,.bool false,.slice none 0 0],⟨([11,12]++Lrg 31 21),[9,11,12]⟩⟩),(17,⟨[62],[],[.int .i64 0],⟨([13,14]++Lrg 62 17),[14]⟩⟩)],[(16,⟨[],[(9,2)],[.bool false,.slice none 0 0],⟨[52,53,54],[9]⟩⟩)],[(12,([1,2,3,4,5,0,6,7,8,9,10],[])),(21,([1,2,3,4,5,6,0,7,8,9,10,11,12],[]))],[(4,[.slice none 0 0])],[(12,[(0,[6,7])]),(21,[(0,[7,8,9])])]⟩ 92 [7,9,11,12,14] [115,132,135,136,137,138,139,140] [1000000000] (by kernel_rfl) hvc
def B88(P:Program)(e:OA)(a:Int)(h:Heap)(K:VP):Prop:=
 ∃ g,e=some g/\∃ (f:OA) (k d:Nat),h.cell? (g.add 1)=some (.slice f k d)/\∃ i,e=some i/\∃ b,h.cell? (i.add 0)=some (I b)/\∃ j,e=some j/\∃ c,h.cell? (j.add 0)=some (I c)/\(0<=B5 ((B5 (a+1))*c)/\B5 ((B5 (a+1))*c)<=(d:Int))/\(0<=B5 (a*b)/\B5 (a*b)<=(((B5 ((B5 (a+1))*c)).toNat:Nat):Int))/\K (.slice (J1 f d ((B5 (a*b)).toNat) 2) (((B5 ((B5 (a+1))*c)).toNat)-((B5 (a*b)).toNat)) (d-((B5 (a*b)).toNat))) h
theorem B3l a b(hvc:B88 prog a b h K):FCall prog Ll #[.pointer a,I b] h K:=
 C6 bod func144 [.tmp 4] an0 23 [] [] [] (by kernel_rfl) hvc
def B5m(P:Program)(e:OA)(c:Int)(d:Int)(h:Heap)(K:VP):Prop:=
 FCall P Ll #[.pointer e,I c] h (fun b6 b7=>∃ (j:OA) (i b0:Nat),b6= .slice j i b0/\FCall P Ll #[.pointer e,I d] b7 (fun b8 b9=>∃ (k:OA) (l b1:Nat),b8= .slice k l b1/\∃ (m:LP) (p:LN),m [I 0] b9/\
 ∀ b a,m [I b] a->Br (decide (b<(i:Int))) (∃ n,k=some n/\0<=b/\b<(l:Int)/\∃ (q:Bool) (r:OA) (s t:Nat),a.cell? (B8g (n.add (b.toNat*2)) 0)=some (.bool q)/\a.cell? (B8g (n.add (b.toNat*2)) 1)=some (.slice r s t)/\∃ o,j=some o/\0<=b/\b<(i:Int)/\∃ (u:Bool) (v:OA) (w x:Nat),a.cell? (B8g (o.add (b.toNat*2)) 0)=some (.bool u)/\a.cell? (B8g (o.add (b.toNat*2)) 1)=some (.slice v w x)/\∃ a2,j=some a2/\0<=b/\b<(i:Int)/\wpH P (B8h 102 (.pointer (some (a2.add (b.toNat*2)))) (.agg #[.bool q,.slice r s t])) (fun _ c0=>∃ a3,k=some a3/\0<=b/\b<(l:Int)/\wpH P (B8h 102 (.pointer (some (a3.add (b.toNat*2)))) (.agg #[.bool u,.slice v w x])) (fun _ a1=>m [I (B5 (b+1))] a1/\p [I (B5 (b+1))] a1<p [I b] a) c0) a)
 (∃ a4,e=some a4/\∃ (y:OA) (z b2:Nat),a.cell? (a4.add 2)=some (.slice y z b2)/\∃ a5,e=some a5/\∃ (A:OA) (B b3:Nat),a.cell? (a5.add 2)=some (.slice A B b3)/\∃ a6,e=some a6/\∃ (C:OA) (D b4:Nat),a.cell? (a6.add 2)=some (.slice C D b4)/\∃ f,C=some f/\0<=d/\d<(D:Int)/\∃ (E:Bool) (F:OA) (G H:Nat) (J:Bool) (L:OA) (M N:Nat),a.cell? (B8g (f.add (d.toNat*4)) 0)=some (.bool E)/\a.cell? (B8g (f.add (d.toNat*4)) 1)=some (.slice F G H)/\a.cell? (B8g (f.add (d.toNat*4)) 2)=some (.bool J)/\a.cell? (B8g (f.add (d.toNat*4)) 3)=some (.slice L M N)/\∃ a7,e=some a7/\∃ (O:OA) (Q b5:Nat),a.cell? (a7.add 2)=some (.slice O Q b5)/\∃ g,O=some g/\0<=c/\c<(Q:Int)/\∃ (R:Bool) (S:OA) (T V:Nat) (W:Bool) (X:OA) (Z a0:Nat),a.cell? (B8g (g.add (c.toNat*4)) 0)=some (.bool R)/\a.cell? (B8g (g.add (c.toNat*4)) 1)=some (.slice S T V)/\a.cell? (B8g (g.add (c.toNat*4)) 2)=some (.bool W)/\a.cell? (B8g (g.add (c.toNat*4)) 3)=some (.slice X Z a0)/\∃ a8,y=some a8/\0<=c/\c<(z:Int)/\wpH P (B8h 106 (.pointer (some (a8.add (c.toNat*4)))) (.agg #[.bool E,.slice F G H,.bool J,.slice L M N])) (fun _ c1=>∃ a9,A=some a9/\0<=d/\d<(B:Int)/\wpH P (B8h 106 (.pointer (some (a9.add (d.toNat*4)))) (.agg #[.bool R,.slice S T V,.bool W,.slice X Z a0])) (fun _ c2=>K (.tuple #[]) c2) c1) a)))
theorem B03 a b c(hvc:B5m prog a b c h K):FCall prog A0f #[.pointer a,I b,I c] h K:=
 C6 bod func142 [] { loops:=[(2,⟨[17],[],[.int .i64 0],⟨([8]++Lrg 17 18),[]⟩⟩)] } 61 [] [144] [] (by kernel_rfl) hvc
def B5n(P:Program)(i:OA)(t:Int)(c:Int)(h:Heap)(K:VP):Prop:=
 ∃ (d:LP) (j:LN),d [I t] h/\
 ∀ a b,d [I a] b->∃ s,i=some s/\∃ (u:OA) (k v:Nat),b.cell? (s.add 2)=some (.slice u k v)/\Br (decide (a<(k:Int))) (FCall P Ll #[.pointer i,I a] b (fun x e=>∃ (l:OA) (m w:Nat),x= .slice l m w/\∃ g,l=some g/\0<=c/\c<(m:Int)/\∃ (n:Bool) (o:OA) (p q:Nat),e.cell? (B8g (g.add (c.toNat*2)) 0)=some (.bool n)/\e.cell? (B8g (g.add (c.toNat*2)) 1)=some (.slice o p q)/\FCall P F8 #[.agg #[.bool n,.slice o p q]] e (fun y f=>∃ (r:Bool),y= .bool r/\Br (!r) (K (.tuple #[I a,.bool true]) f)
 (d [I (B5 (a+1))] f/\j [I (B5 (a+1))] f<j [I a] b))))
 (K (.tuple #[I 0,.bool false]) b)
theorem B04 a b c(hvc:B5n prog a b c h K):FCall prog A0g #[.pointer a,I b,I c] h K:=
 C6 bod func141 [.tmp 6,.tmp 7] { loops:=[(2,⟨[8],[],[.int .i64 0],⟨([6,7,8]++Lrg 10 18),[]⟩⟩)] } 28 [] [138,144] [] (by kernel_rfl) hvc
def B1s(P:Program)(F:OA)(b4:Int)(b5:Int)(b:Int)(b6:Bool)(b7:OA)(b8 b9:Nat)(h:Heap)(K:VP):Prop:=
 FCall P Ll #[.pointer F,I b4] h (fun c2 c3=>∃ (i:OA) (e c0:Nat),c2= .slice i e c0/\FCall P Ll #[.pointer F,I b5] c3 (fun c4 v=>∃ (j:OA) (k c1:Nat),c4= .slice j k c1/\∃ A,i=some A/\0<=b/\b<(e:Int)/\∃ (m:Bool) (n:OA) (o p:Nat),v.cell? (B8g (A.add (b.toNat*2)) 0)=some (.bool m)/\v.cell? (B8g (A.add (b.toNat*2)) 1)=some (.slice n o p)/\∃ (f:LP) (d:LN),f [I 0] v/\
 ∀ a c,f [I a] c->Br (decide (a<(e:Int))) (∃ B,i=some B/\0<=a/\a<(e:Int)/\∃ (q:Bool) (r:OA) (s t:Nat),c.cell? (B8g (B.add (a.toNat*2)) 0)=some (.bool q)/\c.cell? (B8g (B.add (a.toNat*2)) 1)=some (.slice r s t)/\∃ (u:LP),(FCall P F8 #[.agg #[.bool q,.slice r s t]] c (fun c5 a8=>∃ (G:Bool),c5= .bool G/\Br G (FCall P F8 #[.agg #[.bool m,.slice n o p]] a8 (fun c6 g=>∃ (H:Bool),c6= .bool H/\Br H (f [I (B5 (a+1))] g/\d [I (B5 (a+1))] g<d [I a] c)
 (∃ C,j=some C/\0<=a/\a<(k:Int)/\∃ (J:Bool) (L:OA) (M N:Nat),g.cell? (B8g (C.add (a.toNat*2)) 0)=some (.bool J)/\g.cell? (B8g (C.add (a.toNat*2)) 1)=some (.slice L M N)/\FCall P F8 #[.agg #[.bool J,.slice L M N]] g (fun c7 w=>∃ (O:Bool),c7= .bool O/\Br O (f [I (B5 (a+1))] w/\d [I (B5 (a+1))] w<d [I a] c)
 (u [] w)))))
 (u [] a8)))/\
 ∀ b2,u [] b2->wpH P (B8m 203 true (.tuple #[])) (fun c8 x=>∃ (l:Addr),c8= .pointer (some l)/\∃ D,j=some D/\0<=b/\b<(k:Int)/\∃ (Q:Bool) (R:OA) (S T:Nat),x.cell? (B8g (D.add (b.toNat*2)) 0)=some (.bool Q)/\x.cell? (B8g (D.add (b.toNat*2)) 1)=some (.slice R S T)/\FCall P Q9 #[.pointer (some l),.agg #[.bool Q,.slice R S T],.agg #[.bool q,.slice r s t]] x (fun c9 y=>c9= .tuple #[]/\∃ E,j=some E/\0<=a/\a<(k:Int)/\∃ (V:Bool) (W:OA) (X Z:Nat),y.cell? (B8g (E.add (a.toNat*2)) 0)=some (.bool V)/\y.cell? (B8g (E.add (a.toNat*2)) 1)=some (.slice W X Z)/\FCall P Cu #[.pointer (some l),.agg #[.bool m,.slice n o p],.agg #[.bool V,.slice W X Z]] y (fun d0 a9=>d0= .tuple #[]/\FCall P Nd #[.pointer (some l)] a9 (fun d1 z=>∃ (a0:Bool) (a1:OA) (a2 a3:Nat),d1= .agg #[.bool a0,.slice a1 a2 a3]/\Heap.le a9 z/\FCall P Ir #[.agg #[.bool a0,.slice a1 a2 a3],.agg #[.bool b6,.slice b7 b8 b9]] z (fun d2 b0=>∃ (a4:Bool) (a5:OA) (a6 a7:Nat),d2= .agg #[.bool a4,.slice a5 a6 a7]/\Heap.le z b0/\∃ b3,i=some b3/\0<=a/\a<(e:Int)/\wpH P (B8h 102 (.pointer (some (b3.add (a.toNat*2)))) (.agg #[.bool a4,.slice a5 a6 a7])) (fun _ b1=>f [I (B5 (a+1))] b1/\d [I (B5 (a+1))] b1<d [I a] c) b0))))) b2)
 (K (.tuple #[]) c)))
theorem A86 a b c d e f g i(hvc:B1s prog a b c d e f g i h K):FCall prog Uu #[.pointer a,I b,I c,I d,.agg #[.bool e,.slice f g i]] h K:=
 C6 bod func143 [] ⟨[(4,⟨[28],[],[.int .i64 0],⟨([13,14,15]++Lrg 28 37),[14]⟩⟩)],[(7,⟨[],[],[],⟨(Lrg 33 13),[]⟩⟩)],[(10,([0,1,3,2,4,5,6],[]))],[],[]⟩ 65 [9,12,14] [138,140,144,152,153,196] [152,196] (by kernel_rfl) hvc
def A82(P:Program)(m:OA)(Z:Int)(h:Heap)(K:VP):Prop:=
 FCall P Sb #[I 1] h (fun a3 a4=>∃ (G:Bool) (H:OA) (J L:Nat),a3= .agg #[.bool G,.slice H J L]/\∃ (o:LP) (p:LN),o [.slice none 0 0,I 1,I 0,.bool G,.slice H J L] a4/\
 ∀ e b f d a g i j k n,o [.slice e b f,I d,I a,.bool g,.slice i j k] n->Br (decide (a<Z)) (FCall P A0g #[.pointer m,I (b:Int),I a] n (fun a5 s=>∃ (t:Int) (M:Bool),a5= .tuple #[I t,.bool M]/\Br (!M) (o [.slice e b f,I d,I (B5 (a+1)),.bool g,.slice i j k] s/\p [.slice e b f,I d,I (B5 (a+1)),.bool g,.slice i j k] s<p [.slice e b f,I d,I a,.bool g,.slice i j k] n)
 (∃ (u:LP),(Br (t != (b:Int)) (FCall P A0f #[.pointer m,I (b:Int),I t] s (fun a6 a7=>a6= .tuple #[]/\u [I (B5 (0-d))] a7))
 (u [I d] s))/\
 ∀ D E,u [I D] E->∃ X,m=some X/\∃ (a0:OA) (N a1:Nat),E.cell? (X.add 2)=some (.slice a0 N a1)/\∃ (q:LP) (r:LN),q [I 0] E/\
 ∀ c l,q [I c] l->Br (decide (c<(N:Int))) (Br (c != (b:Int)) (FCall P Uu #[.pointer m,I c,I (b:Int),I a,.agg #[.bool g,.slice i j k]] l (fun a8 V=>a8= .tuple #[]/\q [I (B5 (c+1))] V/\r [I (B5 (c+1))] V<r [I c] l))
 (q [I (B5 (c+1))] l/\r [I (B5 (c+1))] l<r [I c] l))
 (FCall P Ll #[.pointer m,I (b:Int)] l (fun a9 C=>∃ (O:OA) (Q a2:Nat),a9= .slice O Q a2/\∃ F,O=some F/\0<=a/\a<(Q:Int)/\∃ (v:Bool) (w:OA) (x y:Nat),C.cell? (B8g (F.add (a.toNat*2)) 0)=some (.bool v)/\C.cell? (B8g (F.add (a.toNat*2)) 1)=some (.slice w x y)/\wpH P (B8i 45 1 #[(0,I a)]) (fun b0 b1=>∃ (R:OA) (S T:Nat),b0= .slice R S T/\wpH P (B8j #[45,45] 45 #[.slice e b f,.slice R S T]) (fun b2 W=>∃ (z:OA) (A B:Nat),b2= .slice z A B/\o [.slice z A B,I D,I (B5 (a+1)),.bool v,.slice w x y] W/\p [.slice z A B,I D,I (B5 (a+1)),.bool v,.slice w x y] W<p [.slice e b f,I d,I a,.bool g,.slice i j k] n) b1) C)))))
 (K (.tuple #[.slice e b f,.agg #[.bool g,.slice i j k],I d]) n))
theorem A3t a b(hvc:A82 prog a b h K):FCall prog Ep #[.pointer a,I b] h K:=
 C6 bod func69 [.tmp 4,.cell 5 102,.tmp 6] ⟨[(4,⟨[7,9,17],[(8,2)],[.slice none 0 0,.int .i64 0,.int .i64 0,.bool false,.slice none 0 0],⟨([7,9,10,11,12,13,14]++Lrg 17 52),[8]⟩⟩),(13,⟨[45],[],[.int .i64 0],⟨([14]++Lrg 45 13),[]⟩⟩)],[(12,⟨[9],[],[.int .i64 0],⟨([9]++Lrg 31 9),[]⟩⟩)],[],[],[]⟩ 72 [5,8] [139,141,142,143,144] [142,143] (by kernel_rfl) hvc
def B1k(P:Program)(e:OA)(f g:Nat)(i:Int)(h:Heap)(K:VP):Prop:=
 wpH P (Instr.box 95 (.slice e f g)) (fun j k=>∃ (b:Addr),j= .pointer (some b)/\wpH P (Instr.box 3 (I i)) (fun l d=>∃ (a:Addr),l= .pointer (some a)/\∃ (c:Int),d.cell? a=some (I c)/\Br (decide (c<(1:Int))) (False)
 (K (.func (.func 191) #[] #[.pointer (some b),.pointer (some a)]) d)) k) h
theorem A7v a b c d(hvc:B1k prog a b c d h K):FCall prog Ni #[.slice a b c,I d] h K:=
 C6 bod func135 [.tmp 4] an0 9 [] [] [] (by kernel_rfl) hvc
def A7w(P:Program)(p:Nat)(f:Addr)(j:Addr)(h:Heap)(K:VP):Prop:=
 ∃ (g:LP) (k:LN),g [I 0] h/\
 ∀ a d,g [I a] d->∃ (q:OA) (l r:Nat),d.cell? f=some (.slice q l r)/\Br (decide (a<(l:Int))) (∃ (c:Int),d.cell? j=some (I c)/\∃ (s:OA) (b t:Nat),d.cell? f=some (.slice s b t)/\(0<=a/\a<=(b:Int))/\∃ (m:OA) (u n:Nat),d.cell? f=some (.slice m u n)/\(0<=B5 (a+(if ((b-(a.toNat):Nat):Int)<c then ((b-(a.toNat):Nat):Int) else c))/\B5 (a+(if ((b-(a.toNat):Nat):Int)<c then ((b-(a.toNat):Nat):Int) else c))<=(n:Int))/\(0<=B5 (a+(if ((b-(a.toNat):Nat):Int)<c then ((b-(a.toNat):Nat):Int) else c))/\B5 (a+(if ((b-(a.toNat):Nat):Int)<c then ((b-(a.toNat):Nat):Int) else c))<=(((B5 (a+(if ((b-(a.toNat):Nat):Int)<c then ((b-(a.toNat):Nat):Int) else c))).toNat:Nat):Int))/\(0<=a/\a<=(((B5 (a+(if ((b-(a.toNat):Nat):Int)<c then ((b-(a.toNat):Nat):Int) else c))).toNat:Nat):Int))/\YCall P p #[.slice (J1 m ((B5 (a+(if ((b-(a.toNat):Nat):Int)<c then ((b-(a.toNat):Nat):Int) else c))).toNat) (a.toNat) 4) ((B5 (a+(if ((b-(a.toNat):Nat):Int)<c then ((b-(a.toNat):Nat):Int) else c))).toNat-a.toNat) ((B5 (a+(if ((b-(a.toNat):Nat):Int)<c then ((b-(a.toNat):Nat):Int) else c))).toNat-a.toNat)] d (fun v e=>∃ (o:Bool),v= .bool o/\Br (!o) (K (.tuple #[]) e)
 (∃ (i:Int),e.cell? j=some (I i)/\g [I (B5 (a+i))] e/\k [I (B5 (a+i))] e<k [I a] d)))
 (K (.tuple #[]) d)
theorem A3r(a:Nat)(b:Addr)(c:Addr)(hvc:A7w prog a b c h K):FCall prog En #[.func (.yield a) #[] #[],.pointer (some b),.pointer (some c)] h K:=
 C6 bod func191 [] { loops:=[(1,⟨[4],[],[.int .i64 0],⟨(Lrg 4 27),[]⟩⟩)] } 31 [] [] [] (by kernel_rfl) hvc
theorem Vt:∀ (args:Array Value) (W:World),(callFunc En args).run prog W= .ok (.enter En args) W:=call191
def B1m(P:Program)(i:Int)(j:OA)(d k:Nat)(h:Heap)(K:VP):Prop:=
 ∃ (c:LP) (e:LN),c [I 0] h/\
 ∀ a b,c [I a] b->Br (decide (a<(d:Int))) (∃ g,j=some g/\0<=a/\a<(d:Int)/\∃ (f:ByteArray),b.cell? (g.add (a.toNat*1))=some (.string f)/\Br (decide (((ByteArray.size f:Nat):Int)>i)) (K (.bool false) b)
 (c [I (B5 (a+1))] b/\e [I (B5 (a+1))] b<e [I a] b))
 (K (.bool true) b)
theorem A7y a b c d(hvc:B1m prog a b c d h K):FCall prog Us #[I a,.slice b c d] h K:=
 C6 bod func14 [.tmp 4] { loops:=[(2,⟨[5],[],[.int .i64 0],⟨(Lrg 4 15),[]⟩⟩)] } 19 [] [] [] (by kernel_rfl) hvc
def Lv(P:Program)(d:Int)(e:Int)(f:OA)(b g:Nat)(a:Int)(i:Int)(h:Heap)(K:VP):Prop:=
 Br (decide (d<=a)) (Br (decide (e<=a)) (Br (decide ((b:Int)<=(B5 ((B5 (a*a))+2)))) (FCall P Us #[I i,.slice f b g] h (fun j k=>∃ (c:Bool),j= .bool c/\K (.bool c) k))
 (K (.bool false) h))
 (K (.bool false) h))
 (K (.bool false) h)
theorem Qi a b c d e f g(hvc:Lv prog a b c d e f g h K):FCall prog T5 #[.agg #[I a,I b,.slice c d e],I f,I g] h K:=
 C6 bod func24 [.tmp 6] an0 33 [3] [14] [] (by kernel_rfl) hvc
def A2e(P:Program)(l:OA)(c n:Nat)(m:OA)(e o:Nat)(h:Heap)(K:VP):Prop:=
 Br ((c:Int) != (e:Int)) (K (.bool false) h)
 (∃ (d:LP) (f:LN),d [I 0] h/\
 ∀ a b,d [I a] b->Br (decide (a<(c:Int))) (∃ j,l=some j/\0<=a/\a<(c:Int)/\∃ (g:ByteArray),b.cell? (j.add (a.toNat*1))=some (.string g)/\∃ k,m=some k/\0<=a/\a<(e:Int)/\∃ (i:ByteArray),b.cell? (k.add (a.toNat*1))=some (.string i)/\Br (!(B8k g==B8k i)) (K (.bool false) b)
 (d [I (B5 (a+1))] b/\f [I (B5 (a+1))] b<f [I a] b))
 (K (.bool true) b))
theorem A15 a b c d e f(hvc:A2e prog a b c d e f h K):FCall prog Kl #[.slice a b c,.slice d e f] h K:=
 C6 bod func60 [.tmp 4] { loops:=[(4,⟨[5],[],[.int .i64 0],⟨([4,5]++Lrg 11 15),[]⟩⟩)] } 26 [] [] [] (by kernel_rfl) hvc
def B5l(P:Program)(l:OA)(c n:Nat)(m:OA)(e o:Nat)(h:Heap)(K:VP):Prop:=
 Br ((c:Int) != (e:Int)) (K (.bool false) h)
 (∃ (d:LP) (f:LN),d [I 0] h/\
 ∀ a b,d [I a] b->Br (decide (a<(c:Int))) (∃ g,l=some g/\0<=a/\a<(c:Int)/\∃ i,b.cell? (g.add (a.toNat*1))=some (I i)/\∃ j,m=some j/\0<=a/\a<(e:Int)/\∃ k,b.cell? (j.add (a.toNat*1))=some (I k)/\Br (i != k) (K (.bool false) b)
 (d [I (B5 (a+1))] b/\f [I (B5 (a+1))] b<f [I a] b))
 (K (.bool true) b))
theorem B01 a b c d e f(hvc:B5l prog a b c d e f h K):FCall prog A0e #[.slice a b c,.slice d e f] h K:=
 C6 bod func61 [.tmp 4] { loops:=[(4,⟨[5],[],[.int .i64 0],⟨([4,5]++Lrg 11 15),[]⟩⟩)] } 26 [] [] [] (by kernel_rfl) hvc
def B87(P:Program)(b:Int)(a:Int)(h:Heap)(K:VP):Prop:=
 Br (decide (a=0)) False
 (Br (decide ((Int.tmod b a)<(0:Int))) (K (I (B5 ((Int.tmod b a)+a))) h)
 (K (I (Int.tmod b a)) h))
theorem B3k a b(hvc:B87 prog a b h K):FCall prog A5z #[I a,I b] h K:=
 C6 bod func29 [.tmp 4] an0 15 [] [] [] (by kernel_rfl) hvc
def B1l(P:Program) (h:Heap)(K:VP):Prop:=
 wpH P (B8i 23 4 #[(0,.string ({ data:=#[50] }:ByteArray)),(1,.string ({ data:=#[52] }:ByteArray)),(2,.string ({ data:=#[49] }:ByteArray)),(3,.string ({ data:=#[50] }:ByteArray))]) (fun D E=>∃ (b:OA) (c d:Nat),D= .slice b c d/\FCall P Pa #[.agg #[I 2,I 2,.slice b c d]] E (fun F G=>∃ (B:Int) (C:Int) (e:OA) (f g:Nat) (i:OA) (j k:Nat) (l:Int),F= .tuple #[.agg #[I B,I C,.slice e f g],.slice i j k,I l]/\wpH P (B8i 23 4 #[(0,.string ({ data:=#[49] }:ByteArray)),(1,.string ({ data:=#[50] }:ByteArray)),(2,.string ({ data:=#[51] }:ByteArray)),(3,.string ({ data:=#[52] }:ByteArray))]) (fun H J=>∃ (m:OA) (n o:Nat),H= .slice m n o/\FCall P Sd #[.agg #[I 2,I 2,.slice m n o]] J (fun L z=>∃ (p:ByteArray) (q:Int),L= .tuple #[.string p,I q]/\Br (l==(0:Int)) (wpH P (B8i 23 4 #[(0,.string ({ data:=#[49] }:ByteArray)),(1,.string ({ data:=#[50] }:ByteArray)),(2,.string ({ data:=#[48] }:ByteArray)),(3,.string ({ data:=#[48] }:ByteArray))]) (fun M N=>∃ (r:OA) (s t:Nat),M= .slice r s t/\FCall P Kl #[.slice e f g,.slice r s t] N (fun O A=>∃ (u:Bool),O= .bool u/\Br u (wpH P (B8i 45 1 #[(0,I 0)]) (fun Q R=>∃ (v:OA) (w x:Nat),Q= .slice v w x/\FCall P A0e #[.slice i j k,.slice v w x] R (fun S a=>∃ (y:Bool),S= .bool y/\Br y (Br (B8k p==B8k ({ data:=#[45,50] }:ByteArray)) (K (.bool (q==(0:Int))) a)
 (K (.bool false) a))
 (K (.bool false) a))) A)
 (K (.bool false) A))) z)
 (K (.bool false) z))) G)) h
theorem A7x (hvc:B1l prog  h K):FCall prog P2 #[] h K:=
 C6 bod func13 [.tmp 0] an0 42 [1,2] [25,59,60,61] [] (by kernel_rfl) hvc
def At(P:Program)(b:Int)(a:Int)(e:OA)(f m:Nat)(g:Int)(i:Int)(n:OA)(o p:Nat)(d8:Int)(h:Heap)(K:VP):Prop:=
 FCall P T5 #[.agg #[I b,I a,.slice e f m],I 5,I 8] h (fun d9 c8=>∃ (J:Bool),d9= .bool J/\Br (!J) (FCall P P2 #[] c8 (fun e0 e1=>∃ (L:Bool),e0= .bool L/\K (.bool L) e1))
 (FCall P T5 #[.agg #[I g,I i,.slice n o p],I 5,I 8] c8 (fun e2 c9=>∃ (M:Bool),e2= .bool M/\Br (!M) (FCall P P2 #[] c9 (fun e3 e4=>∃ (N:Bool),e3= .bool N/\K (.bool N) e4))
 (FCall P Nh #[.agg #[I b,I a,.slice e f m]] c9 (fun e5 d0=>∃ (O:Bool),e5= .bool O/\Br (!O) (FCall P P2 #[] d0 (fun e6 e7=>∃ (Q:Bool),e6= .bool Q/\K (.bool Q) e7))
 (FCall P Nh #[.agg #[I g,I i,.slice n o p]] d0 (fun e8 j=>∃ (R:Bool),e8= .bool R/\Br (!R) (FCall P P2 #[] j (fun e9 f0=>∃ (S:Bool),e9= .bool S/\K (.bool S) f0))
 (Br (b != a) (FCall P P2 #[] j (fun f1 f2=>∃ (T:Bool),f1= .bool T/\K (.bool T) f2))
 (Br (g != b) (FCall P P2 #[] j (fun f3 f4=>∃ (V:Bool),f3= .bool V/\K (.bool V) f4))
 (Br (i != b) (FCall P P2 #[] j (fun f5 f6=>∃ (W:Bool),f5= .bool W/\K (.bool W) f6))
 (FCall P Sd #[.agg #[I b,I a,.slice e f m]] j (fun f7 f8=>∃ (z:ByteArray) (X:Int),f7= .tuple #[.string z,I X]/\FCall P Sd #[.agg #[I g,I i,.slice n o p]] f8 (fun f9 g0=>∃ (Z:ByteArray) (a0:Int),f9= .tuple #[.string Z,I a0]/\FCall P A5y #[.agg #[I b,I a,.slice e f m],.agg #[I g,I i,.slice n o p]] g0 (fun g1 g2=>∃ (a1:Int) (a2:Int) (a3:OA) (a4 a5:Nat) (a6:Int),g1= .tuple #[.agg #[I a1,I a2,.slice a3 a4 a5],I a6]/\FCall P Sd #[.agg #[I a1,I a2,.slice a3 a4 a5]] g2 (fun g3 k=>∃ (a7:ByteArray) (a8:Int),g3= .tuple #[.string a7,I a8]/\Br (X != (0:Int)) (K (.bool false) k)
 (Br (a0 != (0:Int)) (K (.bool false) k)
 (Br (a6 != (0:Int)) (K (.bool false) k)
 (Br (a8 != (0:Int)) (K (.bool false) k)
 (FCall P A5v #[.string z,.string Z] k (fun g4 d1=>∃ (a9:ByteArray),g4= .string a9/\Br (!(B8k a7==B8k a9)) (K (.bool false) d1)
 (FCall P A5z #[I d8,I 10000] d1 (fun g5 g6=>∃ d6,g5=I d6/\FCall P 28 #[I d6] g6 (fun g7 d2=>∃ (q:Int) (b0:Bool),g7= .tuple #[I q,.bool b0]/\Br (!b0) (K (.bool false) d2)
 (∃ (A:LP) (b1:LN),A [.slice none 0 0,I 0] d2/\
 ∀ s t u c v,A [.slice s t u,I c] v->Br (decide (c<b)) (∃ (B:LP) (b2:LN),B [.slice none 0 0,I 0] v/\
 ∀ w x y d l,B [.slice w x y,I d] l->Br (decide (d<a)) (∃ d7,e=some d7/\0<=B5 ((B5 (c*a))+d)/\B5 ((B5 (c*a))+d)<(f:Int)/\∃ (b3:ByteArray),l.cell? (d7.add ((B5 ((B5 (c*a))+d)).toNat*1))=some (.string b3)/\FCall P 30 #[.string b3,I q] l (fun g8 d3=>∃ (b4:Int) (b5:Bool),g8= .tuple #[I b4,.bool b5]/\Br (!b5) (FCall P P2 #[] d3 (fun g9 h0=>∃ (b6:Bool),g9= .bool b6/\K (.bool b6) h0))
 (wpH P (B8i 45 1 #[(0,I b4)]) (fun h1 h2=>∃ (b7:OA) (b8 b9:Nat),h1= .slice b7 b8 b9/\wpH P (B8j #[45,45] 45 #[.slice w x y,.slice b7 b8 b9]) (fun h3 d4=>∃ (C:OA) (D E:Nat),h3= .slice C D E/\B [.slice C D E,I (B5 (d+1))] d4/\b2 [.slice C D E,I (B5 (d+1))] d4<b2 [.slice w x y,I d] l) h2) d3)))
 (wpH P (B8i 44 1 #[(0,.slice w x y)]) (fun h4 h5=>∃ (c0:OA) (c1 c2:Nat),h4= .slice c0 c1 c2/\wpH P (B8j #[44,44] 44 #[.slice s t u,.slice c0 c1 c2]) (fun h6 d5=>∃ (F:OA) (G H:Nat),h6= .slice F G H/\A [.slice F G H,I (B5 (c+1))] d5/\b1 [.slice F G H,I (B5 (c+1))] d5<b1 [.slice s t u,I c] v) h5) l))
 (FCall P 31 #[.slice s t u,I q] v (fun h7 h8=>∃ (c3:Int) (c4:Int),h7= .tuple #[I c3,I c4]/\FCall P 30 #[.string z,I q] h8 (fun h9 r=>∃ (c5:Int) (c6:Bool),h9= .tuple #[I c5,.bool c6]/\Br (c4==(0:Int)) (Br c6 (Br (c3==c5) (FCall P P2 #[] r (fun i0 i1=>∃ (c7:Bool),i0= .bool c7/\K (.bool c7) i1))
 (K (.bool false) r))
 (K (.bool false) r))
 (K (.bool false) r))))))))))))))))))))))))))))
theorem Fh a b c d e f g i j k l(hvc:At prog a b c d e f g i j k l h K):FCall prog V9 #[.agg #[I a,I b,.slice c d e],.agg #[I f,I g,.slice i j k],I l] h K:=
 C6 bod func4 [.tmp 6] { loops:=[(14,⟨[17,18],[],[.slice none 0 0,.int .i64 0],⟨([6,17,18,19,20,21,22]++Lrg 116 38),[]⟩⟩),(18,⟨[19,20],[],[.slice none 0 0,.int .i64 0],⟨([6,19,20,21,22]++Lrg 122 28),[]⟩⟩)] } 179 [3,4,11] ([13,20]++Lrg 24 8) [] (by kernel_rfl) hvc
end Go.Proofs.YtajkakhfcokljaaGreatDoor
