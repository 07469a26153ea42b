/-
  Texts of this proof, merged by a program of ours.
-/
import Derived.Test.YtajkakhfcokljaaGreatDoorProg
import Derived.Test.YtajkakhfcokljaaGreatDoorG05
import Derived.Test.YtajkakhfcokljaaGreatDoorG06
import Derived.Test.YtajkakhfcokljaaGreatDoorG13
import Derived.Test.YtajkakhfcokljaaGreatDoorG07
import Derived.Test.YtajkakhfcokljaaGreatDoorG10
import Derived.Test.YtajkakhfcokljaaGreatDoorG27
import Derived.Test.YtajkakhfcokljaaGreatDoorG09
open Go.Proofs.Tryz
set_option linter.all false
open _root_.Go.Addr renaming add->B8t
open _root_.Go.Builtin renaming append_->B8v
open _root_.ByteArray renaming toList->B8x
open _root_.Go.Instr renaming storeAt->B8u,buildSlice->B8w,makeSlice->B8y
namespace Go.Proofs.YtajkakhfcokljaaGreatDoor
open Go
set_option maxRecDepth 100000
variable {h:Heap} {K:VP}
abbrev Kq:Nat:=104
abbrev Kp:Nat:=97
abbrev O9:Nat:=136
abbrev Uc:Nat:=70
abbrev Ow:Nat:=137
abbrev Jf:Nat:=20
abbrev Di:Nat:=66
abbrev Ui:Nat:=67
abbrev Uh:Nat:=77
abbrev A6o:Nat:=15
abbrev Dh:Nat:=17
abbrev B06:Nat:=22
abbrev B1q:Nat:=47
abbrev B83:Nat:=127
abbrev B4n:Nat:=186
abbrev B84:Nat:=26
abbrev B6s:Nat:=129
abbrev B1r:Nat:=151
abbrev B4l:Nat:=74
abbrev Pb:Nat:=59
abbrev A6p:Nat:=25
abbrev B4m:Nat:=125
abbrev B04:Nat:=117
abbrev B05:Nat:=75
abbrev B6r:Nat:=76
abbrev Ao:Nat:=68
abbrev Lu:Nat:=144
abbrev A0i:Nat:=142
abbrev A0j:Nat:=141
abbrev Un:Nat:=143
abbrev Fc:Nat:=69
abbrev Uj:Nat:=135
abbrev Ez:Nat:=191
abbrev Pc:Nat:=62
abbrev Pa:Nat:=63
abbrev A0d:Nat:=133
abbrev Jg:Nat:=21
abbrev A0g:Nat:=35
abbrev A0h:Nat:=64
abbrev Ul:Nat:=107
abbrev A0f:Nat:=65
abbrev B7i:Nat:=168
abbrev B7h:Nat:=93
abbrev B6t:Nat:=92
abbrev B86:Nat:=102
abbrev B87:Nat:=103
abbrev B4o:Nat:=187
abbrev A6q:Nat:=16
abbrev Hm:Nat:=18
abbrev B07:Nat:=23
abbrev B5h:Nat:=128
abbrev Uk:Nat:=14
abbrev A91:Nat:=24
abbrev Gg:Nat:=60
abbrev A0e:Nat:=61
abbrev Dj:Nat:=19
abbrev B85:Nat:=29
abbrev U2:Nat:=13
abbrev Ls:Nat:=3
abbrev Yu:Nat:=4
abbrev Sy:Nat:=203
abbrev Ns:Nat:=111
abbrev Kf:Nat:=98
abbrev B6w:Nat:=25
abbrev B6v:Nat:=118
abbrev A1e:Nat:=45
abbrev J6:Nat:=3
theorem B4y:SliceT prog A1e J6 (I 0) 1 8:=⟨by kernel_rfl,by kernel_rfl,rfl,by decide⟩
abbrev Cr:Nat:=95
abbrev Ag:Nat:=106
theorem B7r:SliceT prog Cr Ag (.agg #[.bool false,.slice none 0 0,.bool false,.slice none 0 0]) 4 64:=⟨by kernel_rfl,by kernel_rfl,rfl,by decide⟩
theorem Td:prog.cellsOf Ag=4/\(prog.info? Ag).isSome=true:=⟨by kernel_rfl,by kernel_rfl⟩
abbrev Lk:Nat:=109
abbrev Hz:Nat:=102
theorem tZs:SliceT prog Lk Hz (.agg #[.bool false,.slice none 0 0]) 2 32:=⟨by kernel_rfl,by kernel_rfl,rfl,by decide⟩
theorem A51:prog.cellsOf Hz=2/\(prog.info? Hz).isSome=true:=⟨by kernel_rfl,by kernel_rfl⟩
abbrev B2w:Nat:=52
abbrev Nt:Nat:=58
theorem B7s:SliceT prog B2w Nt (.slice none 0 0) 1 24:=⟨by kernel_rfl,by kernel_rfl,rfl,by decide⟩
theorem A1i:prog.cellsOf Nt=1/\(prog.info? Nt).isSome=true:=⟨by kernel_rfl,by kernel_rfl⟩
abbrev B6k:Nat:=114
abbrev B4h:Nat:=118
abbrev B4u:Nat:=22
abbrev B2v:Nat:=23
def A2i(P:Program)(x:OA)(c B:Nat)(h:Heap)(K:VP):Prop:=
 wpH P (B8y 95 (I (c:Int)) (I (c:Int))) (fun y z=>∃ (d:OA) (e g:Nat),y= .slice d e g/\∃ (f:LP) (i:LN),f [I 0] z/\
 ∀ a b,f [I a] b->Br (decide (a<(c:Int))) (∃ v,x=some v/\0<=a/\a<(c:Int)/\∃ (j:ByteArray),b.cell? (v.add (a.toNat*1))=some (.string j)/\FCall P A08 #[.string j] b (fun A t=>∃ (k:Bool) (l:OA) (m n:Nat) (o:Bool) (p:OA) (q r:Nat) (s:Bool),A= .tuple #[.agg #[.bool k,.slice l m n,.bool o,.slice p q r],.bool s]/\Br (!s) (K (.tuple #[.slice none 0 0,.bool false]) t)
 (∃ w,d=some w/\0<=a/\a<(e:Int)/\wpH P (B8u 106 (.pointer (some (w.add (a.toNat*4)))) (.agg #[.bool k,.slice l m n,.bool o,.slice p q r])) (fun _ u=>f [I (B3 (a+1))] u/\i [I (B3 (a+1))] u<i [I a] b) t)))
 (K (.tuple #[.slice d e g,.bool true]) b)) h
theorem A10 a b c(hvc:A2i prog a b c h K):FCall prog Kq #[.slice a b c] h K:=
 C6 bod func104 [.tmp 2,.tmp 3] { loops:=[(3,⟨[14],[],[.int .i64 0],⟨([2,3,5,6,7,8]++Lrg 14 17),[7]⟩⟩)] } 32 [7] [83] [] (by kernel_rfl) hvc
def A2h(P:Program)(v:OA)(d A:Nat)(h:Heap)(K:VP):Prop:=
 wpH P (B8y 23 (I (d:Int)) (I (d:Int))) (fun w x=>∃ (e:OA) (f i:Nat),w= .slice e f i/\∃ (g:LP) (j:LN),g [I 0] x/\
 ∀ a b,g [I a] b->Br (decide (a<(d:Int))) (∃ c,v=some c/\0<=a/\a<(d:Int)/\∃ (k:Bool) (l:OA) (m n:Nat) (o:Bool) (p:OA) (q r:Nat),b.cell? (B8t (c.add (a.toNat*4)) 0)=some (.bool k)/\b.cell? (B8t (c.add (a.toNat*4)) 1)=some (.slice l m n)/\b.cell? (B8t (c.add (a.toNat*4)) 2)=some (.bool o)/\b.cell? (B8t (c.add (a.toNat*4)) 3)=some (.slice p q r)/\FCall P Jb #[.agg #[.bool k,.slice l m n,.bool o,.slice p q r]] b (fun y z=>∃ (s:ByteArray),y= .string s/\∃ u,e=some u/\0<=a/\a<(f:Int)/\wpH P (B8u 9 (.pointer (some (u.add (a.toNat*1)))) (.string s)) (fun _ t=>g [I (B3 (a+1))] t/\j [I (B3 (a+1))] t<j [I a] b) z))
 (K (.slice e f i) b)) h
theorem A0z a b c(hvc:A2h prog a b c h K):FCall prog Kp #[.slice a b c] h K:=
 C6 bod func97 [.tmp 2] { loops:=[(3,⟨[11],[],[.int .i64 0],⟨([4,5]++Lrg 11 11),[5]⟩⟩)] } 23 [5] [73] [] (by kernel_rfl) hvc
def Bh(P:Program)(C:OA)(u O:Nat)(h:Heap)(K:VP):Prop:=
 FCall P Rv #[I 1] h (fun H J=>∃ (v:Bool) (w:OA) (x y:Nat),H= .agg #[.bool v,.slice w x y]/\∃ (i:LP) (g:LN),i [I 0,.bool v,.slice w x y] J/\
 ∀ a b c d e f,i [I a,.bool b,.slice c d e] f->Br (decide (a<(u:Int))) (∃ j,C=some j/\0<=a/\a<(u:Int)/\∃ (D:Bool) (E:OA) (F G:Nat) (k:Bool) (l:OA) (m n:Nat),f.cell? (B8t (j.add (a.toNat*4)) 0)=some (.bool D)/\f.cell? (B8t (j.add (a.toNat*4)) 1)=some (.slice E F G)/\f.cell? (B8t (j.add (a.toNat*4)) 2)=some (.bool k)/\f.cell? (B8t (j.add (a.toNat*4)) 3)=some (.slice l m n)/\FCall P G9 #[.agg #[.bool k,.slice l m n]] f (fun L s=>∃ (z:Bool),L= .bool z/\Br (!z) (FCall P Ua #[.agg #[.bool k,.slice l m n],.agg #[.bool b,.slice c d e]] s (fun M t=>∃ (A:Bool),M= .bool A/\Br (!A) (FCall P A6i #[.agg #[.bool b,.slice c d e],.agg #[.bool k,.slice l m n]] t (fun N B=>∃ (o:Bool) (p:OA) (q r:Nat),N= .agg #[.bool o,.slice p q r]/\i [I (B3 (a+1)),.bool o,.slice p q r] B/\g [I (B3 (a+1)),.bool o,.slice p q r] B<g [I a,.bool b,.slice c d e] f))
 (i [I (B3 (a+1)),.bool b,.slice c d e] t/\g [I (B3 (a+1)),.bool b,.slice c d e] t<g [I a,.bool b,.slice c d e] f)))
 (i [I (B3 (a+1)),.bool b,.slice c d e] s/\g [I (B3 (a+1)),.bool b,.slice c d e] s<g [I a,.bool b,.slice c d e] f)))
 (K (.agg #[.bool b,.slice c d e]) f))
theorem Ft a b c(hvc:Bh prog a b c h K):FCall prog O9 #[.slice a b c] h K:=
 C6 bod func136 [.cell 2 102] { loops:=[(3,⟨[9],[(3,2)],[.int .i64 0,.bool false,.slice none 0 0],⟨([5]++Lrg 9 20),[3,5]⟩⟩)] } 30 [2,3,5] [138,139,192,193] [] (by kernel_rfl) hvc
def B29(P:Program)(a:Bool)(b:OA)(c d:Nat)(h:Heap)(K:VP):Prop:=
 K (.agg #[.bool a,.slice b c d,.bool false,.slice none 0 0]) h
theorem A7u a b c d(hvc:B29 prog a b c d h K):FCall prog Uc #[.agg #[.bool a,.slice b c d]] h K:=
 C6 bod func70 [.cell 2 106] an0 5 [1,2] [] [] (by kernel_rfl) hvc
def A82(P:Program)(c:Bool)(d:OA)(e f:Nat)(g:Bool)(i:OA)(j k:Nat)(l:Bool)(m:OA)(n o:Nat)(h:Heap)(K:VP):Prop:=
 FCall P G9 #[.agg #[.bool g,.slice i j k]] h (fun D a=>∃ (p:Bool),D= .bool p/\Br p (FCall P Ot #[.agg #[.bool c,.slice d e f],.agg #[.bool l,.slice m n o]] a (fun E F=>∃ (q:Bool) (r:OA) (s t:Nat),E= .agg #[.bool q,.slice r s t]/\K (.agg #[.bool q,.slice r s t]) F))
 (FCall P Ix #[.agg #[.bool l,.slice m n o],.agg #[.bool g,.slice i j k]] a (fun G b=>∃ (u:Bool) (v:OA) (w x:Nat),G= .agg #[.bool u,.slice v w x]/\Heap.le a b/\FCall P Ot #[.agg #[.bool c,.slice d e f],.agg #[.bool u,.slice v w x]] b (fun H C=>∃ (y:Bool) (z:OA) (A B:Nat),H= .agg #[.bool y,.slice z A B]/\Heap.le b C/\K (.agg #[.bool y,.slice z A B]) C))))
theorem A41 a b c d e f g i j k l m(hvc:A82 prog a b c d e f g i j k l m h K):FCall prog Ow #[.agg #[.bool a,.slice b c d,.bool e,.slice f g i],.agg #[.bool j,.slice k l m]] h K:=
 C6 bod func137 [.cell 4 102] an0 19 [2,3,4] [138,140,154] [] (by kernel_rfl) hvc
def B2i(P:Program)(n:Int)(o:Int)(f:OA)(c p:Nat)(h:Heap)(K:VP):Prop:=
 FCall P Di #[.agg #[I n,I o,.slice f c p]] h (fun q l=>∃ (g:Bool),q= .bool g/\Br (!g) (K (.bool false) l)
 (∃ (d:LP) (i:LN),d [I 0] l/\
 ∀ a b,d [I a] b->Br (decide (a<(c:Int))) (∃ m,f=some m/\0<=a/\a<(c:Int)/\∃ (j:ByteArray),b.cell? (m.add (a.toNat*1))=some (.string j)/\FCall P Ud #[.string j] b (fun r e=>∃ (k:Bool),r= .bool k/\Br (!k) (K (.bool false) e)
 (d [I (B3 (a+1))] e/\i [I (B3 (a+1))] e<i [I a] b)))
 (K (.bool true) b)))
theorem A8f a b c d e(hvc:B2i prog a b c d e h K):FCall prog Jf #[.agg #[I a,I b,.slice c d e]] h K:=
 C6 bod func20 [.tmp 2] { loops:=[(4,⟨[11],[],[.int .i64 0],⟨([2,4]++Lrg 11 8),[]⟩⟩)] } 19 [1] [46,66] [] (by kernel_rfl) hvc
def Yi(P:Program)(a:Int)(b:Int)(d:OA)(c e:Nat)(h:Heap)(K:VP):Prop:=
 Br (decide ((1:Int)<=a)) (Br (decide (a<=(64:Int))) (Br (decide ((1:Int)<=b)) (Br (decide (b<=(64:Int))) (K (.bool ((c:Int)==(B3 (a*b)))) h)
 (K (.bool false) h))
 (K (.bool false) h))
 (K (.bool false) h))
 (K (.bool false) h)
theorem Yh a b c d e(hvc:Yi prog a b c d e h K):FCall prog Di #[.agg #[I a,I b,.slice c d e]] h K:=
 C6 bod func66 [.tmp 2] an0 32 [1] [] [] (by kernel_rfl) hvc
def B69(P:Program)(k:Int)(l:Int)(a:OA)(b c:Nat)(h:Heap)(K:VP):Prop:=
 FCall P Di #[.agg #[I k,I l,.slice a b c]] h (fun m j=>∃ (d:Bool),m= .bool d/\Br (!d) (K (.tuple #[.slice none 0 0,.bool false]) j)
 (FCall P Kq #[.slice a b c] j (fun n o=>∃ (e:OA) (f g:Nat) (i:Bool),n= .tuple #[.slice e f g,.bool i]/\K (.tuple #[.slice e f g,.bool i]) o)))
theorem B11 a b c d e(hvc:B69 prog a b c d e h K):FCall prog Ui #[.agg #[I a,I b,.slice c d e]] h K:=
 C6 bod func67 [.tmp 2,.tmp 3] an0 12 [1] [66,104] [] (by kernel_rfl) hvc
def B2h(P:Program)(d:Int)(e:Int)(f:OA)(g i:Nat)(h:Heap)(K:VP):Prop:=
 FCall P Kp #[.slice f g i] h (fun j k=>∃ (a:OA) (b c:Nat),j= .slice a b c/\K (.agg #[I d,I e,.slice a b c]) k)
theorem A8e a b c d e(hvc:B2h prog a b c d e h K):FCall prog Uh #[I a,I b,.slice c d e] h K:=
 C6 bod func77 [.cell 6 25] an0 12 [6] [97] [] (by kernel_rfl) hvc
def B8l(P:Program)(e:OA)(a x:Nat)(h:Heap)(K:VP):Prop:=
 Br ((a:Int)==(0:Int)) (K (.tuple #[.agg #[I 0,I 0,.slice none 0 0],I 4]) h)
 (∃ u,e=some u/\0<=(0:Int)/\(0:Int)<(a:Int)/\∃ (y:OA) (p z:Nat),h.cell? (u.add (((0:Int)).toNat*1))=some (.slice y p z)/\Br ((p:Int)==(0:Int)) (K (.tuple #[.agg #[I 0,I 0,.slice none 0 0],I 4]) h)
 (∃ v,e=some v/\0<=(0:Int)/\(0:Int)<(a:Int)/\∃ (A:OA) (d B:Nat),h.cell? (v.add (((0:Int)).toNat*1))=some (.slice A d B)/\∃ (l:LP) (q:LN),l [I 0,I 0,I 0,.slice none 0 0] h/\
 ∀ c f g i j k b,l [I c,I f,I g,.slice i j k] b->Br (decide (c<(a:Int))) (∃ w,e=some w/\0<=c/\c<(a:Int)/\∃ (C:OA) (r D:Nat),b.cell? (w.add (c.toNat*1))=some (.slice C r D)/\Br ((r:Int) != (d:Int)) (K (.tuple #[.agg #[I 0,I 0,.slice none 0 0],I 4]) b)
 (l [I (B3 (c+1)),I f,I g,.slice i j k] b/\q [I (B3 (c+1)),I f,I g,.slice i j k] b<q [I c,I f,I g,.slice i j k] b))
 (Br (decide ((a:Int)>(64:Int))) (K (.tuple #[.agg #[I 0,I 0,.slice none 0 0],I 2]) b)
 (Br (decide ((d:Int)>(64:Int))) (K (.tuple #[.agg #[I 0,I 0,.slice none 0 0],I 2]) b)
 (FCall P Pc #[.slice e a x] b (fun E F=>∃ (m:OA) (n o:Nat),E= .slice m n o/\FCall P Jf #[.agg #[I (a:Int),I (d:Int),.slice m n o]] F (fun G t=>∃ (s:Bool),G= .bool s/\Br (!s) (K (.tuple #[.agg #[I 0,I 0,.slice none 0 0],I 1]) t)
 (K (.tuple #[.agg #[I (a:Int),I (d:Int),.slice m n o],I 0]) t))))))))
theorem B4a a b c(hvc:B8l prog a b c h K):FCall prog A6o #[.slice a b c] h K:=
 C6 bod func15 [.cell 2 25,.tmp 3] { loops:=[(5,⟨[27],[(2,3)],[.int .i64 0,.int .i64 0,.int .i64 0,.slice none 0 0],⟨([3,6]++Lrg 27 11),[2]⟩⟩)] } 55 [2,4] [20,62] [] (by kernel_rfl) hvc
def Ql(P:Program)(b:Int)(h:Heap)(K:VP):Prop:=
 Br (decide (b<(1:Int))) (K (.tuple #[.agg #[I 0,I 0,.slice none 0 0],I 3]) h)
 (Br (decide (b>(64:Int))) (K (.tuple #[.agg #[I 0,I 0,.slice none 0 0],I 3]) h)
 (wpH P (B8w 23 1 #[(0,.string ({ data:=#[48] }:ByteArray))]) (fun o p=>∃ (g:OA) (i j:Nat),o= .slice g i j/\FCall P Pa #[.slice g i j,I (B3 (b*b))] p (fun q r=>∃ (d:OA) (e k:Nat),q= .slice d e k/\∃ (f:LP) (l:LN),f [I 0] r/\
 ∀ a c,f [I a] c->Br (decide (a<b)) (∃ n,d=some n/\0<=B3 ((B3 (a*b))+a)/\B3 ((B3 (a*b))+a)<(e:Int)/\wpH P (B8u 9 (.pointer (some (n.add ((B3 ((B3 (a*b))+a)).toNat*1)))) (.string ({ data:=#[49] }:ByteArray))) (fun _ m=>f [I (B3 (a+1))] m/\l [I (B3 (a+1))] m<l [I a] c) c)
 (K (.tuple #[.agg #[I b,I b,.slice d e k],I 0]) c))) h))
theorem Mh a(hvc:Ql prog a h K):FCall prog Dh #[I a] h K:=
 C6 bod func17 [.cell 2 25,.tmp 3] { loops:=[(5,⟨[22],[],[.int .i64 0],⟨([5]++Lrg 22 12),[]⟩⟩)] } 35 [2,4] [63] [] (by kernel_rfl) hvc
def MAt(P:Program)(e:Int)(b:Int)(f:OA)(g l:Nat)(c:Int)(d:Int)(h:Heap)(K:VP):Prop:=
 FCall P Jf #[.agg #[I e,I b,.slice f g l]] h (fun m a=>∃ (i:Bool),m= .bool i/\Br (!i) (K (.string ({ data:=#[48] }:ByteArray)) a)
 (Br (decide (c<(0:Int))) (K (.string ({ data:=#[48] }:ByteArray)) a)
 (Br (decide (c>=e)) (K (.string ({ data:=#[48] }:ByteArray)) a)
 (Br (decide (d<(0:Int))) (K (.string ({ data:=#[48] }:ByteArray)) a)
 (Br (decide (d>=b)) (K (.string ({ data:=#[48] }:ByteArray)) a)
 (∃ k,f=some k/\0<=B3 ((B3 (c*b))+d)/\B3 ((B3 (c*b))+d)<(g:Int)/\∃ (j:ByteArray),a.cell? (k.add ((B3 ((B3 (c*b))+d)).toNat*1))=some (.string j)/\K (.string j) a))))))
theorem B6b a b c d e f g(hvc:MAt prog a b c d e f g h K):FCall prog B06 #[.agg #[I a,I b,.slice c d e],I f,I g] h K:=
 C6 bod func22 [.tmp 6] an0 40 [3] [20] [] (by kernel_rfl) hvc
def A8h(P:Program)(l:Int)(c:Int)(W:OA)(X Z:Nat)(h:Heap)(K:VP):Prop:=
 FCall P Ui #[.agg #[I l,I c,.slice W X Z]] h (fun a2 Q=>∃ (d:OA) (e f:Nat) (m:Bool),a2= .tuple #[.slice d e f,.bool m]/\Br (!m) (K (.tuple #[.agg #[I 0,I 0,.slice none 0 0],.slice none 0 0,I 1]) Q)
 (FCall P Ao #[.slice d e f,I c] Q (fun a3 a4=>∃ (g:OA),a3= .pointer g/\FCall P Fc #[.pointer g,I c] a4 (fun a5 R=>∃ (n:OA) (o p:Nat) (q:Bool) (r:OA) (s t:Nat) (a0:Int),a5= .tuple #[.slice n o p,.agg #[.bool q,.slice r s t],I a0]/\∃ T,g=some T/\∃ (u:OA) (i a1:Nat),R.cell? (T.add 1)=some (.slice u i a1)/\∃ (j:LP) (v:LN),j [I 0] R/\
 ∀ a b,j [I a] b->Br (decide (a<(i:Int))) (∃ k,u=some k/\0<=a/\a<(i:Int)/\∃ (w:Bool) (x:OA) (y z:Nat),b.cell? (B8t (k.add (a.toNat*2)) 0)=some (.bool w)/\b.cell? (B8t (k.add (a.toNat*2)) 1)=some (.slice x y z)/\FCall P An #[.agg #[.bool w,.slice x y z],.agg #[.bool q,.slice r s t]] b (fun a6 a7=>∃ (A:Bool) (B:OA) (C D:Nat) (E:Bool) (F:OA) (G H:Nat),a6= .agg #[.bool A,.slice B C D,.bool E,.slice F G H]/\∃ V,d=some V/\0<=a/\a<(e:Int)/\wpH P (B8u 106 (.pointer (some (V.add (a.toNat*4)))) (.agg #[.bool A,.slice B C D,.bool E,.slice F G H])) (fun _ S=>j [I (B3 (a+1))] S/\v [I (B3 (a+1))] S<v [I a] b) a7))
 (FCall P Uh #[I l,I c,.slice d e f] b (fun a8 a9=>∃ (J:Int) (L:Int) (M:OA) (N O:Nat),a8= .agg #[I J,I L,.slice M N O]/\K (.tuple #[.agg #[I J,I L,.slice M N O],.slice n o p,I 0]) a9))))))
theorem A49 a b c d e(hvc:A8h prog a b c d e h K):FCall prog Pb #[.agg #[I a,I b,.slice c d e]] h K:=
 C6 bod func59 [.cell 2 25,.tmp 3,.tmp 4] { loops:=[(7,⟨[38],[],[.int .i64 0],⟨([11,12]++Lrg 38 12),[12]⟩⟩)] } 57 [1,2,9,12] [67,68,69,77,132] [69] (by kernel_rfl) hvc
def B8m(P:Program)(n:Int)(d:Int)(d0:OA)(d1 d2:Nat)(h:Heap)(K:VP):Prop:=
 FCall P Ui #[.agg #[I n,I d,.slice d0 d1 d2]] h (fun d6 J=>∃ (M:OA) (N O:Nat) (Q:Bool),d6= .tuple #[.slice M N O,.bool Q]/\Br (!Q) (K (.tuple #[.string ({ data:=#[] }:ByteArray),I 1]) J)
 (Br (n != d) (K (.tuple #[.string ({ data:=#[] }:ByteArray),I 4]) J)
 (FCall P Ao #[.slice M N O,I d] J (fun d7 d8=>∃ (o:OA),d7= .pointer o/\FCall P Fc #[.pointer o,I d] d8 (fun d9 b8=>∃ (d3:OA) (R d4:Nat) (S:Bool) (T:OA) (V W:Nat) (X:Int),d9= .tuple #[.slice d3 R d4,.agg #[.bool S,.slice T V W],I X]/\Br (decide ((R:Int)<n)) (K (.tuple #[.string ({ data:=#[48] }:ByteArray),I 0]) b8)
 (FCall P Uc #[.agg #[.bool S,.slice T V W]] b8 (fun e0 b9=>∃ (p:Bool) (q:OA) (r s:Nat) (t:Bool) (u:OA) (v w:Nat),e0= .agg #[.bool p,.slice q r s,.bool t,.slice u v w]/\∃ (x:LP),(Br (decide (X<(0:Int))) (FCall P A6k #[.agg #[.bool p,.slice q r s,.bool t,.slice u v w]] b9 (fun e1 e2=>∃ (Z:Bool) (a0:OA) (a1 a2:Nat) (a3:Bool) (a4:OA) (a5 a6:Nat),e1= .agg #[.bool Z,.slice a0 a1 a2,.bool a3,.slice a4 a5 a6]/\x [.bool Z,.slice a0 a1 a2,.bool a3,.slice a4 a5 a6] e2))
 (x [.bool p,.slice q r s,.bool t,.slice u v w] b9))/\
 ∀ c1 c2 c3 c4 c5 c6 c7 c8 L,x [.bool c1,.slice c2 c3 c4,.bool c5,.slice c6 c7 c8] L->∃ c9,o=some c9/\∃ (a7:OA) (y d5:Nat),L.cell? (c9.add 2)=some (.slice a7 y d5)/\∃ (z:LP) (a8:LN),z [I 0,.bool c1,.slice c2 c3 c4,.bool c5,.slice c6 c7 c8] L/\
 ∀ a e f g i j k l m b,z [I a,.bool e,.slice f g i,.bool j,.slice k l m] b->Br (decide (a<(y:Int))) (∃ c,a7=some c/\0<=a/\a<(y:Int)/\∃ (a9:Bool) (b0:OA) (b1 b2:Nat) (b3:Bool) (b4:OA) (b5 b6:Nat),b.cell? (B8t (c.add (a.toNat*4)) 0)=some (.bool a9)/\b.cell? (B8t (c.add (a.toNat*4)) 1)=some (.slice b0 b1 b2)/\b.cell? (B8t (c.add (a.toNat*4)) 2)=some (.bool b3)/\b.cell? (B8t (c.add (a.toNat*4)) 3)=some (.slice b4 b5 b6)/\FCall P A6m #[.agg #[.bool e,.slice f g i,.bool j,.slice k l m],.agg #[.bool a9,.slice b0 b1 b2,.bool b3,.slice b4 b5 b6]] b (fun e3 c0=>∃ (A:Bool) (B:OA) (C D:Nat) (E:Bool) (F:OA) (G H:Nat),e3= .agg #[.bool A,.slice B C D,.bool E,.slice F G H]/\z [I (B3 (a+1)),.bool A,.slice B C D,.bool E,.slice F G H] c0/\a8 [I (B3 (a+1)),.bool A,.slice B C D,.bool E,.slice F G H] c0<a8 [I a,.bool e,.slice f g i,.bool j,.slice k l m] b))
 (FCall P Jb #[.agg #[.bool e,.slice f g i,.bool j,.slice k l m]] b (fun e4 e5=>∃ (b7:ByteArray),e4= .string b7/\K (.tuple #[.string b7,I 0]) e5)))))))))
theorem B4b a b c d e(hvc:B8m prog a b c d e h K):FCall prog A6p #[.agg #[I a,I b,.slice c d e]] h K:=
 C6 bod func25 [.tmp 2,.tmp 3] ⟨[(14,⟨[53],[(10,4)],[.int .i64 0,.bool false,.slice none 0 0,.bool false,.slice none 0 0],⟨([12]++Lrg 53 8),[10,12]⟩⟩)],[(13,⟨[],[(10,4)],[.bool false,.slice none 0 0,.bool false,.slice none 0 0],⟨[44,45,46,47],[10]⟩⟩)],[],[],[]⟩ 63 [1,8,10,12] [67,68,69,70,71,72,73] [69] (by kernel_rfl) hvc
def Yg(P:Program)(m3:OA)(m4 m5:Nat)(b7:Int)(h:Heap)(K:VP):Prop:=
 wpH P (Instr.box 111 (.agg #[I b7,.slice none 0 0,.slice none 0 0])) (fun n1 n2=>∃ (b8:Addr),n1= .pointer (some b8)/\wpH P (Instr.alloc 98 true (.tuple #[])) (fun n3 n4=>∃ (b:Addr),n3= .pointer (some b)/\wpH P (B8u 98 (.pointer (some b)) (.pointer (some b8))) (fun _ n5=>FCall P Uj #[.slice m3 m4 m5,I b7] n5 (fun n6 n7=>∃ (b9:Value),n6=b9/\A2k P (b9) n7 (fun (m6:List Value) (m7:Heap) (x:Heap->Prop)=>∃ (W:OA) (y c0:Nat),m6=[.slice W y c0]/\FCall P O9 #[.slice W y c0] m7 (fun n8 b4=>∃ (z:Bool) (A:OA) (B C:Nat),n8= .agg #[.bool z,.slice A B C]/\∃ (c1:OA),b4.cell? b=some (.pointer c1)/\∃ l0,c1=some l0/\∃ (m8:OA) (f m9:Nat),b4.cell? (l0.add 1)=some (.slice m8 f m9)/\∃ (s:LP) (q:LN),s [I 0,.bool false,.slice none 0 0] b4/\
 ∀ a m n o p e,s [I a,.bool m,.slice n o p] e->Br (decide (a<(y:Int))) (∃ w,W=some w/\0<=a/\a<(y:Int)/\∃ (c2:Bool) (c3:OA) (c4 c5:Nat) (c6:Bool) (c7:OA) (c8 c9:Nat),e.cell? (B8t (w.add (a.toNat*4)) 0)=some (.bool c2)/\e.cell? (B8t (w.add (a.toNat*4)) 1)=some (.slice c3 c4 c5)/\e.cell? (B8t (w.add (a.toNat*4)) 2)=some (.bool c6)/\e.cell? (B8t (w.add (a.toNat*4)) 3)=some (.slice c7 c8 c9)/\FCall P Ow #[.agg #[.bool c2,.slice c3 c4 c5,.bool c6,.slice c7 c8 c9],.agg #[.bool z,.slice A B C]] e (fun n9 o0=>∃ (D:Bool) (E:OA) (F G:Nat),n9= .agg #[.bool D,.slice E F G]/\FCall P Ou #[.agg #[.bool m,.slice n o p],.agg #[.bool D,.slice E F G]] o0 (fun o1 l=>∃ (g:Bool) (i:OA) (j k:Nat),o1= .agg #[.bool g,.slice i j k]/\∃ (d0:OA),l.cell? b=some (.pointer d0)/\∃ l1,d0=some l1/\∃ (H:OA) (J L:Nat),l.cell? (l1.add 1)=some (.slice H J L)/\(∃ (d1:OA),l.cell? b=some (.pointer d1)/\wpH P (B8w 109 1 #[(0,.agg #[.bool D,.slice E F G])]) (fun o2 j8=>∃ (d2:OA) (d3 d4:Nat),o2= .slice d2 d3 d4/\Heap.le l j8/\wpH P (B8v #[109,109] 109 #[.slice H J L,.slice d2 d3 d4]) (fun o3 o4=>∃ (d5:OA) (d6 d7:Nat),o3= .slice d5 d6 d7/\∃ l2,d1=some l2/\wpH P (B8u 109 (.pointer (some (l2.add 1))) (.slice d5 d6 d7)) (fun _ j9=>s [I (B3 (a+1)),.bool g,.slice i j k] j9/\q [I (B3 (a+1)),.bool g,.slice i j k] j9<q [I a,.bool m,.slice n o p] e) o4) j8) l)/\(wpH P (B8w 109 1 #[(0,.agg #[.bool D,.slice E F G])]) (fun o5 N=>∃ (X:OA) (Z a0:Nat),o5= .slice X Z a0/\Heap.le l N/\(∃ (d8:OA),N.cell? b=some (.pointer d8)/\wpH P (B8v #[109,109] 109 #[.slice H J L,.slice X Z a0]) (fun o6 o7=>∃ (d9:OA) (e0 e1:Nat),o6= .slice d9 e0 e1/\∃ l3,d8=some l3/\wpH P (B8u 109 (.pointer (some (l3.add 1))) (.slice d9 e0 e1)) (fun _ k0=>s [I (B3 (a+1)),.bool g,.slice i j k] k0/\q [I (B3 (a+1)),.bool g,.slice i j k] k0<q [I a,.bool m,.slice n o p] e) o7) N)/\(wpH P (B8v #[109,109] 109 #[.slice H J L,.slice X Z a0]) (fun o8 k1=>∃ (e2:OA) (e3 e4:Nat),o8= .slice e2 e3 e4/\∃ (e5:OA),k1.cell? b=some (.pointer e5)/\∃ l4,e5=some l4/\wpH P (B8u 109 (.pointer (some (l4.add 1))) (.slice e2 e3 e4)) (fun _ k2=>s [I (B3 (a+1)),.bool g,.slice i j k] k2/\q [I (B3 (a+1)),.bool g,.slice i j k] k2<q [I a,.bool m,.slice n o p] e) k1) N)) l))))
 (∃ (a1:LP),(FCall P G9 #[.agg #[.bool m,.slice n o p]] e (fun o9 k3=>∃ (e6:Bool),o9= .bool e6/\Br e6 (FCall P Rv #[I 1] k3 (fun p0 p1=>∃ (e7:Bool) (e8:OA) (e9 f0:Nat),p0= .agg #[.bool e7,.slice e8 e9 f0]/\a1 [.bool e7,.slice e8 e9 f0] p1))
 (a1 [.bool m,.slice n o p] k3)))/\
 ∀ Q R S T V,a1 [.bool Q,.slice R S T] V->∃ (f1:OA),V.cell? b=some (.pointer f1)/\∃ l5,f1=some l5/\∃ (f2:OA) (M f3:Nat),V.cell? (l5.add 1)=some (.slice f2 M f3)/\(0<=(f:Int)/\(f:Int)<=(M:Int))/\∃ (a2:LP) (f4:LN),a2 [I 0] V/\
 ∀ d c,a2 [I d] c->Br (decide (d<((M-(((f:Int)).toNat):Nat):Int))) (∃ b6,I8 f2 f3 (((f:Int)).toNat) 2=some b6/\0<=d/\d<((M-(((f:Int)).toNat):Nat):Int)/\∃ (f5:Bool) (f6:OA) (f7 f8:Nat),c.cell? (B8t (b6.add (d.toNat*2)) 0)=some (.bool f5)/\c.cell? (B8t (b6.add (d.toNat*2)) 1)=some (.slice f6 f7 f8)/\∃ (f9:OA),c.cell? b=some (.pointer f9)/\∃ l6,f9=some l6/\∃ (g0:OA) (g1 n0:Nat),c.cell? (l6.add 1)=some (.slice g0 g1 n0)/\FCall P Ix #[.agg #[.bool f5,.slice f6 f7 f8],.agg #[.bool Q,.slice R S T]] c (fun p2 k4=>∃ (g2:Bool) (g3:OA) (g4 g5:Nat),p2= .agg #[.bool g2,.slice g3 g4 g5]/\Heap.le c k4/\∃ l7,g0=some l7/\0<=B3 ((f:Int)+d)/\B3 ((f:Int)+d)<(g1:Int)/\wpH P (B8u 102 (.pointer (some (l7.add ((B3 ((f:Int)+d)).toNat*2)))) (.agg #[.bool g2,.slice g3 g4 g5])) (fun _ k5=>a2 [I (B3 (d+1))] k5/\f4 [I (B3 (d+1))] k5<f4 [I d] c) k4))
 (∃ (g6:OA),c.cell? b=some (.pointer g6)/\∃ l8,g6=some l8/\∃ (t:OA) (u v:Nat),c.cell? (l8.add 2)=some (.slice t u v)/\(∃ (g7:OA),c.cell? b=some (.pointer g7)/\FCall P An #[.agg #[.bool z,.slice A B C],.agg #[.bool Q,.slice R S T]] c (fun p3 b5=>∃ (g8:Bool) (g9:OA) (h0 h1:Nat) (h2:Bool) (h3:OA) (h4 h5:Nat),p3= .agg #[.bool g8,.slice g9 h0 h1,.bool h2,.slice h3 h4 h5]/\Heap.le c b5/\wpH P (B8w 95 1 #[(0,.agg #[.bool g8,.slice g9 h0 h1,.bool h2,.slice h3 h4 h5])]) (fun p4 k6=>∃ (h6:OA) (h7 h8:Nat),p4= .slice h6 h7 h8/\Heap.le b5 k6/\wpH P (B8v #[95,95] 95 #[.slice t u v,.slice h6 h7 h8]) (fun p5 p6=>∃ (h9:OA) (i0 i1:Nat),p5= .slice h9 i0 i1/\∃ l9,g7=some l9/\wpH P (B8u 95 (.pointer (some (l9.add 2))) (.slice h9 i0 i1)) (fun _ p7=>x p7) p6) k6) b5))/\(FCall P An #[.agg #[.bool z,.slice A B C],.agg #[.bool Q,.slice R S T]] c (fun p8 r=>∃ (a3:Bool) (a4:OA) (a5 a6:Nat) (a7:Bool) (a8:OA) (a9 b0:Nat),p8= .agg #[.bool a3,.slice a4 a5 a6,.bool a7,.slice a8 a9 b0]/\Heap.le c r/\(∃ (i2:OA),r.cell? b=some (.pointer i2)/\wpH P (B8w 95 1 #[(0,.agg #[.bool a3,.slice a4 a5 a6,.bool a7,.slice a8 a9 b0])]) (fun p9 k7=>∃ (i3:OA) (i4 i5:Nat),p9= .slice i3 i4 i5/\Heap.le r k7/\wpH P (B8v #[95,95] 95 #[.slice t u v,.slice i3 i4 i5]) (fun q0 q1=>∃ (i6:OA) (i7 i8:Nat),q0= .slice i6 i7 i8/\∃ m0,i2=some m0/\wpH P (B8u 95 (.pointer (some (m0.add 2))) (.slice i6 i7 i8)) (fun _ q2=>x q2) q1) k7) r)/\(wpH P (B8w 95 1 #[(0,.agg #[.bool a3,.slice a4 a5 a6,.bool a7,.slice a8 a9 b0])]) (fun q3 O=>∃ (b1:OA) (b2 b3:Nat),q3= .slice b1 b2 b3/\Heap.le r O/\(∃ (i9:OA),O.cell? b=some (.pointer i9)/\wpH P (B8v #[95,95] 95 #[.slice t u v,.slice b1 b2 b3]) (fun q4 q5=>∃ (j0:OA) (j1 j2:Nat),q4= .slice j0 j1 j2/\∃ m1,i9=some m1/\wpH P (B8u 95 (.pointer (some (m1.add 2))) (.slice j0 j1 j2)) (fun _ q6=>x q6) q5) O)/\(wpH P (B8v #[95,95] 95 #[.slice t u v,.slice b1 b2 b3]) (fun q7 k8=>∃ (j3:OA) (j4 j5:Nat),q7= .slice j3 j4 j5/\∃ (j6:OA),k8.cell? b=some (.pointer j6)/\∃ m2,j6=some m2/\wpH P (B8u 95 (.pointer (some (m2.add 2))) (.slice j3 j4 j5)) (fun _ q8=>x q8) k8) O)) r)))))))
 (fun k9=>∃ (j7:OA),k9.cell? b=some (.pointer j7)/\K (.pointer j7) k9))) n4) n2) h
theorem Yf a b c d(hvc:Yg prog a b c d h K):FCall prog Ao #[.slice a b c,I d] h K:=
 C6 bod func68 [.tmp 4] ⟨[(8,⟨[31],[(9,2)],[.int .i64 0,.bool false,.slice none 0 0],⟨([11,12]++Lrg 31 21),[9,11,12]⟩⟩),(17,⟨[62],[],[.int .i64 0],⟨([13,14]++Lrg 62 17),[14]⟩⟩)],[(16,⟨[],[(9,2)],[.bool false,.slice none 0 0],⟨[52,53,54],[9]⟩⟩)],[(12,([1,2,3,4,5,0,6,7,8,9,10],[])),(21,([1,2,3,4,5,6,0,7,8,9,10,11,12],[]))],[(4,[.slice none 0 0])],[(12,[(0,[6,7])]),(21,[(0,[7,8,9])])]⟩ 92 [7,9,11,12,14] [115,132,135,136,137,138,139,140] [1000000000] (by kernel_rfl) hvc
def B8o(P:Program)(e:OA)(a:Int)(h:Heap)(K:VP):Prop:=
 ∃ g,e=some g/\∃ (f:OA) (k d:Nat),h.cell? (g.add 1)=some (.slice f k d)/\∃ i,e=some i/\∃ b,h.cell? (i.add 0)=some (I b)/\∃ j,e=some j/\∃ c,h.cell? (j.add 0)=some (I c)/\(0<=B3 ((B3 (a+1))*c)/\B3 ((B3 (a+1))*c)<=(d:Int))/\(0<=B3 (a*b)/\B3 (a*b)<=(((B3 ((B3 (a+1))*c)).toNat:Nat):Int))/\K (.slice (I8 f d ((B3 (a*b)).toNat) 2) (((B3 ((B3 (a+1))*c)).toNat)-((B3 (a*b)).toNat)) (d-((B3 (a*b)).toNat))) h
theorem B4e a b(hvc:B8o prog a b h K):FCall prog Lu #[.pointer a,I b] h K:=
 C6 bod func144 [.tmp 4] an0 23 [] [] [] (by kernel_rfl) hvc
def B6h(P:Program)(e:OA)(c:Int)(d:Int)(h:Heap)(K:VP):Prop:=
 FCall P Lu #[.pointer e,I c] h (fun b6 b7=>∃ (j:OA) (i b0:Nat),b6= .slice j i b0/\FCall P Lu #[.pointer e,I d] b7 (fun b8 b9=>∃ (k:OA) (l b1:Nat),b8= .slice k l b1/\∃ (m:LP) (p:LN),m [I 0] b9/\
 ∀ b a,m [I b] a->Br (decide (b<(i:Int))) (∃ n,k=some n/\0<=b/\b<(l:Int)/\∃ (q:Bool) (r:OA) (s t:Nat),a.cell? (B8t (n.add (b.toNat*2)) 0)=some (.bool q)/\a.cell? (B8t (n.add (b.toNat*2)) 1)=some (.slice r s t)/\∃ o,j=some o/\0<=b/\b<(i:Int)/\∃ (u:Bool) (v:OA) (w x:Nat),a.cell? (B8t (o.add (b.toNat*2)) 0)=some (.bool u)/\a.cell? (B8t (o.add (b.toNat*2)) 1)=some (.slice v w x)/\∃ a2,j=some a2/\0<=b/\b<(i:Int)/\wpH P (B8u 102 (.pointer (some (a2.add (b.toNat*2)))) (.agg #[.bool q,.slice r s t])) (fun _ c0=>∃ a3,k=some a3/\0<=b/\b<(l:Int)/\wpH P (B8u 102 (.pointer (some (a3.add (b.toNat*2)))) (.agg #[.bool u,.slice v w x])) (fun _ a1=>m [I (B3 (b+1))] a1/\p [I (B3 (b+1))] a1<p [I b] a) c0) a)
 (∃ a4,e=some a4/\∃ (y:OA) (z b2:Nat),a.cell? (a4.add 2)=some (.slice y z b2)/\∃ a5,e=some a5/\∃ (A:OA) (B b3:Nat),a.cell? (a5.add 2)=some (.slice A B b3)/\∃ a6,e=some a6/\∃ (C:OA) (D b4:Nat),a.cell? (a6.add 2)=some (.slice C D b4)/\∃ f,C=some f/\0<=d/\d<(D:Int)/\∃ (E:Bool) (F:OA) (G H:Nat) (J:Bool) (L:OA) (M N:Nat),a.cell? (B8t (f.add (d.toNat*4)) 0)=some (.bool E)/\a.cell? (B8t (f.add (d.toNat*4)) 1)=some (.slice F G H)/\a.cell? (B8t (f.add (d.toNat*4)) 2)=some (.bool J)/\a.cell? (B8t (f.add (d.toNat*4)) 3)=some (.slice L M N)/\∃ a7,e=some a7/\∃ (O:OA) (Q b5:Nat),a.cell? (a7.add 2)=some (.slice O Q b5)/\∃ g,O=some g/\0<=c/\c<(Q:Int)/\∃ (R:Bool) (S:OA) (T V:Nat) (W:Bool) (X:OA) (Z a0:Nat),a.cell? (B8t (g.add (c.toNat*4)) 0)=some (.bool R)/\a.cell? (B8t (g.add (c.toNat*4)) 1)=some (.slice S T V)/\a.cell? (B8t (g.add (c.toNat*4)) 2)=some (.bool W)/\a.cell? (B8t (g.add (c.toNat*4)) 3)=some (.slice X Z a0)/\∃ a8,y=some a8/\0<=c/\c<(z:Int)/\wpH P (B8u 106 (.pointer (some (a8.add (c.toNat*4)))) (.agg #[.bool E,.slice F G H,.bool J,.slice L M N])) (fun _ c1=>∃ a9,A=some a9/\0<=d/\d<(B:Int)/\wpH P (B8u 106 (.pointer (some (a9.add (d.toNat*4)))) (.agg #[.bool R,.slice S T V,.bool W,.slice X Z a0])) (fun _ c2=>K (.tuple #[]) c2) c1) a)))
theorem B18 a b c(hvc:B6h prog a b c h K):FCall prog A0i #[.pointer a,I b,I c] h K:=
 C6 bod func142 [] { loops:=[(2,⟨[17],[],[.int .i64 0],⟨([8]++Lrg 17 18),[]⟩⟩)] } 61 [] [144] [] (by kernel_rfl) hvc
def B6i(P:Program)(i:OA)(t:Int)(c:Int)(h:Heap)(K:VP):Prop:=
 ∃ (d:LP) (j:LN),d [I t] h/\
 ∀ a b,d [I a] b->∃ s,i=some s/\∃ (u:OA) (k v:Nat),b.cell? (s.add 2)=some (.slice u k v)/\Br (decide (a<(k:Int))) (FCall P Lu #[.pointer i,I a] b (fun x e=>∃ (l:OA) (m w:Nat),x= .slice l m w/\∃ g,l=some g/\0<=c/\c<(m:Int)/\∃ (n:Bool) (o:OA) (p q:Nat),e.cell? (B8t (g.add (c.toNat*2)) 0)=some (.bool n)/\e.cell? (B8t (g.add (c.toNat*2)) 1)=some (.slice o p q)/\FCall P G9 #[.agg #[.bool n,.slice o p q]] e (fun y f=>∃ (r:Bool),y= .bool r/\Br (!r) (K (.tuple #[I a,.bool true]) f)
 (d [I (B3 (a+1))] f/\j [I (B3 (a+1))] f<j [I a] b))))
 (K (.tuple #[I 0,.bool false]) b)
theorem B19 a b c(hvc:B6i prog a b c h K):FCall prog A0j #[.pointer a,I b,I c] h K:=
 C6 bod func141 [.tmp 6,.tmp 7] { loops:=[(2,⟨[8],[],[.int .i64 0],⟨([6,7,8]++Lrg 10 18),[]⟩⟩)] } 28 [] [138,144] [] (by kernel_rfl) hvc
def B2t(P:Program)(F:OA)(b4:Int)(b5:Int)(b:Int)(b6:Bool)(b7:OA)(b8 b9:Nat)(h:Heap)(K:VP):Prop:=
 FCall P Lu #[.pointer F,I b4] h (fun c2 c3=>∃ (i:OA) (e c0:Nat),c2= .slice i e c0/\FCall P Lu #[.pointer F,I b5] c3 (fun c4 v=>∃ (j:OA) (k c1:Nat),c4= .slice j k c1/\∃ A,i=some A/\0<=b/\b<(e:Int)/\∃ (m:Bool) (n:OA) (o p:Nat),v.cell? (B8t (A.add (b.toNat*2)) 0)=some (.bool m)/\v.cell? (B8t (A.add (b.toNat*2)) 1)=some (.slice n o p)/\∃ (f:LP) (d:LN),f [I 0] v/\
 ∀ a c,f [I a] c->Br (decide (a<(e:Int))) (∃ B,i=some B/\0<=a/\a<(e:Int)/\∃ (q:Bool) (r:OA) (s t:Nat),c.cell? (B8t (B.add (a.toNat*2)) 0)=some (.bool q)/\c.cell? (B8t (B.add (a.toNat*2)) 1)=some (.slice r s t)/\∃ (u:LP),(FCall P G9 #[.agg #[.bool q,.slice r s t]] c (fun c5 a8=>∃ (G:Bool),c5= .bool G/\Br G (FCall P G9 #[.agg #[.bool m,.slice n o p]] a8 (fun c6 g=>∃ (H:Bool),c6= .bool H/\Br H (f [I (B3 (a+1))] g/\d [I (B3 (a+1))] g<d [I a] c)
 (∃ C,j=some C/\0<=a/\a<(k:Int)/\∃ (J:Bool) (L:OA) (M N:Nat),g.cell? (B8t (C.add (a.toNat*2)) 0)=some (.bool J)/\g.cell? (B8t (C.add (a.toNat*2)) 1)=some (.slice L M N)/\FCall P G9 #[.agg #[.bool J,.slice L M N]] g (fun c7 w=>∃ (O:Bool),c7= .bool O/\Br O (f [I (B3 (a+1))] w/\d [I (B3 (a+1))] w<d [I a] c)
 (u [] w)))))
 (u [] a8)))/\
 ∀ b2,u [] b2->wpH P (Instr.alloc 203 true (.tuple #[])) (fun c8 x=>∃ (l:Addr),c8= .pointer (some l)/\∃ D,j=some D/\0<=b/\b<(k:Int)/\∃ (Q:Bool) (R:OA) (S T:Nat),x.cell? (B8t (D.add (b.toNat*2)) 0)=some (.bool Q)/\x.cell? (B8t (D.add (b.toNat*2)) 1)=some (.slice R S T)/\FCall P Y7 #[.pointer (some l),.agg #[.bool Q,.slice R S T],.agg #[.bool q,.slice r s t]] x (fun c9 y=>c9= .tuple #[]/\∃ E,j=some E/\0<=a/\a<(k:Int)/\∃ (V:Bool) (W:OA) (X Z:Nat),y.cell? (B8t (E.add (a.toNat*2)) 0)=some (.bool V)/\y.cell? (B8t (E.add (a.toNat*2)) 1)=some (.slice W X Z)/\FCall P De #[.pointer (some l),.agg #[.bool m,.slice n o p],.agg #[.bool V,.slice W X Z]] y (fun d0 a9=>d0= .tuple #[]/\FCall P Ue #[.pointer (some l)] a9 (fun d1 z=>∃ (a0:Bool) (a1:OA) (a2 a3:Nat),d1= .agg #[.bool a0,.slice a1 a2 a3]/\Heap.le a9 z/\FCall P Ix #[.agg #[.bool a0,.slice a1 a2 a3],.agg #[.bool b6,.slice b7 b8 b9]] z (fun d2 b0=>∃ (a4:Bool) (a5:OA) (a6 a7:Nat),d2= .agg #[.bool a4,.slice a5 a6 a7]/\Heap.le z b0/\∃ b3,i=some b3/\0<=a/\a<(e:Int)/\wpH P (B8u 102 (.pointer (some (b3.add (a.toNat*2)))) (.agg #[.bool a4,.slice a5 a6 a7])) (fun _ b1=>f [I (B3 (a+1))] b1/\d [I (B3 (a+1))] b1<d [I a] c) b0))))) b2)
 (K (.tuple #[]) c)))
theorem A8y a b c d e f g i(hvc:B2t prog a b c d e f g i h K):FCall prog Un #[.pointer a,I b,I c,I d,.agg #[.bool e,.slice f g i]] h K:=
 C6 bod func143 [] ⟨[(4,⟨[28],[],[.int .i64 0],⟨([13,14,15]++Lrg 28 37),[14]⟩⟩)],[(7,⟨[],[],[],⟨(Lrg 33 13),[]⟩⟩)],[(10,([0,1,3,2,4,5,6],[]))],[],[]⟩ 65 [9,12,14] [138,140,144,152,153,196] [152,196] (by kernel_rfl) hvc
def A8u(P:Program)(m:OA)(Z:Int)(h:Heap)(K:VP):Prop:=
 FCall P Rv #[I 1] h (fun a3 a4=>∃ (G:Bool) (H:OA) (J L:Nat),a3= .agg #[.bool G,.slice H J L]/\∃ (o:LP) (p:LN),o [.slice none 0 0,I 1,I 0,.bool G,.slice H J L] a4/\
 ∀ e b f d a g i j k n,o [.slice e b f,I d,I a,.bool g,.slice i j k] n->Br (decide (a<Z)) (FCall P A0j #[.pointer m,I (b:Int),I a] n (fun a5 s=>∃ (t:Int) (M:Bool),a5= .tuple #[I t,.bool M]/\Br (!M) (o [.slice e b f,I d,I (B3 (a+1)),.bool g,.slice i j k] s/\p [.slice e b f,I d,I (B3 (a+1)),.bool g,.slice i j k] s<p [.slice e b f,I d,I a,.bool g,.slice i j k] n)
 (∃ (u:LP),(Br (t != (b:Int)) (FCall P A0i #[.pointer m,I (b:Int),I t] s (fun a6 a7=>a6= .tuple #[]/\u [I (B3 (0-d))] a7))
 (u [I d] s))/\
 ∀ D E,u [I D] E->∃ X,m=some X/\∃ (a0:OA) (N a1:Nat),E.cell? (X.add 2)=some (.slice a0 N a1)/\∃ (q:LP) (r:LN),q [I 0] E/\
 ∀ c l,q [I c] l->Br (decide (c<(N:Int))) (Br (c != (b:Int)) (FCall P Un #[.pointer m,I c,I (b:Int),I a,.agg #[.bool g,.slice i j k]] l (fun a8 V=>a8= .tuple #[]/\q [I (B3 (c+1))] V/\r [I (B3 (c+1))] V<r [I c] l))
 (q [I (B3 (c+1))] l/\r [I (B3 (c+1))] l<r [I c] l))
 (FCall P Lu #[.pointer m,I (b:Int)] l (fun a9 C=>∃ (O:OA) (Q a2:Nat),a9= .slice O Q a2/\∃ F,O=some F/\0<=a/\a<(Q:Int)/\∃ (v:Bool) (w:OA) (x y:Nat),C.cell? (B8t (F.add (a.toNat*2)) 0)=some (.bool v)/\C.cell? (B8t (F.add (a.toNat*2)) 1)=some (.slice w x y)/\wpH P (B8w 45 1 #[(0,I a)]) (fun b0 b1=>∃ (R:OA) (S T:Nat),b0= .slice R S T/\wpH P (B8v #[45,45] 45 #[.slice e b f,.slice R S T]) (fun b2 W=>∃ (z:OA) (A B:Nat),b2= .slice z A B/\o [.slice z A B,I D,I (B3 (a+1)),.bool v,.slice w x y] W/\p [.slice z A B,I D,I (B3 (a+1)),.bool v,.slice w x y] W<p [.slice e b f,I d,I a,.bool g,.slice i j k] n) b1) C)))))
 (K (.tuple #[.slice e b f,.agg #[.bool g,.slice i j k],I d]) n))
theorem A4d a b(hvc:A8u prog a b h K):FCall prog Fc #[.pointer a,I b] h K:=
 C6 bod func69 [.tmp 4,.cell 5 102,.tmp 6] ⟨[(4,⟨[7,9,17],[(8,2)],[.slice none 0 0,.int .i64 0,.int .i64 0,.bool false,.slice none 0 0],⟨([7,9,10,11,12,13,14]++Lrg 17 52),[8]⟩⟩),(13,⟨[45],[],[.int .i64 0],⟨([14]++Lrg 45 13),[]⟩⟩)],[(12,⟨[9],[],[.int .i64 0],⟨([9]++Lrg 31 9),[]⟩⟩)],[],[],[]⟩ 72 [5,8] [139,141,142,143,144] [142,143] (by kernel_rfl) hvc
def B2j(P:Program)(e:OA)(f g:Nat)(i:Int)(h:Heap)(K:VP):Prop:=
 wpH P (Instr.box 95 (.slice e f g)) (fun j k=>∃ (b:Addr),j= .pointer (some b)/\wpH P (Instr.box 3 (I i)) (fun l d=>∃ (a:Addr),l= .pointer (some a)/\∃ (c:Int),d.cell? a=some (I c)/\Br (decide (c<(1:Int))) (False)
 (K (.func (.func 191) #[] #[.pointer (some b),.pointer (some a)]) d)) k) h
theorem A8j a b c d(hvc:B2j prog a b c d h K):FCall prog Uj #[.slice a b c,I d] h K:=
 C6 bod func135 [.tmp 4] an0 9 [] [] [] (by kernel_rfl) hvc
def A8k(P:Program)(p:Nat)(f:Addr)(j:Addr)(h:Heap)(K:VP):Prop:=
 ∃ (g:LP) (k:LN),g [I 0] h/\
 ∀ a d,g [I a] d->∃ (q:OA) (l r:Nat),d.cell? f=some (.slice q l r)/\Br (decide (a<(l:Int))) (∃ (c:Int),d.cell? j=some (I c)/\∃ (s:OA) (b t:Nat),d.cell? f=some (.slice s b t)/\(0<=a/\a<=(b:Int))/\∃ (m:OA) (u n:Nat),d.cell? f=some (.slice m u n)/\(0<=B3 (a+(if ((b-(a.toNat):Nat):Int)<c then ((b-(a.toNat):Nat):Int) else c))/\B3 (a+(if ((b-(a.toNat):Nat):Int)<c then ((b-(a.toNat):Nat):Int) else c))<=(n:Int))/\(0<=B3 (a+(if ((b-(a.toNat):Nat):Int)<c then ((b-(a.toNat):Nat):Int) else c))/\B3 (a+(if ((b-(a.toNat):Nat):Int)<c then ((b-(a.toNat):Nat):Int) else c))<=(((B3 (a+(if ((b-(a.toNat):Nat):Int)<c then ((b-(a.toNat):Nat):Int) else c))).toNat:Nat):Int))/\(0<=a/\a<=(((B3 (a+(if ((b-(a.toNat):Nat):Int)<c then ((b-(a.toNat):Nat):Int) else c))).toNat:Nat):Int))/\YCall P p #[.slice (I8 m ((B3 (a+(if ((b-(a.toNat):Nat):Int)<c then ((b-(a.toNat):Nat):Int) else c))).toNat) (a.toNat) 4) ((B3 (a+(if ((b-(a.toNat):Nat):Int)<c then ((b-(a.toNat):Nat):Int) else c))).toNat-a.toNat) ((B3 (a+(if ((b-(a.toNat):Nat):Int)<c then ((b-(a.toNat):Nat):Int) else c))).toNat-a.toNat)] d (fun v e=>∃ (o:Bool),v= .bool o/\Br (!o) (K (.tuple #[]) e)
 (∃ (i:Int),e.cell? j=some (I i)/\g [I (B3 (a+i))] e/\k [I (B3 (a+i))] e<k [I a] d)))
 (K (.tuple #[]) d)
theorem A4b(a:Nat)(b:Addr)(c:Addr)(hvc:A8k prog a b c h K):FCall prog Ez #[.func (.yield a) #[] #[],.pointer (some b),.pointer (some c)] h K:=
 C6 bod func191 [] { loops:=[(1,⟨[4],[],[.int .i64 0],⟨(Lrg 4 27),[]⟩⟩)] } 31 [] [] [] (by kernel_rfl) hvc
theorem Vj:∀ (args:Array Value) (W:World),(callFunc Ez args).run prog W= .ok (.enter Ez args) W:=call191
def A8i(P:Program)(q:OA)(f H:Nat)(h:Heap)(K:VP):Prop:=
 ∃ (l:LP) (r:LN),l [I 0,I 0] h/\
 ∀ c a d,l [I c,I a] d->Br (decide (a<(f:Int))) (∃ A,q=some A/\0<=a/\a<(f:Int)/\∃ (C:OA) (g D:Nat),d.cell? (A.add (a.toNat*1))=some (.slice C g D)/\Br (decide ((B3 (c+(g:Int)))<(0:Int))) (False)
 (l [I (B3 (c+(g:Int))),I (B3 (a+1))] d/\r [I (B3 (c+(g:Int))),I (B3 (a+1))] d<r [I c,I a] d))
 (FCall P A0d #[.slice none 0 0,I c] d (fun E F=>∃ (s:OA) (t u:Nat),E= .slice s t u/\∃ (m:LP) (v:LN),m [.slice s t u,I 0] F/\
 ∀ i j k b e,m [.slice i j k,I b] e->Br (decide (b<(f:Int))) (∃ B,q=some B/\0<=b/\b<(f:Int)/\∃ (w:OA) (x y:Nat),e.cell? (B.add (b.toNat*1))=some (.slice w x y)/\wpH P (B8v #[23,23] 23 #[.slice i j k,.slice w x y]) (fun G z=>∃ (n:OA) (o p:Nat),G= .slice n o p/\m [.slice n o p,I (B3 (b+1))] z/\v [.slice n o p,I (B3 (b+1))] z<v [.slice i j k,I b] e) e)
 (K (.slice i j k) e)))
theorem A4a a b c(hvc:A8i prog a b c h K):FCall prog Pc #[.slice a b c] h K:=
 C6 bod func62 [.tmp 2] { loops:=[(3,⟨[3,11],[],[.int .i64 0,.int .i64 0],⟨([3,5]++Lrg 11 12),[]⟩⟩),(11,⟨[6,27],[],[.slice none 0 0,.int .i64 0],⟨([6,8]++Lrg 27 8),[]⟩⟩)] } 36 [] [133] [] (by kernel_rfl) hvc
def A8g(P:Program)(p:OA)(j q:Nat)(k:Int)(h:Heap)(K:VP):Prop:=
 Br (decide (k<(0:Int))) (False)
 (FCall P A25 #[U (B7 (j:Int)),U (B7 k)] h (fun r s=>∃ (l:Int) (e:Int),r= .tuple #[U l,U e]/\Br (decide (l>(0:Int))) (False)
 (Br (decide (e>(9223372036854775807:Int))) (False)
 (wpH P (B8y 23 (I (B3 e)) (I (B3 e))) (fun t u=>∃ (d:OA) (c b:Nat),t= .slice d c b/\wpH P (Builtin.copy_ #[23,23] 3 #[.slice d c b,.slice p j q]) (fun v w=>∃ o,v=I o/\∃ (g:LP) (m:LN),g [I o] w/\
 ∀ a f,g [I a] f->Br (decide (a<(c:Int))) ((0<=a/\a<=(c:Int))/\(0<=a/\a<=(b:Int))/\wpH P (Builtin.copy_ #[23,23] 3 #[.slice (I8 d b (a.toNat) 1) (c-(a.toNat)) (b-(a.toNat)),.slice (I8 d b 0 1) ((a.toNat)-0) (b-0)]) (fun x n=>∃ i,x=I i/\g [I (B3 (a+i))] n/\m [I (B3 (a+i))] n<m [I a] f) f)
 (K (.slice d c b) f)) u) s))))
theorem A48 a b c d(hvc:A8g prog a b c d h K):FCall prog Pa #[.slice a b c,I d] h K:=
 C6 bod func63 [.tmp 4] { loops:=[(8,⟨[8],[],[.int .i64 0],⟨([8]++Lrg 34 13),[]⟩⟩)] } 48 [] [134] [] (by kernel_rfl) hvc
def B6a(P:Program)(e:OA)(b a:Nat)(d:Int)(h:Heap)(K:VP):Prop:=
 Br (decide (d<(0:Int))) (False)
 (Br (decide ((B3 (d-(B3 ((a:Int)-(b:Int)))))>(0:Int))) ((0<=(a:Int)/\(a:Int)<=(a:Int))/\wpH P (B8v #[23,3] 23 #[.slice (I8 e a 0 1) ((((a:Int)).toNat)-0) (a-0),I (B3 (d-(B3 ((a:Int)-(b:Int)))))]) (fun i j=>∃ (f:OA) (g c:Nat),i= .slice f g c/\(0<=(b:Int)/\(b:Int)<=(c:Int))/\K (.slice (I8 f c 0 1) ((((b:Int)).toNat)-0) (c-0)) j) h)
 (K (.slice e b a) h))
theorem B12 a b c d(hvc:B6a prog a b c d h K):FCall prog A0d #[.slice a b c,I d] h K:=
 C6 bod func133 [.tmp 4] an0 27 [] [] [] (by kernel_rfl) hvc
def B2n(P:Program)(b:Int)(c:Int)(d:OA)(e f:Nat)(h:Heap)(K:VP):Prop:=
 FCall P A0g #[.agg #[I b,I c,.slice d e f]] h (fun k l=>∃ (g:OA) (i j:Nat) (a:Bool),k= .tuple #[.slice g i j,.bool a]/\K (.bool a) l)
theorem A8o a b c d e(hvc:B2n prog a b c d e h K):FCall prog Jg #[.agg #[I a,I b,.slice c d e]] h K:=
 C6 bod func21 [.tmp 2] an0 11 [1] [35] [] (by kernel_rfl) hvc
def B6e(P:Program)(c:Int)(b:Int)(r:OA)(j s:Nat)(h:Heap)(K:VP):Prop:=
 Br (decide (c<(1:Int))) (K (.tuple #[.slice none 0 0,.bool false]) h)
 (Br (decide (c>(64:Int))) (K (.tuple #[.slice none 0 0,.bool false]) h)
 (Br (decide (b<(1:Int))) (K (.tuple #[.slice none 0 0,.bool false]) h)
 (Br (decide (b>(64:Int))) (K (.tuple #[.slice none 0 0,.bool false]) h)
 (Br ((j:Int) != (B3 (c*b))) (K (.tuple #[.slice none 0 0,.bool false]) h)
 (FCall P A0b #[.slice r j s] h (fun u o=>∃ (k:OA) (t d:Nat) (l:Bool),u= .tuple #[.slice k t d,.bool l]/\Br (!l) (K (.tuple #[.slice none 0 0,.bool false]) o)
 (wpH P (B8y 52 (I c) (I c)) (fun v w=>∃ (f:OA) (g m:Nat),v= .slice f g m/\∃ (i:LP) (n:LN),i [I 0] w/\
 ∀ a e,i [I a] e->Br (decide (a<c)) ((0<=B3 ((B3 (a+1))*b)/\B3 ((B3 (a+1))*b)<=(d:Int))/\(0<=B3 (a*b)/\B3 (a*b)<=(((B3 ((B3 (a+1))*b)).toNat:Nat):Int))/\∃ q,f=some q/\0<=a/\a<(g:Int)/\wpH P (B8u 58 (.pointer (some (q.add (a.toNat*1)))) (.slice (I8 k d ((B3 (a*b)).toNat) 4) (((B3 ((B3 (a+1))*b)).toNat)-((B3 (a*b)).toNat)) (d-((B3 (a*b)).toNat)))) (fun _ p=>i [I (B3 (a+1))] p/\n [I (B3 (a+1))] p<n [I a] e) e)
 (K (.tuple #[.slice f g m,.bool true]) e)) o)))))))
theorem B16 a b c d e(hvc:B6e prog a b c d e h K):FCall prog A0g #[.agg #[I a,I b,.slice c d e]] h K:=
 C6 bod func35 [.tmp 2,.tmp 3] { loops:=[(8,⟨[7],[],[.int .i64 0],⟨([7]++Lrg 48 20),[]⟩⟩)] } 69 [1] [38] [] (by kernel_rfl) hvc
def B6f(P:Program)(n:OA)(c E:Nat)(h:Heap)(K:VP):Prop:=
 Br ((c:Int)==(0:Int)) (K (.agg #[I 0,I 0,.slice none 0 0]) h)
 (∃ y,n=some y/\0<=(0:Int)/\(0:Int)<(c:Int)/\∃ (A:OA) (o B:Nat),h.cell? (y.add (((0:Int)).toNat*1))=some (.slice A o B)/\∃ (j:LP) (p:LN),j [I 0,I (c:Int),I (o:Int),.slice none 0 0] h/\
 ∀ a d e f g i b,j [I a,I d,I e,.slice f g i] b->Br (decide (a<(c:Int))) (∃ z,n=some z/\0<=a/\a<(c:Int)/\∃ (q:OA) (r s:Nat),b.cell? (z.add (a.toNat*1))=some (.slice q r s)/\FCall P Uf #[.slice q r s] b (fun C w=>∃ (t:OA) (u v:Nat),C= .slice t u v/\Heap.le b w/\wpH P (B8v #[23,23] 23 #[.slice f g i,.slice t u v]) (fun D x=>∃ (k:OA) (l m:Nat),D= .slice k l m/\j [I (B3 (a+1)),I d,I e,.slice k l m] x/\p [I (B3 (a+1)),I d,I e,.slice k l m] x<p [I a,I d,I e,.slice f g i] b) w))
 (K (.agg #[I d,I e,.slice f g i]) b))
theorem B17 a b c(hvc:B6f prog a b c h K):FCall prog A0h #[.slice a b c] h K:=
 C6 bod func64 [.cell 2 25] { loops:=[(5,⟨[4],[(3,3)],[.int .i64 0,.int .i64 0,.int .i64 0,.slice none 0 0],⟨([4]++Lrg 16 15),[3]⟩⟩)] } 32 [2,3] [123] [1000000000] (by kernel_rfl) hvc
def B2o(P:Program)(c:Int)(g:Int)(h:Heap)(K:VP):Prop:=
 wpH P (B8y 52 (I c) (I c)) (fun p q=>∃ (d:OA) (e i:Nat),p= .slice d e i/\∃ (f:LP) (j:LN),f [I 0] q/\
 ∀ a b,f [I a] b->Br (decide (a<c)) (wpH P (B8y 58 (I g) (I g)) (fun r s=>∃ (k:OA) (l m:Nat),r= .slice k l m/\∃ o,d=some o/\0<=a/\a<(e:Int)/\wpH P (B8u 58 (.pointer (some (o.add (a.toNat*1)))) (.slice k l m)) (fun _ n=>f [I (B3 (a+1))] n/\j [I (B3 (a+1))] n<j [I a] b) s) b)
 (K (.slice d e i) b)) h
theorem A8q a b(hvc:B2o prog a b h K):FCall prog Ul #[I a,I b] h K:=
 C6 bod func107 [.tmp 4] { loops:=[(3,⟨[6],[],[.int .i64 0],⟨([6]++Lrg 9 10),[]⟩⟩)] } 20 [] [] [] (by kernel_rfl) hvc
def B6d(P:Program)(c:Int)(h:Heap)(K:VP):Prop:=
 FCall P Ul #[I c,I c] h (fun y z=>∃ (d:OA) (e g:Nat),y= .slice d e g/\∃ (f:LP) (i:LN),f [I 0] z/\
 ∀ a b,f [I a] b->Br (decide (a<c)) (∃ v,d=some v/\0<=a/\a<(e:Int)/\∃ (j:OA) (k x:Nat),b.cell? (v.add (a.toNat*1))=some (.slice j k x)/\FCall P B7f #[I 1] b (fun A t=>∃ (l:Bool) (m:OA) (n o:Nat) (p:Bool) (q:OA) (r s:Nat),A= .agg #[.bool l,.slice m n o,.bool p,.slice q r s]/\Heap.le b t/\∃ w,j=some w/\0<=a/\a<(k:Int)/\wpH P (B8u 66 (.pointer (some (w.add (a.toNat*4)))) (.agg #[.bool l,.slice m n o,.bool p,.slice q r s])) (fun _ u=>f [I (B3 (a+1))] u/\i [I (B3 (a+1))] u<i [I a] b) t))
 (K (.slice d e g) b))
theorem B15 a(hvc:B6d prog a h K):FCall prog A0f #[I a] h K:=
 C6 bod func65 [.tmp 2] { loops:=[(3,⟨[4],[],[.int .i64 0],⟨([4]++Lrg 8 12),[]⟩⟩)] } 21 [] [107,109] [] (by kernel_rfl) hvc
def B8n(P:Program)(e:OA)(b a6:Nat)(h:Heap)(K:VP):Prop:=
 Br ((b:Int)==(0:Int)) (K (.tuple #[.agg #[I 0,I 0,.slice none 0 0],I 4]) h)
 (∃ L,e=some L/\0<=(0:Int)/\(0:Int)<(b:Int)/\∃ (S:OA) (w T:Nat),h.cell? (L.add (((0:Int)).toNat*1))=some (.slice S w T)/\Br ((w:Int)==(0:Int)) (K (.tuple #[.agg #[I 0,I 0,.slice none 0 0],I 4]) h)
 (∃ (r:LP) (x:LN),r [I 0,I 0,I 0,.slice none 0 0] h/\
 ∀ c m n o p q a,r [I c,I m,I n,.slice o p q] a->Br (decide (c<(b:Int))) (∃ M,e=some M/\0<=c/\c<(b:Int)/\∃ (V:OA) (y W:Nat),a.cell? (M.add (c.toNat*1))=some (.slice V y W)/\∃ N,e=some N/\0<=(0:Int)/\(0:Int)<(b:Int)/\∃ (X:OA) (z Z:Nat),a.cell? (N.add (((0:Int)).toNat*1))=some (.slice X z Z)/\Br ((y:Int) != (z:Int)) (K (.tuple #[.agg #[I 0,I 0,.slice none 0 0],I 4]) a)
 (r [I (B3 (c+1)),I m,I n,.slice o p q] a/\x [I (B3 (c+1)),I m,I n,.slice o p q] a<x [I c,I m,I n,.slice o p q] a))
 (Br (decide ((b:Int)>(64:Int))) (K (.tuple #[.agg #[I 0,I 0,.slice none 0 0],I 2]) a)
 (∃ O,e=some O/\0<=(0:Int)/\(0:Int)<(b:Int)/\∃ (a0:OA) (A a1:Nat),a.cell? (O.add (((0:Int)).toNat*1))=some (.slice a0 A a1)/\Br (decide ((A:Int)>(64:Int))) (K (.tuple #[.agg #[I 0,I 0,.slice none 0 0],I 2]) a)
 (∃ Q,e=some Q/\0<=(0:Int)/\(0:Int)<(b:Int)/\∃ (a2:OA) (B a3:Nat),a.cell? (Q.add (((0:Int)).toNat*1))=some (.slice a2 B a3)/\∃ (s:LP) (C:LN),s [I 0,I (b:Int),I (B:Int),.slice none 0 0] a/\
 ∀ d f g i j k l,s [I d,I f,I g,.slice i j k] l->Br (decide (d<(b:Int))) (∃ R,e=some R/\0<=d/\d<(b:Int)/\∃ (D:OA) (E F:Nat),l.cell? (R.add (d.toNat*1))=some (.slice D E F)/\wpH P (B8v #[23,23] 23 #[.slice i j k,.slice D E F]) (fun a4 H=>∃ (t:OA) (u v:Nat),a4= .slice t u v/\s [I (B3 (d+1)),I f,I g,.slice t u v] H/\C [I (B3 (d+1)),I f,I g,.slice t u v] H<C [I d,I f,I g,.slice i j k] l) l)
 (FCall P Jg #[.agg #[I f,I g,.slice i j k]] l (fun a5 J=>∃ (G:Bool),a5= .bool G/\Br (!G) (K (.tuple #[.agg #[I 0,I 0,.slice none 0 0],I 1]) J)
 (K (.tuple #[.agg #[I f,I g,.slice i j k],I 0]) J))))))))
theorem B4c a b c(hvc:B8n prog a b c h K):FCall prog A6q #[.slice a b c] h K:=
 C6 bod func16 [.cell 2 25,.tmp 3] { loops:=[(4,⟨[4],[(2,3)],[.int .i64 0,.int .i64 0,.int .i64 0,.slice none 0 0],⟨([3,4]++Lrg 18 17),[2]⟩⟩),(12,⟨[6],[(5,3)],[.int .i64 0,.int .i64 0,.int .i64 0,.slice none 0 0],⟨([6]++Lrg 53 14),[5]⟩⟩)] } 72 [2,5] [21] [1000000000] (by kernel_rfl) hvc
def Ym(P:Program)(a:Int)(h:Heap)(K:VP):Prop:=
 Br (decide (a<(1:Int))) (K (.tuple #[.agg #[I 0,I 0,.slice none 0 0],I 3]) h)
 (Br (decide (a>(64:Int))) (K (.tuple #[.agg #[I 0,I 0,.slice none 0 0],I 3]) h)
 (FCall P A0f #[I a] h (fun k l=>∃ (b:OA) (c d:Nat),k= .slice b c d/\FCall P A0h #[.slice b c d] l (fun m n=>∃ (e:Int) (f:Int) (g:OA) (i j:Nat),m= .agg #[I e,I f,.slice g i j]/\K (.tuple #[.agg #[I e,I f,.slice g i j],I 0]) n))))
theorem Yl a(hvc:Ym prog a h K):FCall prog Hm #[I a] h K:=
 C6 bod func18 [.cell 2 25,.tmp 3] an0 14 [2] [64,65] [] (by kernel_rfl) hvc
def FAt(P:Program)(e:Int)(b:Int)(f:OA)(g l:Nat)(c:Int)(d:Int)(h:Heap)(K:VP):Prop:=
 FCall P Jg #[.agg #[I e,I b,.slice f g l]] h (fun m a=>∃ (i:Bool),m= .bool i/\Br (!i) (K (.string ({ data:=#[48] }:ByteArray)) a)
 (Br (decide (c<(0:Int))) (K (.string ({ data:=#[48] }:ByteArray)) a)
 (Br (decide (c>=e)) (K (.string ({ data:=#[48] }:ByteArray)) a)
 (Br (decide (d<(0:Int))) (K (.string ({ data:=#[48] }:ByteArray)) a)
 (Br (decide (d>=b)) (K (.string ({ data:=#[48] }:ByteArray)) a)
 (∃ k,f=some k/\0<=B3 ((B3 (c*b))+d)/\B3 ((B3 (c*b))+d)<(g:Int)/\∃ (j:ByteArray),a.cell? (k.add ((B3 ((B3 (c*b))+d)).toNat*1))=some (.string j)/\K (.string j) a))))))
theorem B6g a b c d e f g(hvc:FAt prog a b c d e f g h K):FCall prog B07 #[.agg #[I a,I b,.slice c d e],I f,I g] h K:=
 C6 bod func23 [.tmp 6] an0 40 [3] [21] [] (by kernel_rfl) hvc
def B2l(P:Program)(i:Int)(j:OA)(d k:Nat)(h:Heap)(K:VP):Prop:=
 ∃ (c:LP) (e:LN),c [I 0] h/\
 ∀ a b,c [I a] b->Br (decide (a<(d:Int))) (∃ g,j=some g/\0<=a/\a<(d:Int)/\∃ (f:ByteArray),b.cell? (g.add (a.toNat*1))=some (.string f)/\Br (decide (((ByteArray.size f:Nat):Int)>i)) (K (.bool false) b)
 (c [I (B3 (a+1))] b/\e [I (B3 (a+1))] b<e [I a] b))
 (K (.bool true) b)
theorem A8m a b c d(hvc:B2l prog a b c d h K):FCall prog Uk #[I a,.slice b c d] h K:=
 C6 bod func14 [.tmp 4] { loops:=[(2,⟨[5],[],[.int .i64 0],⟨(Lrg 4 15),[]⟩⟩)] } 19 [] [] [] (by kernel_rfl) hvc
def A2n(P:Program)(l:OA)(c n:Nat)(m:OA)(e o:Nat)(h:Heap)(K:VP):Prop:=
 Br ((c:Int) != (e:Int)) (K (.bool false) h)
 (∃ (d:LP) (f:LN),d [I 0] h/\
 ∀ a b,d [I a] b->Br (decide (a<(c:Int))) (∃ j,l=some j/\0<=a/\a<(c:Int)/\∃ (g:ByteArray),b.cell? (j.add (a.toNat*1))=some (.string g)/\∃ k,m=some k/\0<=a/\a<(e:Int)/\∃ (i:ByteArray),b.cell? (k.add (a.toNat*1))=some (.string i)/\Br (!(B8x g==B8x i)) (K (.bool false) b)
 (d [I (B3 (a+1))] b/\f [I (B3 (a+1))] b<f [I a] b))
 (K (.bool true) b))
theorem A16 a b c d e f(hvc:A2n prog a b c d e f h K):FCall prog Gg #[.slice a b c,.slice d e f] h K:=
 C6 bod func60 [.tmp 4] { loops:=[(4,⟨[5],[],[.int .i64 0],⟨([4,5]++Lrg 11 15),[]⟩⟩)] } 26 [] [] [] (by kernel_rfl) hvc
def B6c(P:Program)(l:OA)(c n:Nat)(m:OA)(e o:Nat)(h:Heap)(K:VP):Prop:=
 Br ((c:Int) != (e:Int)) (K (.bool false) h)
 (∃ (d:LP) (f:LN),d [I 0] h/\
 ∀ a b,d [I a] b->Br (decide (a<(c:Int))) (∃ g,l=some g/\0<=a/\a<(c:Int)/\∃ i,b.cell? (g.add (a.toNat*1))=some (I i)/\∃ j,m=some j/\0<=a/\a<(e:Int)/\∃ k,b.cell? (j.add (a.toNat*1))=some (I k)/\Br (i != k) (K (.bool false) b)
 (d [I (B3 (a+1))] b/\f [I (B3 (a+1))] b<f [I a] b))
 (K (.bool true) b))
theorem B13 a b c d e f(hvc:B6c prog a b c d e f h K):FCall prog A0e #[.slice a b c,.slice d e f] h K:=
 C6 bod func61 [.tmp 4] { loops:=[(4,⟨[5],[],[.int .i64 0],⟨([4,5]++Lrg 11 15),[]⟩⟩)] } 26 [] [] [] (by kernel_rfl) hvc
def Yk(P:Program)(b:Int)(c:Int)(d:OA)(e f:Nat)(g:Int)(i:Int)(j:OA)(k l:Nat)(h:Heap)(K:VP):Prop:=
 Br (b==g) (Br (c==i) (FCall P Gg #[.slice d e f,.slice j k l] h (fun m n=>∃ (a:Bool),m= .bool a/\K (.bool a) n))
 (K (.bool false) h))
 (K (.bool false) h)
theorem Yj a b c d e f g i j k(hvc:Yk prog a b c d e f g i j k h K):FCall prog Dj #[.agg #[I a,I b,.slice c d e],.agg #[I f,I g,.slice i j k]] h K:=
 C6 bod func19 [.tmp 4] an0 24 [2,3] [60] [] (by kernel_rfl) hvc
def B2k(P:Program) (h:Heap)(K:VP):Prop:=
 wpH P (B8w 23 4 #[(0,.string ({ data:=#[50] }:ByteArray)),(1,.string ({ data:=#[52] }:ByteArray)),(2,.string ({ data:=#[49] }:ByteArray)),(3,.string ({ data:=#[50] }:ByteArray))]) (fun D E=>∃ (b:OA) (c d:Nat),D= .slice b c d/\FCall P Pb #[.agg #[I 2,I 2,.slice b c d]] E (fun F G=>∃ (B:Int) (C:Int) (e:OA) (f g:Nat) (i:OA) (j k:Nat) (l:Int),F= .tuple #[.agg #[I B,I C,.slice e f g],.slice i j k,I l]/\wpH P (B8w 23 4 #[(0,.string ({ data:=#[49] }:ByteArray)),(1,.string ({ data:=#[50] }:ByteArray)),(2,.string ({ data:=#[51] }:ByteArray)),(3,.string ({ data:=#[52] }:ByteArray))]) (fun H J=>∃ (m:OA) (n o:Nat),H= .slice m n o/\FCall P A6p #[.agg #[I 2,I 2,.slice m n o]] J (fun L z=>∃ (p:ByteArray) (q:Int),L= .tuple #[.string p,I q]/\Br (l==(0:Int)) (wpH P (B8w 23 4 #[(0,.string ({ data:=#[49] }:ByteArray)),(1,.string ({ data:=#[50] }:ByteArray)),(2,.string ({ data:=#[48] }:ByteArray)),(3,.string ({ data:=#[48] }:ByteArray))]) (fun M N=>∃ (r:OA) (s t:Nat),M= .slice r s t/\FCall P Gg #[.slice e f g,.slice r s t] N (fun O A=>∃ (u:Bool),O= .bool u/\Br u (wpH P (B8w 45 1 #[(0,I 0)]) (fun Q R=>∃ (v:OA) (w x:Nat),Q= .slice v w x/\FCall P A0e #[.slice i j k,.slice v w x] R (fun S a=>∃ (y:Bool),S= .bool y/\Br y (Br (B8x p==B8x ({ data:=#[45,50] }:ByteArray)) (K (.bool (q==(0:Int))) a)
 (K (.bool false) a))
 (K (.bool false) a))) A)
 (K (.bool false) A))) z)
 (K (.bool false) z))) G)) h
theorem A8l (hvc:B2k prog  h K):FCall prog U2 #[] h K:=
 C6 bod func13 [.tmp 0] an0 42 [1,2] [25,59,60,61] [] (by kernel_rfl) hvc
def Ss(P:Program)(g:OA)(c s:Nat)(i:Int)(j:Int)(k:OA)(d l:Nat)(t:Int)(u:Int)(v:Int)(h:Heap)(K:VP):Prop:=
 Br (decide ((c:Int)>(70:Int))) (FCall P U2 #[] h (fun c2 c3=>∃ (w:Bool),c2= .bool w/\K (.bool w) c3))
 (Br (decide ((d:Int)>(80:Int))) (FCall P U2 #[] h (fun c4 c5=>∃ (x:Bool),c4= .bool x/\K (.bool x) c5))
 (∃ (o:LP) (y:LN),o [I 0] h/\
 ∀ a b,o [I a] b->Br (decide (a<(c:Int))) (∃ b8,g=some b8/\0<=a/\a<(c:Int)/\∃ (c0:OA) (z c1:Nat),b.cell? (b8.add (a.toNat*1))=some (.slice c0 z c1)/\Br (decide ((z:Int)>(70:Int))) (FCall P U2 #[] b (fun c6 c7=>∃ (A:Bool),c6= .bool A/\K (.bool A) c7))
 (∃ b9,g=some b9/\0<=a/\a<(c:Int)/\∃ (B:OA) (C D:Nat),b.cell? (b9.add (a.toNat*1))=some (.slice B C D)/\FCall P Uk #[I 40,.slice B C D] b (fun c8 p=>∃ (E:Bool),c8= .bool E/\Br (!E) (FCall P U2 #[] p (fun c9 d0=>∃ (F:Bool),c9= .bool F/\K (.bool F) d0))
 (o [I (B3 (a+1))] p/\y [I (B3 (a+1))] p<y [I a] b))))
 (FCall P A6o #[.slice g c s] b (fun d1 d2=>∃ (G:Int) (H:Int) (J:OA) (L M:Nat) (N:Int),d1= .tuple #[.agg #[I G,I H,.slice J L M],I N]/\FCall P A6q #[.slice g c s] d2 (fun d3 d4=>∃ (O:Int) (Q:Int) (R:OA) (S T:Nat) (V:Int),d3= .tuple #[.agg #[I O,I Q,.slice R S T],I V]/\FCall P Dh #[I t] d4 (fun d5 d6=>∃ (W:Int) (X:Int) (Z:OA) (a0 a1:Nat) (a2:Int),d5= .tuple #[.agg #[I W,I X,.slice Z a0 a1],I a2]/\FCall P Hm #[I t] d6 (fun d7 b6=>∃ (a3:Int) (a4:Int) (a5:OA) (a6 a7:Nat) (a8:Int),d7= .tuple #[.agg #[I a3,I a4,.slice a5 a6 a7],I a8]/\FCall P Dj #[.agg #[I G,I H,.slice J L M],.agg #[I O,I Q,.slice R S T]] b6 (fun d8 e=>∃ (a9:Bool),d8= .bool a9/\Heap.le b6 e/\Br a9 (Br (N==V) (FCall P Dj #[.agg #[I W,I X,.slice Z a0 a1],.agg #[I a3,I a4,.slice a5 a6 a7]] e (fun d9 f=>∃ (b0:Bool),d9= .bool b0/\Heap.le e f/\Br b0 (Br (a2==a8) (FCall P Jf #[.agg #[I i,I j,.slice k d l]] f (fun e0 q=>∃ (b1:Bool),e0= .bool b1/\Heap.le f q/\FCall P Jg #[.agg #[I i,I j,.slice k d l]] q (fun e1 m=>∃ (b2:Bool),e1= .bool b2/\Heap.le q m/\Br (b1==b2) (FCall P B06 #[.agg #[I i,I j,.slice k d l],I u,I v] m (fun e2 r=>∃ (b3:ByteArray),e2= .string b3/\Heap.le m r/\FCall P B07 #[.agg #[I i,I j,.slice k d l],I u,I v] r (fun e3 n=>∃ (b4:ByteArray),e3= .string b4/\Heap.le r n/\Br (B8x b3==B8x b4) (FCall P U2 #[] n (fun e4 b7=>∃ (b5:Bool),e4= .bool b5/\Heap.le n b7/\K (.bool b5) b7))
 (K (.bool false) n))))
 (K (.bool false) m))))
 (K (.bool false) f))
 (K (.bool false) f)))
 (K (.bool false) e))
 (K (.bool false) e)))))))))
theorem Vk a b c d e f g i j k l(hvc:Ss prog a b c d e f g i j k l h K):FCall prog Ls #[.slice a b c,.agg #[I d,I e,.slice f g i],I j,I k,I l] h K:=
 C6 bod func3 [.tmp 10] ⟨[(4,⟨[11],[],[.int .i64 0],⟨([10,11]++Lrg 30 21),[]⟩⟩)],[],[(12,((Lrg 0 20++[21,20,22,23,24,25,26,27,28,30,31,32,29,33,34,35,36,37,38,39]),[]))],[],[]⟩ 110 [6,12,14,16,18] (Lrg 13 11) [] (by kernel_rfl) hvc
end Go.Proofs.YtajkakhfcokljaaGreatDoor
