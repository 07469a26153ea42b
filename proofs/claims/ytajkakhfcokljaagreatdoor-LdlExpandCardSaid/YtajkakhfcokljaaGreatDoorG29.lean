/-
  Texts of this proof, merged by a program of ours.
-/
import Derived.Test.YtajkakhfcokljaaGreatDoorProg
import Derived.Test.YtajkakhfcokljaaGreatDoorG05
import Derived.Test.YtajkakhfcokljaaGreatDoorG06
import Derived.Test.YtajkakhfcokljaaGreatDoorG13
import Derived.Test.YtajkakhfcokljaaGreatDoorG07
import Derived.Test.YtajkakhfcokljaaGreatDoorG10
import Derived.Test.YtajkakhfcokljaaGreatDoorG27
import Derived.Test.YtajkakhfcokljaaGreatDoorG09
open Go.Proofs.Tryz
set_option linter.all false
open _root_.Go.Addr renaming add->C34
open _root_.Go.Builtin renaming append_->C36
open _root_.Go.Instr renaming storeAt->C35,makeSlice->C37,buildSlice->C38,alloc->C39
namespace Go.Proofs.YtajkakhfcokljaaGreatDoor
open Go
set_option maxRecDepth 100000
variable {h:Heap} {K:VP}
abbrev Hs:Nat:=104
abbrev Ay:Nat:=97
abbrev J1:Nat:=136
abbrev C07:Nat:=70
abbrev Fz:Nat:=137
abbrev Xv:Nat:=20
abbrev Eg:Nat:=66
abbrev Nl:Nat:=67
abbrev Xu:Nat:=77
abbrev C26:Nat:=15
abbrev B6o:Nat:=17
abbrev C2y:Nat:=22
abbrev Ge:Nat:=47
abbrev C25:Nat:=127
abbrev B7u:Nat:=186
abbrev A93:Nat:=26
abbrev C09:Nat:=129
abbrev Gf:Nat:=151
abbrev Hu:Nat:=74
abbrev B8v:Nat:=59
abbrev C27:Nat:=25
abbrev B7t:Nat:=125
abbrev Ef:Nat:=117
abbrev Ao:Nat:=75
abbrev Xw:Nat:=76
abbrev Je:Nat:=68
abbrev Rx:Nat:=144
abbrev C1f:Nat:=142
abbrev C1g:Nat:=141
abbrev Ya:Nat:=143
abbrev B91:Nat:=69
abbrev Qb:Nat:=135
abbrev Gg:Nat:=191
abbrev B8w:Nat:=62
abbrev B8u:Nat:=63
abbrev C17:Nat:=133
abbrev C0g:Nat:=21
abbrev A33:Nat:=35
abbrev A34:Nat:=64
abbrev Qe:Nat:=107
abbrev C1b:Nat:=65
abbrev C1d:Nat:=168
abbrev C1c:Nat:=93
abbrev Qd:Nat:=92
abbrev C2a:Nat:=102
abbrev C2b:Nat:=103
abbrev B7w:Nat:=187
abbrev C29:Nat:=16
abbrev B6r:Nat:=18
abbrev C2z:Nat:=23
abbrev B90:Nat:=128
abbrev Qc:Nat:=14
abbrev W5:Nat:=24
abbrev Ct:Nat:=60
abbrev C19:Nat:=61
abbrev Jf:Nat:=19
abbrev C28:Nat:=29
abbrev C0b:Nat:=13
abbrev B4k:Nat:=3
abbrev A1w:Nat:=4
abbrev Im:Nat:=203
abbrev Qm:Nat:=111
abbrev Ml:Nat:=98
abbrev C0n:Nat:=25
abbrev C0m:Nat:=118
abbrev C04:Nat:=45
abbrev Mm:Nat:=3
abbrev T5:Nat:=95
abbrev G7:Nat:=106
theorem B44:SliceT prog T5 G7 (.agg #[.bool false,.slice none 0 0,.bool false,.slice none 0 0]) 4 64:=⟨by kernel_rfl,by kernel_rfl,rfl,by decide⟩
theorem A40:prog.cellsOf G7=4/\(prog.info? G7).isSome=true:=⟨by kernel_rfl,by kernel_rfl⟩
abbrev Og:Nat:=109
abbrev Dn:Nat:=102
theorem tZs:SliceT prog Og Dn (.agg #[.bool false,.slice none 0 0]) 2 32:=⟨by kernel_rfl,by kernel_rfl,rfl,by decide⟩
theorem Qq:prog.cellsOf Dn=2/\(prog.info? Dn).isSome=true:=⟨by kernel_rfl,by kernel_rfl⟩
abbrev B5w:Nat:=52
abbrev Qn:Nat:=58
theorem C1u:SliceT prog B5w Qn (.slice none 0 0) 1 24:=⟨by kernel_rfl,by kernel_rfl,rfl,by decide⟩
theorem A41:prog.cellsOf Qn=1/\(prog.info? Qn).isSome=true:=⟨by kernel_rfl,by kernel_rfl⟩
abbrev Js:Nat:=114
abbrev Ut:Nat:=118
theorem C0t:SliceT prog Js Ut (.agg #[.slice none 0 0,.bool false,.slice none 0 0]) 3 56:=⟨by kernel_rfl,by kernel_rfl,rfl,by decide⟩
abbrev B85:Nat:=22
abbrev B5v:Nat:=23
def A55(P:Program)(x:OA)(c B:Nat)(h:Heap)(K:VP):Prop:=
 wpH P (C37 95 (I (c:Int)) (I (c:Int))) (fun y z=>∃ (d:OA) (e g:Nat),y= .slice d e g/\∃ (f:LP) (i:LN),f [I 0] z/\
 ∀ a b,f [I a] b->Br (decide (a<(c:Int))) (∃ v,x=some v/\0<=a/\a<(c:Int)/\∃ (j:ByteArray),b.cell? (v.add (a.toNat*1))=some (.string j)/\FCall P A2y #[.string j] b (fun A t=>∃ (k:Bool) (l:OA) (m n:Nat) (o:Bool) (p:OA) (q r:Nat) (s:Bool),A= .tuple #[.agg #[.bool k,.slice l m n,.bool o,.slice p q r],.bool s]/\Br (!s) (K (.tuple #[.slice none 0 0,.bool false]) t)
 (∃ w,d=some w/\0<=a/\a<(e:Int)/\wpH P (C35 106 (.pointer (some (w.add (a.toNat*4)))) (.agg #[.bool k,.slice l m n,.bool o,.slice p q r])) (fun _ u=>f [I (B5 (a+1))] u/\i [I (B5 (a+1))] u<i [I a] b) t)))
 (K (.tuple #[.slice d e g,.bool true]) b)) h
theorem A3j a b c(hvc:A55 prog a b c h K):FCall prog Hs #[.slice a b c] h K:=
 C8 bod func104 [.tmp 2,.tmp 3] { loops:=[(3,⟨[14],[],[.int .i64 0],⟨([2,3,5,6,7,8]++Lrg 14 17),[7]⟩⟩)] } 32 [7] [83] [] (by kernel_rfl) hvc
def A54(P:Program)(v:OA)(d A:Nat)(h:Heap)(K:VP):Prop:=
 wpH P (C37 23 (I (d:Int)) (I (d:Int))) (fun w x=>∃ (e:OA) (f i:Nat),w= .slice e f i/\∃ (g:LP) (j:LN),g [I 0] x/\
 ∀ a b,g [I a] b->Br (decide (a<(d:Int))) (∃ c,v=some c/\0<=a/\a<(d:Int)/\∃ (k:Bool) (l:OA) (m n:Nat) (o:Bool) (p:OA) (q r:Nat),b.cell? (C34 (c.add (a.toNat*4)) 0)=some (.bool k)/\b.cell? (C34 (c.add (a.toNat*4)) 1)=some (.slice l m n)/\b.cell? (C34 (c.add (a.toNat*4)) 2)=some (.bool o)/\b.cell? (C34 (c.add (a.toNat*4)) 3)=some (.slice p q r)/\FCall P Rv #[.agg #[.bool k,.slice l m n,.bool o,.slice p q r]] b (fun y z=>∃ (s:ByteArray),y= .string s/\∃ u,e=some u/\0<=a/\a<(f:Int)/\wpH P (C35 9 (.pointer (some (u.add (a.toNat*1)))) (.string s)) (fun _ t=>g [I (B5 (a+1))] t/\j [I (B5 (a+1))] t<j [I a] b) z))
 (K (.slice e f i) b)) h
theorem A3i a b c(hvc:A54 prog a b c h K):FCall prog Ay #[.slice a b c] h K:=
 C8 bod func97 [.tmp 2] { loops:=[(3,⟨[11],[],[.int .i64 0],⟨([4,5]++Lrg 11 11),[5]⟩⟩)] } 23 [5] [73] [] (by kernel_rfl) hvc
def Bz(P:Program)(C:OA)(u O:Nat)(h:Heap)(K:VP):Prop:=
 FCall P Ru #[I 1] h (fun H J=>∃ (v:Bool) (w:OA) (x y:Nat),H= .agg #[.bool v,.slice w x y]/\∃ (i:LP) (g:LN),i [I 0,.bool v,.slice w x y] J/\
 ∀ a b c d e f,i [I a,.bool b,.slice c d e] f->Br (decide (a<(u:Int))) (∃ j,C=some j/\0<=a/\a<(u:Int)/\∃ (D:Bool) (E:OA) (F G:Nat) (k:Bool) (l:OA) (m n:Nat),f.cell? (C34 (j.add (a.toNat*4)) 0)=some (.bool D)/\f.cell? (C34 (j.add (a.toNat*4)) 1)=some (.slice E F G)/\f.cell? (C34 (j.add (a.toNat*4)) 2)=some (.bool k)/\f.cell? (C34 (j.add (a.toNat*4)) 3)=some (.slice l m n)/\FCall P G0 #[.agg #[.bool k,.slice l m n]] f (fun L s=>∃ (z:Bool),L= .bool z/\Br (!z) (FCall P Xj #[.agg #[.bool k,.slice l m n],.agg #[.bool b,.slice c d e]] s (fun M t=>∃ (A:Bool),M= .bool A/\Br (!A) (FCall P A8z #[.agg #[.bool b,.slice c d e],.agg #[.bool k,.slice l m n]] t (fun N B=>∃ (o:Bool) (p:OA) (q r:Nat),N= .agg #[.bool o,.slice p q r]/\i [I (B5 (a+1)),.bool o,.slice p q r] B/\g [I (B5 (a+1)),.bool o,.slice p q r] B<g [I a,.bool b,.slice c d e] f))
 (i [I (B5 (a+1)),.bool b,.slice c d e] t/\g [I (B5 (a+1)),.bool b,.slice c d e] t<g [I a,.bool b,.slice c d e] f)))
 (i [I (B5 (a+1)),.bool b,.slice c d e] s/\g [I (B5 (a+1)),.bool b,.slice c d e] s<g [I a,.bool b,.slice c d e] f)))
 (K (.agg #[.bool b,.slice c d e]) f))
theorem Hc a b c(hvc:Bz prog a b c h K):FCall prog J1 #[.slice a b c] h K:=
 C8 bod func136 [.cell 2 102] { loops:=[(3,⟨[9],[(3,2)],[.int .i64 0,.bool false,.slice none 0 0],⟨([5]++Lrg 9 20),[3,5]⟩⟩)] } 30 [2,3,5] [138,139,192,193] [] (by kernel_rfl) hvc
def B0l(P:Program)(c:Bool)(d:OA)(e f:Nat)(g:Bool)(i:OA)(j k:Nat)(l:Bool)(m:OA)(n o:Nat)(h:Heap)(K:VP):Prop:=
 FCall P G0 #[.agg #[.bool g,.slice i j k]] h (fun D a=>∃ (p:Bool),D= .bool p/\Br p (FCall P Om #[.agg #[.bool c,.slice d e f],.agg #[.bool l,.slice m n o]] a (fun E F=>∃ (q:Bool) (r:OA) (s t:Nat),E= .agg #[.bool q,.slice r s t]/\K (.agg #[.bool q,.slice r s t]) F))
 (FCall P Kq #[.agg #[.bool l,.slice m n o],.agg #[.bool g,.slice i j k]] a (fun G b=>∃ (u:Bool) (v:OA) (w x:Nat),G= .agg #[.bool u,.slice v w x]/\Heap.le a b/\FCall P Om #[.agg #[.bool c,.slice d e f],.agg #[.bool u,.slice v w x]] b (fun H C=>∃ (y:Bool) (z:OA) (A B:Nat),H= .agg #[.bool y,.slice z A B]/\Heap.le b C/\K (.agg #[.bool y,.slice z A B]) C))))
theorem A6m a b c d e f g i j k l m(hvc:B0l prog a b c d e f g i j k l m h K):FCall prog Fz #[.agg #[.bool a,.slice b c d,.bool e,.slice f g i],.agg #[.bool j,.slice k l m]] h K:=
 C8 bod func137 [.cell 4 102] an0 19 [2,3,4] [138,140,154] [] (by kernel_rfl) hvc
def B5f(P:Program)(n:Int)(o:Int)(f:OA)(c p:Nat)(h:Heap)(K:VP):Prop:=
 FCall P Eg #[.agg #[I n,I o,.slice f c p]] h (fun q l=>∃ (g:Bool),q= .bool g/\Br (!g) (K (.bool false) l)
 (∃ (d:LP) (i:LN),d [I 0] l/\
 ∀ a b,d [I a] b->Br (decide (a<(c:Int))) (∃ m,f=some m/\0<=a/\a<(c:Int)/\∃ (j:ByteArray),b.cell? (m.add (a.toNat*1))=some (.string j)/\FCall P Py #[.string j] b (fun r e=>∃ (k:Bool),r= .bool k/\Br (!k) (K (.bool false) e)
 (d [I (B5 (a+1))] e/\i [I (B5 (a+1))] e<i [I a] b)))
 (K (.bool true) b)))
theorem B13 a b c d e(hvc:B5f prog a b c d e h K):FCall prog Xv #[.agg #[I a,I b,.slice c d e]] h K:=
 C8 bod func20 [.tmp 2] { loops:=[(4,⟨[11],[],[.int .i64 0],⟨([2,4]++Lrg 11 8),[]⟩⟩)] } 19 [1] [46,66] [] (by kernel_rfl) hvc
def A1m(P:Program)(a:Int)(b:Int)(d:OA)(c e:Nat)(h:Heap)(K:VP):Prop:=
 Br (decide ((1:Int)<=a)) (Br (decide (a<=(64:Int))) (Br (decide ((1:Int)<=b)) (Br (decide (b<=(64:Int))) (K (.bool ((c:Int)==(B5 (a*b)))) h)
 (K (.bool false) h))
 (K (.bool false) h))
 (K (.bool false) h))
 (K (.bool false) h)
theorem A1l a b c d e(hvc:A1m prog a b c d e h K):FCall prog Eg #[.agg #[I a,I b,.slice c d e]] h K:=
 C8 bod func66 [.tmp 2] an0 32 [1] [] [] (by kernel_rfl) hvc
def B9z(P:Program)(k:Int)(l:Int)(a:OA)(b c:Nat)(h:Heap)(K:VP):Prop:=
 FCall P Eg #[.agg #[I k,I l,.slice a b c]] h (fun m j=>∃ (d:Bool),m= .bool d/\Br (!d) (K (.tuple #[.slice none 0 0,.bool false]) j)
 (FCall P Hs #[.slice a b c] j (fun n o=>∃ (e:OA) (f g:Nat) (i:Bool),n= .tuple #[.slice e f g,.bool i]/\K (.tuple #[.slice e f g,.bool i]) o)))
theorem B3x a b c d e(hvc:B9z prog a b c d e h K):FCall prog Nl #[.agg #[I a,I b,.slice c d e]] h K:=
 C8 bod func67 [.tmp 2,.tmp 3] an0 12 [1] [66,104] [] (by kernel_rfl) hvc
def B5e(P:Program)(d:Int)(e:Int)(f:OA)(g i:Nat)(h:Heap)(K:VP):Prop:=
 FCall P Ay #[.slice f g i] h (fun j k=>∃ (a:OA) (b c:Nat),j= .slice a b c/\K (.agg #[I d,I e,.slice a b c]) k)
theorem B12 a b c d e(hvc:B5e prog a b c d e h K):FCall prog Xu #[I a,I b,.slice c d e] h K:=
 C8 bod func77 [.cell 6 25] an0 12 [6] [97] [] (by kernel_rfl) hvc
def Vz(P:Program)(a:Int)(b:Int)(d:OA)(e f:Nat)(h:Heap)(K:VP):Prop:=
 FCall P Xv #[.agg #[I a,I b,.slice d e f]] h (fun m c=>∃ (g:Bool),m= .bool g/\Br (!g) (K (.tuple #[.agg #[I 0,I 0,.slice none 0 0],I 1]) c)
 (FCall P Ef #[.slice d e f,I a,I b] c (fun n l=>∃ (i:OA) (j k:Nat),n= .slice i j k/\Heap.le c l/\K (.tuple #[.agg #[I b,I a,.slice i j k],I 0]) l)))
theorem Yx a b c d e(hvc:Vz prog a b c d e h K):FCall prog Ge #[.agg #[I a,I b,.slice c d e]] h K:=
 C8 bod func47 [.cell 2 25,.tmp 3] an0 20 [1,2] [20,117] [] (by kernel_rfl) hvc
def C2r(P:Program)(q:Int)(c:Int)(c9:OA)(d0 d1:Nat)(j:Int)(k:Int)(d2:OA)(d3 d4:Nat)(h:Heap)(K:VP):Prop:=
 FCall P Nl #[.agg #[I q,I c,.slice c9 d0 d1]] h (fun d7 d8=>∃ (z:OA) (A B:Nat) (C:Bool),d7= .tuple #[.slice z A B,.bool C]/\FCall P Nl #[.agg #[I j,I k,.slice d2 d3 d4]] d8 (fun d9 l=>∃ (D:OA) (E F:Nat) (G:Bool),d9= .tuple #[.slice D E F,.bool G]/\Br (!C) (K (.tuple #[.agg #[I 0,I 0,.slice none 0 0],I 1]) l)
 (Br (!G) (K (.tuple #[.agg #[I 0,I 0,.slice none 0 0],I 1]) l)
 (Br (c != j) (K (.tuple #[.agg #[I 0,I 0,.slice none 0 0],I 4]) l)
 (FCall P Hu #[.slice z A B,I c] l (fun e0 c6=>∃ (H:OA) (r d5:Nat),e0= .slice H r d5/\FCall P Ao #[.slice D E F,I j,I k] c6 (fun e1 y=>∃ (J:OA) (L M:Nat),e1= .slice J L M/\Heap.le c6 y/\FCall P Hu #[.slice J L M,I j] y (fun e2 c7=>∃ (N:OA) (s d6:Nat),e2= .slice N s d6/\Heap.le y c7/\wpH P (C37 95 (I 0) (I (B5 (q*k)))) (fun e3 e4=>∃ (O:OA) (Q R:Nat),e3= .slice O Q R/\∃ (t:LP) (S:LN),t [.slice O Q R,I 0] e4/\
 ∀ m n o a e,t [.slice m n o,I a] e->Br (decide (a<(r:Int))) (∃ p,H=some p/\0<=a/\a<(r:Int)/\∃ (T:OA) (V W:Nat) (X:Bool) (Z:OA) (a0 a1:Nat),e.cell? (C34 (p.add (a.toNat*3)) 0)=some (.slice T V W)/\e.cell? (C34 (p.add (a.toNat*3)) 1)=some (.bool X)/\e.cell? (C34 (p.add (a.toNat*3)) 2)=some (.slice Z a0 a1)/\∃ (u:LP) (a2:LN),u [.slice m n o,I 0] e/\
 ∀ f g i b d,u [.slice f g i,I b] d->Br (decide (b<(s:Int))) (∃ c,N=some c/\0<=b/\b<(s:Int)/\∃ (a3:OA) (a4 a5:Nat) (a6:Bool) (a7:OA) (a8 a9:Nat),d.cell? (C34 (c.add (b.toNat*3)) 0)=some (.slice a3 a4 a5)/\d.cell? (C34 (c.add (b.toNat*3)) 1)=some (.bool a6)/\d.cell? (C34 (c.add (b.toNat*3)) 2)=some (.slice a7 a8 a9)/\FCall P Xw #[.agg #[.slice T V W,.bool X,.slice Z a0 a1],.agg #[.slice a3 a4 a5,.bool a6,.slice a7 a8 a9]] d (fun e5 e6=>∃ (b0:Bool) (b1:OA) (b2 b3:Nat) (b4:Bool) (b5:OA) (b6 b7:Nat),e5= .agg #[.bool b0,.slice b1 b2 b3,.bool b4,.slice b5 b6 b7]/\wpH P (C38 95 1 #[(0,.agg #[.bool b0,.slice b1 b2 b3,.bool b4,.slice b5 b6 b7])]) (fun e7 e8=>∃ (b8:OA) (b9 c0:Nat),e7= .slice b8 b9 c0/\wpH P (C36 #[95,95] 95 #[.slice f g i,.slice b8 b9 c0]) (fun e9 c8=>∃ (v:OA) (w x:Nat),e9= .slice v w x/\u [.slice v w x,I (B5 (b+1))] c8/\a2 [.slice v w x,I (B5 (b+1))] c8<a2 [.slice f g i,I b] d) e8) e6))
 (t [.slice f g i,I (B5 (a+1))] d/\S [.slice f g i,I (B5 (a+1))] d<S [.slice m n o,I a] e))
 (FCall P Xu #[I q,I k,.slice m n o] e (fun f0 f1=>∃ (c1:Int) (c2:Int) (c3:OA) (c4 c5:Nat),f0= .agg #[I c1,I c2,.slice c3 c4 c5]/\K (.tuple #[.agg #[I c1,I c2,.slice c3 c4 c5],I 0]) f1))) c7))))))))
theorem B7n a b c d e f g i j k(hvc:C2r prog a b c d e f g i j k h K):FCall prog A93 #[.agg #[I a,I b,.slice c d e],.agg #[I f,I g,.slice i j k]] h K:=
 C8 bod func26 [.cell 4 25,.tmp 5] ⟨[(11,⟨[12,61],[],[.slice none 0 0,.int .i64 0],⟨([12,14,16]++Lrg 61 18),[14,16]⟩⟩),(14,⟨[12,67],[],[.slice none 0 0,.int .i64 0],⟨([12,16]++Lrg 67 11),[16]⟩⟩)],[],[(8,([0,1,2,3,4,6,7,5,8,9],[]))],[],[]⟩ 85 [2,3,4,14,16] [67,74,75,76,77] [] (by kernel_rfl) hvc
def Wa(P:Program)(i:OA)(c z:Nat)(h:Heap)(K:VP):Prop:=
 (wpH P (C37 109 (I (c:Int)) (I (c:Int))) (fun b5 x=>∃ (j:OA) (k A:Nat),b5= .slice j k A/\Heap.le h x/\FCall P J1 #[.slice i c z] x (fun b6 a7=>∃ (l:Bool) (m:OA) (n o:Nat),b6= .agg #[.bool l,.slice m n o]/\Heap.le x a7/\∃ (p:LP) (B:LN),p [I 0] a7/\
 ∀ a d,p [I a] d->Br (decide (a<(c:Int))) (∃ f,i=some f/\0<=a/\a<(c:Int)/\∃ (C:Bool) (D:OA) (E F:Nat) (G:Bool) (H:OA) (J L:Nat),d.cell? (C34 (f.add (a.toNat*4)) 0)=some (.bool C)/\d.cell? (C34 (f.add (a.toNat*4)) 1)=some (.slice D E F)/\d.cell? (C34 (f.add (a.toNat*4)) 2)=some (.bool G)/\d.cell? (C34 (f.add (a.toNat*4)) 3)=some (.slice H J L)/\FCall P Fz #[.agg #[.bool C,.slice D E F,.bool G,.slice H J L],.agg #[.bool l,.slice m n o]] d (fun b7 a8=>∃ (M:Bool) (N:OA) (O Q:Nat),b7= .agg #[.bool M,.slice N O Q]/\Heap.le d a8/\∃ b3,j=some b3/\0<=a/\a<(k:Int)/\wpH P (C35 102 (.pointer (some (b3.add (a.toNat*2)))) (.agg #[.bool M,.slice N O Q])) (fun _ a9=>p [I (B5 (a+1))] a9/\B [I (B5 (a+1))] a9<B [I a] d) a8))
 (K (.agg #[.slice j k A,.bool l,.slice m n o]) d))) h)/\(FCall P J1 #[.slice i c z] h (fun b8 y=>∃ (q:Bool) (r:OA) (s t:Nat),b8= .agg #[.bool q,.slice r s t]/\Heap.le h y/\wpH P (C37 109 (I (c:Int)) (I (c:Int))) (fun b9 b0=>∃ (u:OA) (v R:Nat),b9= .slice u v R/\Heap.le y b0/\∃ (w:LP) (S:LN),w [I 0] b0/\
 ∀ b e,w [I b] e->Br (decide (b<(c:Int))) (∃ g,i=some g/\0<=b/\b<(c:Int)/\∃ (T:Bool) (V:OA) (W X:Nat) (Z:Bool) (a0:OA) (a1 a2:Nat),e.cell? (C34 (g.add (b.toNat*4)) 0)=some (.bool T)/\e.cell? (C34 (g.add (b.toNat*4)) 1)=some (.slice V W X)/\e.cell? (C34 (g.add (b.toNat*4)) 2)=some (.bool Z)/\e.cell? (C34 (g.add (b.toNat*4)) 3)=some (.slice a0 a1 a2)/\FCall P Fz #[.agg #[.bool T,.slice V W X,.bool Z,.slice a0 a1 a2],.agg #[.bool q,.slice r s t]] e (fun c0 b1=>∃ (a3:Bool) (a4:OA) (a5 a6:Nat),c0= .agg #[.bool a3,.slice a4 a5 a6]/\Heap.le e b1/\∃ b4,u=some b4/\0<=b/\b<(v:Int)/\wpH P (C35 102 (.pointer (some (b4.add (b.toNat*2)))) (.agg #[.bool a3,.slice a4 a5 a6])) (fun _ b2=>w [I (B5 (b+1))] b2/\S [I (B5 (b+1))] b2<S [I b] e) b1))
 (K (.agg #[.slice u v R,.bool q,.slice r s t]) e)) y))
theorem Yy a b c(hvc:Wa prog a b c h K):FCall prog Gf #[.slice a b c] h K:=
 C8 bod func151 [.cell 2 118] ⟨[(3,⟨[14],[],[.int .i64 0],⟨([4,5]++Lrg 14 14),[5]⟩⟩)],[],[(1,([0,1,3,6,2,4,5,7],[]))],[],[(1,[(2,[4])])]⟩ 29 [2,3,5] [136,137] [] (by kernel_rfl) hvc
def A59(P:Program)(D:OA)(E F:Nat)(G:Int)(h:Heap)(K:VP):Prop:=
 wpH P (C39 114 true (.tuple #[])) (fun L M=>∃ (a:Addr),L= .pointer (some a)/\FCall P Qb #[.slice D E F,I G] M (fun N O=>∃ (d:Value),N=d/\A1f P (d) O (fun (H:List Value) (b:Heap) (J:Heap->Prop)=>∃ (e:OA) (f g:Nat),H=[.slice e f g]/\∃ (i:OA) (j k:Nat),b.cell? a=some (.slice i j k)/\FCall P Gf #[.slice e f g] b (fun Q c=>∃ (l:OA) (m n:Nat) (o:Bool) (p:OA) (q r:Nat),Q= .agg #[.slice l m n,.bool o,.slice p q r]/\Heap.le b c/\wpH P (C38 114 1 #[(0,.agg #[.slice l m n,.bool o,.slice p q r])]) (fun R B=>∃ (s:OA) (t u:Nat),R= .slice s t u/\Heap.le c B/\wpH P (C36 #[114,114] 114 #[.slice i j k,.slice s t u]) (fun S T=>∃ (v:OA) (w x:Nat),S= .slice v w x/\wpH P (C35 114 (.pointer (some a)) (.slice v w x)) (fun _ V=>J V) T) B) c))
 (fun C=>∃ (y:OA) (z A:Nat),C.cell? a=some (.slice y z A)/\K (.slice y z A) C))) h
theorem A3o a b c d(hvc:A59 prog a b c d h K):FCall prog Hu #[.slice a b c,I d] h K:=
 C8 bod func74 [.tmp 4] { rounds:=[(4,[.slice none 0 0])] } 17 [] [135,151] [1000000000] (by kernel_rfl) hvc
def Tl(P:Program)(D:OA)(r M:Nat)(E:Int)(g:Int)(h:Heap)(K:VP):Prop:=
 wpH P (C37 23 (I 0) (I (r:Int))) (fun F G=>∃ (s:OA) (t u:Nat),F= .slice s t u/\∃ (m:LP) (v:LN),m [.slice s t u,I 0] G/\
 ∀ i j k a l,m [.slice i j k,I a] l->Br (decide (a<g)) (∃ (n:LP) (w:LN),n [.slice i j k,I 0] l/\
 ∀ d e f b c,n [.slice d e f,I b] c->Br (decide (b<E)) (∃ C,D=some C/\0<=B5 ((B5 (b*g))+a)/\B5 ((B5 (b*g))+a)<(r:Int)/\∃ (x:ByteArray),c.cell? (C.add ((B5 ((B5 (b*g))+a)).toNat*1))=some (.string x)/\wpH P (C38 23 1 #[(0,.string x)]) (fun H J=>∃ (y:OA) (z A:Nat),H= .slice y z A/\wpH P (C36 #[23,23] 23 #[.slice d e f,.slice y z A]) (fun L B=>∃ (o:OA) (p q:Nat),L= .slice o p q/\n [.slice o p q,I (B5 (b+1))] B/\w [.slice o p q,I (B5 (b+1))] B<w [.slice d e f,I b] c) J) c)
 (m [.slice d e f,I (B5 (a+1))] c/\v [.slice d e f,I (B5 (a+1))] c<v [.slice i j k,I a] l))
 (K (.slice i j k) l)) h
theorem Um a b c d e(hvc:Tl prog a b c d e h K):FCall prog Ef #[.slice a b c,I d,I e] h K:=
 C8 bod func117 [.tmp 6] { loops:=[(3,⟨[7,14],[],[.slice none 0 0,.int .i64 0],⟨([7,8,9]++Lrg 14 20),[]⟩⟩),(6,⟨[7,18],[],[.slice none 0 0,.int .i64 0],⟨([7,9]++Lrg 18 15),[]⟩⟩)] } 35 [] [] [] (by kernel_rfl) hvc
def Tm(P:Program)(M:OA)(s V:Nat)(N:Int)(d:Int)(h:Heap)(K:VP):Prop:=
 wpH P (C37 95 (I 0) (I (s:Int))) (fun O Q=>∃ (t:OA) (u v:Nat),O= .slice t u v/\∃ (n:LP) (w:LN),n [.slice t u v,I 0] Q/\
 ∀ j k l a m,n [.slice j k l,I a] m->Br (decide (a<d)) (∃ (o:LP) (x:LN),o [.slice j k l,I 0] m/\
 ∀ e f g b c,o [.slice e f g,I b] c->Br (decide (b<N)) (∃ i,M=some i/\0<=B5 ((B5 (b*d))+a)/\B5 ((B5 (b*d))+a)<(s:Int)/\∃ (y:Bool) (z:OA) (A B:Nat) (C:Bool) (D:OA) (E F:Nat),c.cell? (C34 (i.add ((B5 ((B5 (b*d))+a)).toNat*4)) 0)=some (.bool y)/\c.cell? (C34 (i.add ((B5 ((B5 (b*d))+a)).toNat*4)) 1)=some (.slice z A B)/\c.cell? (C34 (i.add ((B5 ((B5 (b*d))+a)).toNat*4)) 2)=some (.bool C)/\c.cell? (C34 (i.add ((B5 ((B5 (b*d))+a)).toNat*4)) 3)=some (.slice D E F)/\wpH P (C38 95 1 #[(0,.agg #[.bool y,.slice z A B,.bool C,.slice D E F])]) (fun R S=>∃ (G:OA) (H J:Nat),R= .slice G H J/\wpH P (C36 #[95,95] 95 #[.slice e f g,.slice G H J]) (fun T L=>∃ (p:OA) (q r:Nat),T= .slice p q r/\o [.slice p q r,I (B5 (b+1))] L/\x [.slice p q r,I (B5 (b+1))] L<x [.slice e f g,I b] c) S) c)
 (n [.slice e f g,I (B5 (a+1))] c/\w [.slice e f g,I (B5 (a+1))] c<w [.slice j k l,I a] m))
 (K (.slice j k l) m)) h
theorem Un a b c d e(hvc:Tm prog a b c d e h K):FCall prog Ao #[.slice a b c,I d,I e] h K:=
 C8 bod func75 [.tmp 6] { loops:=[(3,⟨[7,14],[],[.slice none 0 0,.int .i64 0],⟨([7,8,9]++Lrg 14 20),[]⟩⟩),(6,⟨[7,18],[],[.slice none 0 0,.int .i64 0],⟨([7,9]++Lrg 18 15),[]⟩⟩)] } 35 [] [] [] (by kernel_rfl) hvc
def B5g(P:Program)(N:OA)(j a7:Nat)(O:Bool)(Q:OA)(R S:Nat)(T:OA)(V a8:Nat)(W:Bool)(X:OA)(Z a0:Nat)(h:Heap)(K:VP):Prop:=
 wpH P (C39 203 true (.tuple #[])) (fun a1 a2=>∃ (c:Addr),a1= .pointer (some c)/\∃ (d:LP) (k:LN),d [I 0] a2/\
 ∀ a b,d [I a] b->Br (decide (a<(j:Int))) (∃ g,N=some g/\0<=a/\a<(j:Int)/\∃ (l:Bool) (m:OA) (n o:Nat),b.cell? (C34 (g.add (a.toNat*2)) 0)=some (.bool l)/\b.cell? (C34 (g.add (a.toNat*2)) 1)=some (.slice m n o)/\∃ i,T=some i/\0<=a/\a<(V:Int)/\∃ (p:Bool) (q:OA) (r s:Nat),b.cell? (C34 (i.add (a.toNat*2)) 0)=some (.bool p)/\b.cell? (C34 (i.add (a.toNat*2)) 1)=some (.slice q r s)/\FCall P S7 #[.pointer (some c),.agg #[.bool l,.slice m n o],.agg #[.bool p,.slice q r s]] b (fun a3 L=>a3= .tuple #[]/\d [I (B5 (a+1))] L/\k [I (B5 (a+1))] L<k [I a] b))
 (FCall P Pz #[.pointer (some c)] b (fun a4 e=>∃ (t:Bool) (u:OA) (v w:Nat),a4= .agg #[.bool t,.slice u v w]/\Heap.le b e/\FCall P Om #[.agg #[.bool O,.slice Q R S],.agg #[.bool W,.slice X Z a0]] e (fun a5 f=>∃ (x:Bool) (y:OA) (z A:Nat),a5= .agg #[.bool x,.slice y z A]/\Heap.le e f/\FCall P U7 #[.agg #[.bool t,.slice u v w],.agg #[.bool x,.slice y z A]] f (fun a6 M=>∃ (B:Bool) (C:OA) (D E:Nat) (F:Bool) (G:OA) (H J:Nat),a6= .agg #[.bool B,.slice C D E,.bool F,.slice G H J]/\Heap.le f M/\K (.agg #[.bool B,.slice C D E,.bool F,.slice G H J]) M))))) h
theorem B14 a b c d e f g i j k l m n o(hvc:B5g prog a b c d e f g i j k l m n o h K):FCall prog Xw #[.agg #[.slice a b c,.bool d,.slice e f g],.agg #[.slice i j k,.bool l,.slice m n o]] h K:=
 C8 bod func76 [.cell 4 106] ⟨[(3,⟨[11],[],[.int .i64 0],⟨([6,7]++Lrg 11 13),[7]⟩⟩)],[],[(7,([1,2,3,4,0,5,6,7],[]))],[],[]⟩ 31 [2,3,4,7] [132,152,153,154] [152] (by kernel_rfl) hvc
def A1k(P:Program)(m3:OA)(m4 m5:Nat)(b7:Int)(h:Heap)(K:VP):Prop:=
 wpH P (Instr.box 111 (.agg #[I b7,.slice none 0 0,.slice none 0 0])) (fun n1 n2=>∃ (b8:Addr),n1= .pointer (some b8)/\wpH P (C39 98 true (.tuple #[])) (fun n3 n4=>∃ (b:Addr),n3= .pointer (some b)/\wpH P (C35 98 (.pointer (some b)) (.pointer (some b8))) (fun _ n5=>FCall P Qb #[.slice m3 m4 m5,I b7] n5 (fun n6 n7=>∃ (b9:Value),n6=b9/\A1f P (b9) n7 (fun (m6:List Value) (m7:Heap) (x:Heap->Prop)=>∃ (W:OA) (y c0:Nat),m6=[.slice W y c0]/\FCall P J1 #[.slice W y c0] m7 (fun n8 b4=>∃ (z:Bool) (A:OA) (B C:Nat),n8= .agg #[.bool z,.slice A B C]/\∃ (c1:OA),b4.cell? b=some (.pointer c1)/\∃ l0,c1=some l0/\∃ (m8:OA) (f m9:Nat),b4.cell? (l0.add 1)=some (.slice m8 f m9)/\∃ (s:LP) (q:LN),s [I 0,.bool false,.slice none 0 0] b4/\
 ∀ a m n o p e,s [I a,.bool m,.slice n o p] e->Br (decide (a<(y:Int))) (∃ w,W=some w/\0<=a/\a<(y:Int)/\∃ (c2:Bool) (c3:OA) (c4 c5:Nat) (c6:Bool) (c7:OA) (c8 c9:Nat),e.cell? (C34 (w.add (a.toNat*4)) 0)=some (.bool c2)/\e.cell? (C34 (w.add (a.toNat*4)) 1)=some (.slice c3 c4 c5)/\e.cell? (C34 (w.add (a.toNat*4)) 2)=some (.bool c6)/\e.cell? (C34 (w.add (a.toNat*4)) 3)=some (.slice c7 c8 c9)/\FCall P Fz #[.agg #[.bool c2,.slice c3 c4 c5,.bool c6,.slice c7 c8 c9],.agg #[.bool z,.slice A B C]] e (fun n9 o0=>∃ (D:Bool) (E:OA) (F G:Nat),n9= .agg #[.bool D,.slice E F G]/\FCall P Rs #[.agg #[.bool m,.slice n o p],.agg #[.bool D,.slice E F G]] o0 (fun o1 l=>∃ (g:Bool) (i:OA) (j k:Nat),o1= .agg #[.bool g,.slice i j k]/\∃ (d0:OA),l.cell? b=some (.pointer d0)/\∃ l1,d0=some l1/\∃ (H:OA) (J L:Nat),l.cell? (l1.add 1)=some (.slice H J L)/\(∃ (d1:OA),l.cell? b=some (.pointer d1)/\wpH P (C38 109 1 #[(0,.agg #[.bool D,.slice E F G])]) (fun o2 j8=>∃ (d2:OA) (d3 d4:Nat),o2= .slice d2 d3 d4/\Heap.le l j8/\wpH P (C36 #[109,109] 109 #[.slice H J L,.slice d2 d3 d4]) (fun o3 o4=>∃ (d5:OA) (d6 d7:Nat),o3= .slice d5 d6 d7/\∃ l2,d1=some l2/\wpH P (C35 109 (.pointer (some (l2.add 1))) (.slice d5 d6 d7)) (fun _ j9=>s [I (B5 (a+1)),.bool g,.slice i j k] j9/\q [I (B5 (a+1)),.bool g,.slice i j k] j9<q [I a,.bool m,.slice n o p] e) o4) j8) l)/\(wpH P (C38 109 1 #[(0,.agg #[.bool D,.slice E F G])]) (fun o5 N=>∃ (X:OA) (Z a0:Nat),o5= .slice X Z a0/\Heap.le l N/\(∃ (d8:OA),N.cell? b=some (.pointer d8)/\wpH P (C36 #[109,109] 109 #[.slice H J L,.slice X Z a0]) (fun o6 o7=>∃ (d9:OA) (e0 e1:Nat),o6= .slice d9 e0 e1/\∃ l3,d8=some l3/\wpH P (C35 109 (.pointer (some (l3.add 1))) (.slice d9 e0 e1)) (fun _ k0=>s [I (B5 (a+1)),.bool g,.slice i j k] k0/\q [I (B5 (a+1)),.bool g,.slice i j k] k0<q [I a,.bool m,.slice n o p] e) o7) N)/\(wpH P (C36 #[109,109] 109 #[.slice H J L,.slice X Z a0]) (fun o8 k1=>∃ (e2:OA) (e3 e4:Nat),o8= .slice e2 e3 e4/\∃ (e5:OA),k1.cell? b=some (.pointer e5)/\∃ l4,e5=some l4/\wpH P (C35 109 (.pointer (some (l4.add 1))) (.slice e2 e3 e4)) (fun _ k2=>s [I (B5 (a+1)),.bool g,.slice i j k] k2/\q [I (B5 (a+1)),.bool g,.slice i j k] k2<q [I a,.bool m,.slice n o p] e) k1) N)) l))))
 (∃ (a1:LP),(FCall P G0 #[.agg #[.bool m,.slice n o p]] e (fun o9 k3=>∃ (e6:Bool),o9= .bool e6/\Br e6 (FCall P Ru #[I 1] k3 (fun p0 p1=>∃ (e7:Bool) (e8:OA) (e9 f0:Nat),p0= .agg #[.bool e7,.slice e8 e9 f0]/\a1 [.bool e7,.slice e8 e9 f0] p1))
 (a1 [.bool m,.slice n o p] k3)))/\
 ∀ Q R S T V,a1 [.bool Q,.slice R S T] V->∃ (f1:OA),V.cell? b=some (.pointer f1)/\∃ l5,f1=some l5/\∃ (f2:OA) (M f3:Nat),V.cell? (l5.add 1)=some (.slice f2 M f3)/\(0<=(f:Int)/\(f:Int)<=(M:Int))/\∃ (a2:LP) (f4:LN),a2 [I 0] V/\
 ∀ d c,a2 [I d] c->Br (decide (d<((M-(((f:Int)).toNat):Nat):Int))) (∃ b6,K0 f2 f3 (((f:Int)).toNat) 2=some b6/\0<=d/\d<((M-(((f:Int)).toNat):Nat):Int)/\∃ (f5:Bool) (f6:OA) (f7 f8:Nat),c.cell? (C34 (b6.add (d.toNat*2)) 0)=some (.bool f5)/\c.cell? (C34 (b6.add (d.toNat*2)) 1)=some (.slice f6 f7 f8)/\∃ (f9:OA),c.cell? b=some (.pointer f9)/\∃ l6,f9=some l6/\∃ (g0:OA) (g1 n0:Nat),c.cell? (l6.add 1)=some (.slice g0 g1 n0)/\FCall P Kq #[.agg #[.bool f5,.slice f6 f7 f8],.agg #[.bool Q,.slice R S T]] c (fun p2 k4=>∃ (g2:Bool) (g3:OA) (g4 g5:Nat),p2= .agg #[.bool g2,.slice g3 g4 g5]/\Heap.le c k4/\∃ l7,g0=some l7/\0<=B5 ((f:Int)+d)/\B5 ((f:Int)+d)<(g1:Int)/\wpH P (C35 102 (.pointer (some (l7.add ((B5 ((f:Int)+d)).toNat*2)))) (.agg #[.bool g2,.slice g3 g4 g5])) (fun _ k5=>a2 [I (B5 (d+1))] k5/\f4 [I (B5 (d+1))] k5<f4 [I d] c) k4))
 (∃ (g6:OA),c.cell? b=some (.pointer g6)/\∃ l8,g6=some l8/\∃ (t:OA) (u v:Nat),c.cell? (l8.add 2)=some (.slice t u v)/\(∃ (g7:OA),c.cell? b=some (.pointer g7)/\FCall P U7 #[.agg #[.bool z,.slice A B C],.agg #[.bool Q,.slice R S T]] c (fun p3 b5=>∃ (g8:Bool) (g9:OA) (h0 h1:Nat) (h2:Bool) (h3:OA) (h4 h5:Nat),p3= .agg #[.bool g8,.slice g9 h0 h1,.bool h2,.slice h3 h4 h5]/\Heap.le c b5/\wpH P (C38 95 1 #[(0,.agg #[.bool g8,.slice g9 h0 h1,.bool h2,.slice h3 h4 h5])]) (fun p4 k6=>∃ (h6:OA) (h7 h8:Nat),p4= .slice h6 h7 h8/\Heap.le b5 k6/\wpH P (C36 #[95,95] 95 #[.slice t u v,.slice h6 h7 h8]) (fun p5 p6=>∃ (h9:OA) (i0 i1:Nat),p5= .slice h9 i0 i1/\∃ l9,g7=some l9/\wpH P (C35 95 (.pointer (some (l9.add 2))) (.slice h9 i0 i1)) (fun _ p7=>x p7) p6) k6) b5))/\(FCall P U7 #[.agg #[.bool z,.slice A B C],.agg #[.bool Q,.slice R S T]] c (fun p8 r=>∃ (a3:Bool) (a4:OA) (a5 a6:Nat) (a7:Bool) (a8:OA) (a9 b0:Nat),p8= .agg #[.bool a3,.slice a4 a5 a6,.bool a7,.slice a8 a9 b0]/\Heap.le c r/\(∃ (i2:OA),r.cell? b=some (.pointer i2)/\wpH P (C38 95 1 #[(0,.agg #[.bool a3,.slice a4 a5 a6,.bool a7,.slice a8 a9 b0])]) (fun p9 k7=>∃ (i3:OA) (i4 i5:Nat),p9= .slice i3 i4 i5/\Heap.le r k7/\wpH P (C36 #[95,95] 95 #[.slice t u v,.slice i3 i4 i5]) (fun q0 q1=>∃ (i6:OA) (i7 i8:Nat),q0= .slice i6 i7 i8/\∃ m0,i2=some m0/\wpH P (C35 95 (.pointer (some (m0.add 2))) (.slice i6 i7 i8)) (fun _ q2=>x q2) q1) k7) r)/\(wpH P (C38 95 1 #[(0,.agg #[.bool a3,.slice a4 a5 a6,.bool a7,.slice a8 a9 b0])]) (fun q3 O=>∃ (b1:OA) (b2 b3:Nat),q3= .slice b1 b2 b3/\Heap.le r O/\(∃ (i9:OA),O.cell? b=some (.pointer i9)/\wpH P (C36 #[95,95] 95 #[.slice t u v,.slice b1 b2 b3]) (fun q4 q5=>∃ (j0:OA) (j1 j2:Nat),q4= .slice j0 j1 j2/\∃ m1,i9=some m1/\wpH P (C35 95 (.pointer (some (m1.add 2))) (.slice j0 j1 j2)) (fun _ q6=>x q6) q5) O)/\(wpH P (C36 #[95,95] 95 #[.slice t u v,.slice b1 b2 b3]) (fun q7 k8=>∃ (j3:OA) (j4 j5:Nat),q7= .slice j3 j4 j5/\∃ (j6:OA),k8.cell? b=some (.pointer j6)/\∃ m2,j6=some m2/\wpH P (C35 95 (.pointer (some (m2.add 2))) (.slice j3 j4 j5)) (fun _ q8=>x q8) k8) O)) r)))))))
 (fun k9=>∃ (j7:OA),k9.cell? b=some (.pointer j7)/\K (.pointer j7) k9))) n4) n2) h
theorem A1j a b c d(hvc:A1k prog a b c d h K):FCall prog Je #[.slice a b c,I d] h K:=
 C8 bod func68 [.tmp 4] ⟨[(8,⟨[31],[(9,2)],[.int .i64 0,.bool false,.slice none 0 0],⟨([11,12]++Lrg 31 21),[9,11,12]⟩⟩),(17,⟨[62],[],[.int .i64 0],⟨([13,14]++Lrg 62 17),[14]⟩⟩)],[(16,⟨[],[(9,2)],[.bool false,.slice none 0 0],⟨[52,53,54],[9]⟩⟩)],[(12,([1,2,3,4,5,0,6,7,8,9,10],[])),(21,([1,2,3,4,5,6,0,7,8,9,10,11,12],[]))],[(4,[.slice none 0 0])],[(12,[(0,[6,7])]),(21,[(0,[7,8,9])])]⟩ 92 [7,9,11,12,14] [115,132,135,136,137,138,139,140] [1000000000] (by kernel_rfl) hvc
def C2s(P:Program)(e:OA)(a:Int)(h:Heap)(K:VP):Prop:=
 ∃ g,e=some g/\∃ (f:OA) (k d:Nat),h.cell? (g.add 1)=some (.slice f k d)/\∃ i,e=some i/\∃ b,h.cell? (i.add 0)=some (I b)/\∃ j,e=some j/\∃ c,h.cell? (j.add 0)=some (I c)/\(0<=B5 ((B5 (a+1))*c)/\B5 ((B5 (a+1))*c)<=(d:Int))/\(0<=B5 (a*b)/\B5 (a*b)<=(((B5 ((B5 (a+1))*c)).toNat:Nat):Int))/\K (.slice (K0 f d ((B5 (a*b)).toNat) 2) (((B5 ((B5 (a+1))*c)).toNat)-((B5 (a*b)).toNat)) (d-((B5 (a*b)).toNat))) h
theorem B7o a b(hvc:C2s prog a b h K):FCall prog Rx #[.pointer a,I b] h K:=
 C8 bod func144 [.tmp 4] an0 23 [] [] [] (by kernel_rfl) hvc
def B5t(P:Program)(F:OA)(b4:Int)(b5:Int)(b:Int)(b6:Bool)(b7:OA)(b8 b9:Nat)(h:Heap)(K:VP):Prop:=
 FCall P Rx #[.pointer F,I b4] h (fun c2 c3=>∃ (i:OA) (e c0:Nat),c2= .slice i e c0/\FCall P Rx #[.pointer F,I b5] c3 (fun c4 v=>∃ (j:OA) (k c1:Nat),c4= .slice j k c1/\∃ A,i=some A/\0<=b/\b<(e:Int)/\∃ (m:Bool) (n:OA) (o p:Nat),v.cell? (C34 (A.add (b.toNat*2)) 0)=some (.bool m)/\v.cell? (C34 (A.add (b.toNat*2)) 1)=some (.slice n o p)/\∃ (f:LP) (d:LN),f [I 0] v/\
 ∀ a c,f [I a] c->Br (decide (a<(e:Int))) (∃ B,i=some B/\0<=a/\a<(e:Int)/\∃ (q:Bool) (r:OA) (s t:Nat),c.cell? (C34 (B.add (a.toNat*2)) 0)=some (.bool q)/\c.cell? (C34 (B.add (a.toNat*2)) 1)=some (.slice r s t)/\∃ (u:LP),(FCall P G0 #[.agg #[.bool q,.slice r s t]] c (fun c5 a8=>∃ (G:Bool),c5= .bool G/\Br G (FCall P G0 #[.agg #[.bool m,.slice n o p]] a8 (fun c6 g=>∃ (H:Bool),c6= .bool H/\Br H (f [I (B5 (a+1))] g/\d [I (B5 (a+1))] g<d [I a] c)
 (∃ C,j=some C/\0<=a/\a<(k:Int)/\∃ (J:Bool) (L:OA) (M N:Nat),g.cell? (C34 (C.add (a.toNat*2)) 0)=some (.bool J)/\g.cell? (C34 (C.add (a.toNat*2)) 1)=some (.slice L M N)/\FCall P G0 #[.agg #[.bool J,.slice L M N]] g (fun c7 w=>∃ (O:Bool),c7= .bool O/\Br O (f [I (B5 (a+1))] w/\d [I (B5 (a+1))] w<d [I a] c)
 (u [] w)))))
 (u [] a8)))/\
 ∀ b2,u [] b2->wpH P (C39 203 true (.tuple #[])) (fun c8 x=>∃ (l:Addr),c8= .pointer (some l)/\∃ D,j=some D/\0<=b/\b<(k:Int)/\∃ (Q:Bool) (R:OA) (S T:Nat),x.cell? (C34 (D.add (b.toNat*2)) 0)=some (.bool Q)/\x.cell? (C34 (D.add (b.toNat*2)) 1)=some (.slice R S T)/\FCall P S7 #[.pointer (some l),.agg #[.bool Q,.slice R S T],.agg #[.bool q,.slice r s t]] x (fun c9 y=>c9= .tuple #[]/\∃ E,j=some E/\0<=a/\a<(k:Int)/\∃ (V:Bool) (W:OA) (X Z:Nat),y.cell? (C34 (E.add (a.toNat*2)) 0)=some (.bool V)/\y.cell? (C34 (E.add (a.toNat*2)) 1)=some (.slice W X Z)/\FCall P Eb #[.pointer (some l),.agg #[.bool m,.slice n o p],.agg #[.bool V,.slice W X Z]] y (fun d0 a9=>d0= .tuple #[]/\FCall P Pz #[.pointer (some l)] a9 (fun d1 z=>∃ (a0:Bool) (a1:OA) (a2 a3:Nat),d1= .agg #[.bool a0,.slice a1 a2 a3]/\Heap.le a9 z/\FCall P Kq #[.agg #[.bool a0,.slice a1 a2 a3],.agg #[.bool b6,.slice b7 b8 b9]] z (fun d2 b0=>∃ (a4:Bool) (a5:OA) (a6 a7:Nat),d2= .agg #[.bool a4,.slice a5 a6 a7]/\Heap.le z b0/\∃ b3,i=some b3/\0<=a/\a<(e:Int)/\wpH P (C35 102 (.pointer (some (b3.add (a.toNat*2)))) (.agg #[.bool a4,.slice a5 a6 a7])) (fun _ b1=>f [I (B5 (a+1))] b1/\d [I (B5 (a+1))] b1<d [I a] c) b0))))) b2)
 (K (.tuple #[]) c)))
theorem B1m a b c d e f g i(hvc:B5t prog a b c d e f g i h K):FCall prog Ya #[.pointer a,I b,I c,I d,.agg #[.bool e,.slice f g i]] h K:=
 C8 bod func143 [] ⟨[(4,⟨[28],[],[.int .i64 0],⟨([13,14,15]++Lrg 28 37),[14]⟩⟩)],[(7,⟨[],[],[],⟨(Lrg 33 13),[]⟩⟩)],[(10,([0,1,3,2,4,5,6],[]))],[],[]⟩ 65 [9,12,14] [138,140,144,152,153,196] [152,196] (by kernel_rfl) hvc
def B5i(P:Program)(e:OA)(f g:Nat)(i:Int)(h:Heap)(K:VP):Prop:=
 wpH P (Instr.box 95 (.slice e f g)) (fun j k=>∃ (b:Addr),j= .pointer (some b)/\wpH P (Instr.box 3 (I i)) (fun l d=>∃ (a:Addr),l= .pointer (some a)/\∃ (c:Int),d.cell? a=some (I c)/\Br (decide (c<(1:Int))) (False)
 (K (.func (.func 191) #[] #[.pointer (some b),.pointer (some a)]) d)) k) h
theorem B16 a b c d(hvc:B5i prog a b c d h K):FCall prog Qb #[.slice a b c,I d] h K:=
 C8 bod func135 [.tmp 4] an0 9 [] [] [] (by kernel_rfl) hvc
def B17(P:Program)(p:Nat)(f:Addr)(j:Addr)(h:Heap)(K:VP):Prop:=
 ∃ (g:LP) (k:LN),g [I 0] h/\
 ∀ a d,g [I a] d->∃ (q:OA) (l r:Nat),d.cell? f=some (.slice q l r)/\Br (decide (a<(l:Int))) (∃ (c:Int),d.cell? j=some (I c)/\∃ (s:OA) (b t:Nat),d.cell? f=some (.slice s b t)/\(0<=a/\a<=(b:Int))/\∃ (m:OA) (u n:Nat),d.cell? f=some (.slice m u n)/\(0<=B5 (a+(if ((b-(a.toNat):Nat):Int)<c then ((b-(a.toNat):Nat):Int) else c))/\B5 (a+(if ((b-(a.toNat):Nat):Int)<c then ((b-(a.toNat):Nat):Int) else c))<=(n:Int))/\(0<=B5 (a+(if ((b-(a.toNat):Nat):Int)<c then ((b-(a.toNat):Nat):Int) else c))/\B5 (a+(if ((b-(a.toNat):Nat):Int)<c then ((b-(a.toNat):Nat):Int) else c))<=(((B5 (a+(if ((b-(a.toNat):Nat):Int)<c then ((b-(a.toNat):Nat):Int) else c))).toNat:Nat):Int))/\(0<=a/\a<=(((B5 (a+(if ((b-(a.toNat):Nat):Int)<c then ((b-(a.toNat):Nat):Int) else c))).toNat:Nat):Int))/\YCall P p #[.slice (K0 m ((B5 (a+(if ((b-(a.toNat):Nat):Int)<c then ((b-(a.toNat):Nat):Int) else c))).toNat) (a.toNat) 4) ((B5 (a+(if ((b-(a.toNat):Nat):Int)<c then ((b-(a.toNat):Nat):Int) else c))).toNat-a.toNat) ((B5 (a+(if ((b-(a.toNat):Nat):Int)<c then ((b-(a.toNat):Nat):Int) else c))).toNat-a.toNat)] d (fun v e=>∃ (o:Bool),v= .bool o/\Br (!o) (K (.tuple #[]) e)
 (∃ (i:Int),e.cell? j=some (I i)/\g [I (B5 (a+i))] e/\k [I (B5 (a+i))] e<k [I a] d)))
 (K (.tuple #[]) d)
theorem A6v(a:Nat)(b:Addr)(c:Addr)(hvc:B17 prog a b c h K):FCall prog Gg #[.func (.yield a) #[] #[],.pointer (some b),.pointer (some c)] h K:=
 C8 bod func191 [] { loops:=[(1,⟨[4],[],[.int .i64 0],⟨(Lrg 4 27),[]⟩⟩)] } 31 [] [] [] (by kernel_rfl) hvc
theorem Yz:∀ (args:Array Value) (W:World),(callFunc Gg args).run prog W= .ok (.enter Gg args) W:=call191
def C00(P:Program)(c:Int)(b:Int)(r:OA)(j s:Nat)(h:Heap)(K:VP):Prop:=
 Br (decide (c<(1:Int))) (K (.tuple #[.slice none 0 0,.bool false]) h)
 (Br (decide (c>(64:Int))) (K (.tuple #[.slice none 0 0,.bool false]) h)
 (Br (decide (b<(1:Int))) (K (.tuple #[.slice none 0 0,.bool false]) h)
 (Br (decide (b>(64:Int))) (K (.tuple #[.slice none 0 0,.bool false]) h)
 (Br ((j:Int) != (B5 (c*b))) (K (.tuple #[.slice none 0 0,.bool false]) h)
 (FCall P Xs #[.slice r j s] h (fun u o=>∃ (k:OA) (t d:Nat) (l:Bool),u= .tuple #[.slice k t d,.bool l]/\Br (!l) (K (.tuple #[.slice none 0 0,.bool false]) o)
 (wpH P (C37 52 (I c) (I c)) (fun v w=>∃ (f:OA) (g m:Nat),v= .slice f g m/\∃ (i:LP) (n:LN),i [I 0] w/\
 ∀ a e,i [I a] e->Br (decide (a<c)) ((0<=B5 ((B5 (a+1))*b)/\B5 ((B5 (a+1))*b)<=(d:Int))/\(0<=B5 (a*b)/\B5 (a*b)<=(((B5 ((B5 (a+1))*b)).toNat:Nat):Int))/\∃ q,f=some q/\0<=a/\a<(g:Int)/\wpH P (C35 58 (.pointer (some (q.add (a.toNat*1)))) (.slice (K0 k d ((B5 (a*b)).toNat) 4) (((B5 ((B5 (a+1))*b)).toNat)-((B5 (a*b)).toNat)) (d-((B5 (a*b)).toNat)))) (fun _ p=>i [I (B5 (a+1))] p/\n [I (B5 (a+1))] p<n [I a] e) e)
 (K (.tuple #[.slice f g m,.bool true]) e)) o)))))))
theorem B3z a b c d e(hvc:C00 prog a b c d e h K):FCall prog A33 #[.agg #[I a,I b,.slice c d e]] h K:=
 C8 bod func35 [.tmp 2,.tmp 3] { loops:=[(8,⟨[7],[],[.int .i64 0],⟨([7]++Lrg 48 20),[]⟩⟩)] } 69 [1] [38] [] (by kernel_rfl) hvc
def C01(P:Program)(n:OA)(c E:Nat)(h:Heap)(K:VP):Prop:=
 Br ((c:Int)==(0:Int)) (K (.agg #[I 0,I 0,.slice none 0 0]) h)
 (∃ y,n=some y/\0<=(0:Int)/\(0:Int)<(c:Int)/\∃ (A:OA) (o B:Nat),h.cell? (y.add (((0:Int)).toNat*1))=some (.slice A o B)/\∃ (j:LP) (p:LN),j [I 0,I (c:Int),I (o:Int),.slice none 0 0] h/\
 ∀ a d e f g i b,j [I a,I d,I e,.slice f g i] b->Br (decide (a<(c:Int))) (∃ z,n=some z/\0<=a/\a<(c:Int)/\∃ (q:OA) (r s:Nat),b.cell? (z.add (a.toNat*1))=some (.slice q r s)/\FCall P Xn #[.slice q r s] b (fun C w=>∃ (t:OA) (u v:Nat),C= .slice t u v/\Heap.le b w/\wpH P (C36 #[23,23] 23 #[.slice f g i,.slice t u v]) (fun D x=>∃ (k:OA) (l m:Nat),D= .slice k l m/\j [I (B5 (a+1)),I d,I e,.slice k l m] x/\p [I (B5 (a+1)),I d,I e,.slice k l m] x<p [I a,I d,I e,.slice f g i] b) w))
 (K (.agg #[I d,I e,.slice f g i]) b))
theorem B40 a b c(hvc:C01 prog a b c h K):FCall prog A34 #[.slice a b c] h K:=
 C8 bod func64 [.cell 2 25] { loops:=[(5,⟨[4],[(3,3)],[.int .i64 0,.int .i64 0,.int .i64 0,.slice none 0 0],⟨([4]++Lrg 16 15),[3]⟩⟩)] } 32 [2,3] [123] [1000000000] (by kernel_rfl) hvc
def B5n(P:Program)(c:Int)(g:Int)(h:Heap)(K:VP):Prop:=
 wpH P (C37 52 (I c) (I c)) (fun p q=>∃ (d:OA) (e i:Nat),p= .slice d e i/\∃ (f:LP) (j:LN),f [I 0] q/\
 ∀ a b,f [I a] b->Br (decide (a<c)) (wpH P (C37 58 (I g) (I g)) (fun r s=>∃ (k:OA) (l m:Nat),r= .slice k l m/\∃ o,d=some o/\0<=a/\a<(e:Int)/\wpH P (C35 58 (.pointer (some (o.add (a.toNat*1)))) (.slice k l m)) (fun _ n=>f [I (B5 (a+1))] n/\j [I (B5 (a+1))] n<j [I a] b) s) b)
 (K (.slice d e i) b)) h
theorem B1e a b(hvc:B5n prog a b h K):FCall prog Qe #[I a,I b] h K:=
 C8 bod func107 [.tmp 4] { loops:=[(3,⟨[6],[],[.int .i64 0],⟨([6]++Lrg 9 10),[]⟩⟩)] } 20 [] [] [] (by kernel_rfl) hvc
def B5m(P:Program)(w:OA)(l g4:Nat)(s:OA)(m g5:Nat)(h:Heap)(K:VP):Prop:=
 ∃ e1,s=some e1/\0<=(0:Int)/\(0:Int)<(m:Int)/\∃ (f0:OA) (x f1:Nat),h.cell? (e1.add (((0:Int)).toNat*1))=some (.slice f0 x f1)/\FCall P Qe #[I (l:Int),I (x:Int)] h (fun f9 g0=>∃ (n:OA) (o y:Nat),f9= .slice n o y/\∃ (t:LP) (z:LN),t [I 0] g0/\
 ∀ d r,t [I d] r->Br (decide (d<(l:Int))) (∃ (p:LP) (q:LN),p [I 0] r/\
 ∀ a f,p [I a] f->Br (decide (a<(m:Int))) (∃ (u:LP) (A:LN),u [I 0] f/\
 ∀ c e,u [I c] e->∃ e2,s=some e2/\0<=(0:Int)/\(0:Int)<(m:Int)/\∃ (f2:OA) (B f3:Nat),e.cell? (e2.add (((0:Int)).toNat*1))=some (.slice f2 B f3)/\Br (decide (c<(B:Int))) (∃ e3,w=some e3/\0<=d/\d<(l:Int)/\∃ (C:OA) (D f4:Nat),e.cell? (e3.add (d.toNat*1))=some (.slice C D f4)/\∃ g,C=some g/\0<=a/\a<(D:Int)/\∃ (E:Bool) (F:OA) (G H:Nat) (J:Bool) (L:OA) (M N:Nat),e.cell? (C34 (g.add (a.toNat*4)) 0)=some (.bool E)/\e.cell? (C34 (g.add (a.toNat*4)) 1)=some (.slice F G H)/\e.cell? (C34 (g.add (a.toNat*4)) 2)=some (.bool J)/\e.cell? (C34 (g.add (a.toNat*4)) 3)=some (.slice L M N)/\FCall P Ee #[.agg #[.bool E,.slice F G H,.bool J,.slice L M N]] e (fun g1 b=>∃ e4,g1=I e4/\Br (e4 != (0:Int)) (∃ e5,n=some e5/\0<=d/\d<(o:Int)/\∃ (O:OA) (Q f5:Nat),b.cell? (e5.add (d.toNat*1))=some (.slice O Q f5)/\∃ e6,n=some e6/\0<=d/\d<(o:Int)/\∃ (R:OA) (S f6:Nat),b.cell? (e6.add (d.toNat*1))=some (.slice R S f6)/\∃ i,R=some i/\0<=c/\c<(S:Int)/\∃ (T:Bool) (V:OA) (W X:Nat) (Z:Bool) (a0:OA) (a1 a2:Nat),b.cell? (C34 (i.add (c.toNat*4)) 0)=some (.bool T)/\b.cell? (C34 (i.add (c.toNat*4)) 1)=some (.slice V W X)/\b.cell? (C34 (i.add (c.toNat*4)) 2)=some (.bool Z)/\b.cell? (C34 (i.add (c.toNat*4)) 3)=some (.slice a0 a1 a2)/\∃ e7,w=some e7/\0<=d/\d<(l:Int)/\∃ (a3:OA) (a4 f7:Nat),b.cell? (e7.add (d.toNat*1))=some (.slice a3 a4 f7)/\∃ j,a3=some j/\0<=a/\a<(a4:Int)/\∃ (a5:Bool) (a6:OA) (a7 a8:Nat) (a9:Bool) (b0:OA) (b1 b2:Nat),b.cell? (C34 (j.add (a.toNat*4)) 0)=some (.bool a5)/\b.cell? (C34 (j.add (a.toNat*4)) 1)=some (.slice a6 a7 a8)/\b.cell? (C34 (j.add (a.toNat*4)) 2)=some (.bool a9)/\b.cell? (C34 (j.add (a.toNat*4)) 3)=some (.slice b0 b1 b2)/\∃ e8,s=some e8/\0<=a/\a<(m:Int)/\∃ (b3:OA) (b4 f8:Nat),b.cell? (e8.add (a.toNat*1))=some (.slice b3 b4 f8)/\∃ k,b3=some k/\0<=c/\c<(b4:Int)/\∃ (b5:Bool) (b6:OA) (b7 b8:Nat) (b9:Bool) (c0:OA) (c1 c2:Nat),b.cell? (C34 (k.add (c.toNat*4)) 0)=some (.bool b5)/\b.cell? (C34 (k.add (c.toNat*4)) 1)=some (.slice b6 b7 b8)/\b.cell? (C34 (k.add (c.toNat*4)) 2)=some (.bool b9)/\b.cell? (C34 (k.add (c.toNat*4)) 3)=some (.slice c0 c1 c2)/\FCall P Xq #[.agg #[.bool a5,.slice a6 a7 a8,.bool a9,.slice b0 b1 b2],.agg #[.bool b5,.slice b6 b7 b8,.bool b9,.slice c0 c1 c2]] b (fun g2 v=>∃ (c3:Bool) (c4:OA) (c5 c6:Nat) (c7:Bool) (c8:OA) (c9 d0:Nat),g2= .agg #[.bool c3,.slice c4 c5 c6,.bool c7,.slice c8 c9 d0]/\Heap.le b v/\FCall P Xr #[.agg #[.bool T,.slice V W X,.bool Z,.slice a0 a1 a2],.agg #[.bool c3,.slice c4 c5 c6,.bool c7,.slice c8 c9 d0]] v (fun g3 d9=>∃ (d1:Bool) (d2:OA) (d3 d4:Nat) (d5:Bool) (d6:OA) (d7 d8:Nat),g3= .agg #[.bool d1,.slice d2 d3 d4,.bool d5,.slice d6 d7 d8]/\Heap.le v d9/\∃ e9,O=some e9/\0<=c/\c<(Q:Int)/\wpH P (C35 66 (.pointer (some (e9.add (c.toNat*4)))) (.agg #[.bool d1,.slice d2 d3 d4,.bool d5,.slice d6 d7 d8])) (fun _ e0=>u [I (B5 (c+1))] e0/\A [I (B5 (c+1))] e0<A [I c] e) d9)))
 (p [I (B5 (a+1))] b/\q [I (B5 (a+1))] b<q [I a] f)))
 (p [I (B5 (a+1))] e/\q [I (B5 (a+1))] e<q [I a] f))
 (t [I (B5 (d+1))] f/\z [I (B5 (d+1))] f<z [I d] r))
 (K (.slice n o y) r))
theorem B1c a b c d e f(hvc:B5m prog a b c d e f h K):FCall prog Qd #[.slice a b c,.slice d e f] h K:=
 C8 bod func92 [.tmp 4] { loops:=[(3,⟨[6],[],[.int .i64 0],⟨([6,7,8]++Lrg 16 60),[]⟩⟩),(6,⟨[7],[],[.int .i64 0],⟨([7,8]++Lrg 22 54),[]⟩⟩),(9,⟨[8],[],[.int .i64 0],⟨([8]++Lrg 28 48),[]⟩⟩)] } 77 [] [39,107,110,163] [] (by kernel_rfl) hvc
def B5j(P:Program)(i:Int)(j:OA)(d k:Nat)(h:Heap)(K:VP):Prop:=
 ∃ (c:LP) (e:LN),c [I 0] h/\
 ∀ a b,c [I a] b->Br (decide (a<(d:Int))) (∃ g,j=some g/\0<=a/\a<(d:Int)/\∃ (f:ByteArray),b.cell? (g.add (a.toNat*1))=some (.string f)/\Br (decide (((ByteArray.size f:Nat):Int)>i)) (K (.bool false) b)
 (c [I (B5 (a+1))] b/\e [I (B5 (a+1))] b<e [I a] b))
 (K (.bool true) b)
theorem B18 a b c d(hvc:B5j prog a b c d h K):FCall prog Qc #[I a,.slice b c d] h K:=
 C8 bod func14 [.tmp 4] { loops:=[(2,⟨[5],[],[.int .i64 0],⟨(Lrg 4 15),[]⟩⟩)] } 19 [] [] [] (by kernel_rfl) hvc
def Pe(P:Program)(d:Int)(e:Int)(f:OA)(b g:Nat)(a:Int)(i:Int)(h:Heap)(K:VP):Prop:=
 Br (decide (d<=a)) (Br (decide (e<=a)) (Br (decide ((b:Int)<=(B5 ((B5 (a*a))+2)))) (FCall P Qc #[I i,.slice f b g] h (fun j k=>∃ (c:Bool),j= .bool c/\K (.bool c) k))
 (K (.bool false) h))
 (K (.bool false) h))
 (K (.bool false) h)
theorem Tn a b c d e f g(hvc:Pe prog a b c d e f g h K):FCall prog W5 #[.agg #[I a,I b,.slice c d e],I f,I g] h K:=
 C8 bod func24 [.tmp 6] an0 33 [3] [14] [] (by kernel_rfl) hvc
def A5a(P:Program)(l:OA)(c n:Nat)(m:OA)(e o:Nat)(h:Heap)(K:VP):Prop:=
 Br ((c:Int) != (e:Int)) (K (.bool false) h)
 (∃ (d:LP) (f:LN),d [I 0] h/\
 ∀ a b,d [I a] b->Br (decide (a<(c:Int))) (∃ j,l=some j/\0<=a/\a<(c:Int)/\∃ (g:ByteArray),b.cell? (j.add (a.toNat*1))=some (.string g)/\∃ k,m=some k/\0<=a/\a<(e:Int)/\∃ (i:ByteArray),b.cell? (k.add (a.toNat*1))=some (.string i)/\Br (!(ByteArray.toList g==ByteArray.toList i)) (K (.bool false) b)
 (d [I (B5 (a+1))] b/\f [I (B5 (a+1))] b<f [I a] b))
 (K (.bool true) b))
theorem A3p a b c d e f(hvc:A5a prog a b c d e f h K):FCall prog Ct #[.slice a b c,.slice d e f] h K:=
 C8 bod func60 [.tmp 4] { loops:=[(4,⟨[5],[],[.int .i64 0],⟨([4,5]++Lrg 11 15),[]⟩⟩)] } 26 [] [] [] (by kernel_rfl) hvc
def A1o(P:Program)(b:Int)(c:Int)(d:OA)(e f:Nat)(g:Int)(i:Int)(j:OA)(k l:Nat)(h:Heap)(K:VP):Prop:=
 Br (b==g) (Br (c==i) (FCall P Ct #[.slice d e f,.slice j k l] h (fun m n=>∃ (a:Bool),m= .bool a/\K (.bool a) n))
 (K (.bool false) h))
 (K (.bool false) h)
theorem A1n a b c d e f g i j k(hvc:A1o prog a b c d e f g i j k h K):FCall prog Jf #[.agg #[I a,I b,.slice c d e],.agg #[I f,I g,.slice i j k]] h K:=
 C8 bod func19 [.tmp 4] an0 24 [2,3] [60] [] (by kernel_rfl) hvc
end Go.Proofs.YtajkakhfcokljaaGreatDoor
