/- A part. -/
import Derived.Test.YtmbfcbbkbefgfaaGreatDoorG09
import Derived.Test.YtmbfcbbkbefgfaaGreatDoorG21
import Derived.Test.YtmbfcbbkbefgfaaGreatDoorG27
import Derived.Test.YtmbfcbbkbefgfaaGreatDoorG20
open Go.Proofs.Tryz
set_option linter.all false
open _root_.Go.Proofs.YtmbfcbbkbefgfaaGreatDoor renaming FCall->aC
namespace Go.Proofs.YtmbfcbbkbefgfaaGreatDoor
open Go
set_option maxRecDepth 100000
variable {h:Heap} {K:VP}
abbrev Md:Nat:=100
abbrev B6r:Nat:=87
abbrev P7:Nat:=235
abbrev Qw:Nat:=201
abbrev B9n:Nat:=211
abbrev B5f:Nat:=233
abbrev C11:Nat:=156
abbrev B9m:Nat:=175
abbrev B3h:Nat:=120
abbrev C1v:Nat:=98
abbrev B6v:Nat:=179
abbrev C1w:Nat:=97
abbrev B9r:Nat:=101
abbrev B3i:Nat:=182
abbrev B6t:Nat:=176
abbrev B6u:Nat:=95
abbrev B9p:Nat:=124
abbrev B8d:Nat:=214
abbrev B1y:Nat:=213
abbrev B1z:Nat:=177
abbrev B9o:Nat:=178
abbrev B5e:Nat:=163
abbrev C1z:Nat:=165
abbrev C19:Nat:=237
abbrev C1a:Nat:=246
abbrev B9u:Nat:=172
abbrev B8g:Nat:=174
abbrev B9q:Nat:=234
abbrev B8e:Nat:=276
abbrev C15:Nat:=61
abbrev C16:Nat:=84
abbrev B9t:Nat:=115
abbrev C13:Nat:=162
abbrev C18:Nat:=161
abbrev C14:Nat:=83
abbrev B9s:Nat:=82
abbrev C1x:Nat:=59
abbrev C1y:Nat:=47
abbrev B6x:Nat:=132
abbrev B8f:Nat:=99
abbrev C17:Nat:=57
abbrev B5h:Nat:=126
abbrev Xf:Nat:=31
abbrev B0l:Nat:=30
abbrev B6w:Nat:=80
abbrev B5g:Nat:=29
abbrev A89:Nat:=40
abbrev Po:Nat:=265
abbrev B74:Nat:=225
abbrev B6p:Nat:=135
abbrev C02:Nat:=41
abbrev B9z:Nat:=235
abbrev B0s:Nat:=70
abbrev A4i:Nat:=3
def B7b:SliceT prog B0s A4i (I 0) 1 8:=⟨by kernel_rfl,by kernel_rfl,rfl,by decide⟩
abbrev B4k:Nat:=128
abbrev Fa:Nat:=145
def C1l:SliceT prog B4k Fa (Qv false none 0 0 false none 0 0) 4 64:=⟨by kernel_rfl,by kernel_rfl,rfl,by decide⟩
def B11:prog.cellsOf Fa=4/\(prog.info? Fa).isSome=true:=⟨by kernel_rfl,by kernel_rfl⟩
abbrev B72:Nat:=220
abbrev Gs:Nat:=138
def tZs:SliceT prog B72 Gs (Zv false none 0 0) 2 32:=⟨by kernel_rfl,by kernel_rfl,rfl,by decide⟩
def B4o:prog.cellsOf Gs=2/\(prog.info? Gs).isSome=true:=⟨by kernel_rfl,by kernel_rfl⟩
abbrev C01:Nat:=56
abbrev B77:Nat:=75
abbrev B97:Nat:=231
abbrev B6l:Nat:=235
abbrev B75:Nat:=314
abbrev B4j:Nat:=38
def A48(P:Program)(x:OA)(c B:Nat)(h:Heap)(K:VP):Prop:=
 wpH P (Instr.makeSlice 128 (I (c:Int)) (I (c:Int))) (fun y z=>∃ e f u,y=Sl e f u/\∃ (d:LP) (g:LN),d [I 0] z/\
 ∀ a b,d [I a] b->Bd (a<(c:Int)) (∃ v,Ax x v a c <| ∃ (i:ByteArray),b.cell? (v.add (a.toNat*1))=some (.string i)/\aC P Qu #[.string i] b (fun A s=>∃ (j:Bool) (k:OA) (l m:Nat) (n:Bool) (o:OA) (p q:Nat) (r:Bool),A= .tuple #[Qv j k l m n o p q,.bool r]/\Br (!r) (K (.tuple #[Sl none 0 0,.bool false]) s)
 (∃ w,Ax e w a f<|wpH P (Instr.storeAt 145 (Pt (w.add (a.toNat*4))) (Qv j k l m n o p q)) (fun _ t=>d [I (B4 (a+1))] t/\g [I (B4 (a+1))] t<g [I a] b) s)))
 (K (.tuple #[Sl e f u,.bool true]) b)) h
def A2u a b c(hvc:A48 prog a b c h K):aC prog Md #[Sl a b c] h K:=
 fnk func100 { loops:=[(3,⟨[14],[],[I 0],⟨([2,3,5,6,7,8]++Lrg 14 17),[7]⟩⟩)] } [7] [] hvc
def Bw(P:Program)(C:OA)(t O:Nat)(h:Heap)(K:VP):Prop:=
 aC P A03 #[I 1] h (fun D E=>∃ x y z A,D=Zv x y z A/\∃ (i:LP) (g:LN),i [I 0,.bool x,.slice y z A] E/\
 ∀ a b c d e f,i [I a,.bool b,.slice c d e] f->Bd (a<(t:Int)) (∃ B,Ax C B a t <| ∃ J L M N j k l m,Lq f (B.add (a.toNat*4)) J L M N j k l m<|aC P E4 #[Zv j k l m] f (fun F n=>∃ (u:Bool),F= .bool u/\Br (!u) (aC P Wx #[Zv j k l m,Zv b c d e] n (fun G o=>∃ (v:Bool),G= .bool v/\Br (!v) (aC P A83 #[Zv b c d e,Zv j k l m] o (fun H w=>∃ p q r s,H=Zv p q r s/\i [I (B4 (a+1)),.bool p,.slice q r s] w/\g [I (B4 (a+1)),.bool p,.slice q r s] w<g [I a,.bool b,.slice c d e] f))
 (i [I (B4 (a+1)),.bool b,.slice c d e] o/\g [I (B4 (a+1)),.bool b,.slice c d e] o<g [I a,.bool b,.slice c d e] f)))
 (i [I (B4 (a+1)),.bool b,.slice c d e] n/\g [I (B4 (a+1)),.bool b,.slice c d e] n<g [I a,.bool b,.slice c d e] f)))
 (K (Zv b c d e) f))
def Gi a b c(hvc:Bw prog a b c h K):aC prog P7 #[Sl a b c] h K:=
 fnk func235 { loops:=[(3,⟨[9],[(3,2)],[I 0,.bool false,N0],⟨([5]++Lrg 9 20),[3,5]⟩⟩)] } [2,3,5] [] hvc
def A9p(P:Program)(c:Bool)(d:OA)(e f:Nat)(g:Bool)(i:OA)(j k:Nat)(l:Bool)(m:OA)(n o:Nat)(h:Heap)(K:VP):Prop:=
 aC P E4 #[Zv g i j k] h (fun D a=>∃ (p:Bool),D= .bool p/\Br p (aC P T7 #[Zv c d e f,Zv l m n o] a (fun E F=>∃ r s t u,E=Zv r s t u/\K (Zv r s t u) F))
 (aC P Fp #[Zv l m n o,Zv g i j k] a (fun G b=>∃ v w x y,G=Zv v w x y/\a.le b/\aC P T7 #[Zv c d e f,Zv v w x y] b (fun H q=>∃ z A B C,H=Zv z A B C/\b.le q/\K (Zv z A B C) q))))
def A5p a b c d e f g i j k l m(hvc:A9p prog a b c d e f g i j k l m h K):aC prog Qw #[Qv a b c d e f g i,Zv j k l m] h K:=
 fnk func201 an0 [2,3,4] [] hvc
def B46(P:Program)(i:Int)(j:OA)(d k:Nat)(h:Heap)(K:VP):Prop:=
 ∃ (c:LP) (e:LN),c [I 0] h/\
 ∀ a b,c [I a] b->Bd (a<(d:Int)) (∃ g,Ax j g a d <| ∃ (f:ByteArray),b.cell? (g.add (a.toNat*1))=some (.string f)/\Bd (((ByteArray.size f:Nat):Int)>i) (K (.bool false) b)
 (c [I (B4 (a+1))] b/\e [I (B4 (a+1))] b<e [I a] b))
 (K (.bool true) b)
def B03 a b c d(hvc:B46 prog a b c d h K):aC prog Xf #[I a,Sl b c d] h K:=
 fnk func31 { loops:=[(2,⟨[5],[],[I 0],⟨(Lrg 4 15),[]⟩⟩)] } [] [] hvc
def C2m(P:Program)(b:Int)(a:Int)(h:Heap)(K:VP):Prop:=
 Bd (a=0) False
 (Bd ((Int.tmod b a)<0) (K (I (B4 ((Int.tmod b a)+a))) h)
 (K (I (Int.tmod b a)) h))
def B6i a b(hvc:C2m prog a b h K):aC prog A89 #[I a,I b] h K:=
 fnk func40 an0 [] [] hvc
