/- A part. -/
import Derived.Test.YtmbfcbbkbefgfaaGreatDoorG09
import Derived.Test.YtmbfcbbkbefgfaaGreatDoorG20
open Go.Proofs.Tryz
set_option linter.all false
open _root_.ByteArray renaming toList->aF
open _root_.Go.Instr renaming buildSlice->aD
open Int renaming tdiv->aH
open _root_.Go renaming Program->aE
open _root_.Go.Proofs.YtmbfcbbkbefgfaaGreatDoor renaming FCall->aC,Heap->aG
namespace Go.Proofs.YtmbfcbbkbefgfaaGreatDoor
open Go
set_option maxRecDepth 100000
variable {h:aG} {K:VP}
abbrev Se:Nat:=113
abbrev Gj:Nat:=114
abbrev V7:Nat:=141
abbrev X6:Nat:=112
abbrev Gm:Nat:=39
abbrev Yq:Nat:=71
abbrev Qg:Nat:=70
abbrev Qf:Nat:=68
abbrev Yp:Nat:=62
abbrev Yo:Nat:=63
abbrev Dc:Nat:=135
abbrev By:Nat:=64
abbrev Lb:Nat:=69
abbrev Yf:Nat:=144
abbrev Rs:Nat:=74
abbrev Bu:Nat:=224
abbrev Yg:Nat:=147
abbrev Rt:Nat:=145
abbrev Yh:Nat:=79
abbrev Rv:Nat:=146
abbrev Ef:Nat:=225
abbrev Sd:Nat:=31
abbrev C26:Nat:=40
abbrev V6:Nat:=13
abbrev Yn:Nat:=12
abbrev B8o:Nat:=107
abbrev C25:Nat:=37
abbrev B6l:Nat:=25
abbrev J7:Nat:=30
def B6q:SliceT prog B6l J7 (.agg #[.string ({ data:=#[] }:ByteArray),.string ({ data:=#[] }:ByteArray)]) 2 32:=⟨by kernel_rfl,by kernel_rfl,rfl,by decide⟩
def B2z:prog.cellsOf J7=2/\(prog.info? J7).isSome=true:=⟨by kernel_rfl,by kernel_rfl⟩
def B27(P:aE)(l:ByteArray)(m:OA)(i o:Nat)(h:aG)(K:VP):Prop:=
 ∃ (d:LP) (e:LN),d [.string l,I 0] h/\
 ∀ b a c,d [.string b,I a] c->Bd (a<(i:Int)) (∃ j,Ax m j a i <| ∃ (f:ByteArray),c.cell? (j.add (a.toNat*1))=some (.string f)/\aC P U3 #[.string f,.string b] c (fun n g=>∃ k,n=I k/\Bd (k<0) (d [.string f,I (B5 (a+1))] g/\e [.string f,I (B5 (a+1))] g<e [.string b,I a] c)
 (d [.string b,I (B5 (a+1))] g/\e [.string b,I (B5 (a+1))] g<e [.string b,I a] c)))
 (K (.string b) c)
def A7w a b c d(hvc:B27 prog a b c d h K):aC prog Se #[.string a,Sl b c d] h K:=
 fnk func113 { loops:=[(2,⟨[0,9],[],[.string ⟨#[]⟩,I 0],⟨([0,6]++Lrg 9 10),[]⟩⟩)] } [] [] hvc
def Wr(P:aE)(l:ByteArray)(m:OA)(i o:Nat)(h:aG)(K:VP):Prop:=
 ∃ (d:LP) (e:LN),d [.string l,I 0] h/\
 ∀ b a c,d [.string b,I a] c->Bd (a<(i:Int)) (∃ j,Ax m j a i <| ∃ (f:ByteArray),c.cell? (j.add (a.toNat*1))=some (.string f)/\aC P U3 #[.string f,.string b] c (fun n g=>∃ k,n=I k/\Bd (k>0) (d [.string f,I (B5 (a+1))] g/\e [.string f,I (B5 (a+1))] g<e [.string b,I a] c)
 (d [.string b,I (B5 (a+1))] g/\e [.string b,I (B5 (a+1))] g<e [.string b,I a] c)))
 (K (.string b) c)
def Zq a b c d(hvc:Wr prog a b c d h K):aC prog Gj #[.string a,Sl b c d] h K:=
 fnk func114 { loops:=[(2,⟨[0,9],[],[.string ⟨#[]⟩,I 0],⟨([0,6]++Lrg 9 10),[]⟩⟩)] } [] [] hvc
def B69(P:aE)(a:ByteArray)(b:OA)(c d:Nat)(h:aG)(K:VP):Prop:=
 aC P Se #[.string a,Sl b c d] h (fun g i=>∃ (e:ByteArray),g= .string e/\aC P Gj #[.string a,Sl b c d] i (fun j k=>∃ (f:ByteArray),j= .string f/\K (.agg #[.string e,.string f]) k))
def B23 a b c d(hvc:B69 prog a b c d h K):aC prog V7 #[.string a,Sl b c d] h K:=
 fnk func141 an0 [4] [] hvc
def B21(P:aE)(a b:ByteArray)(h:aG)(K:VP):Prop:=
 aC P Ed #[.string a] h (fun i e=>∃ (c:Bool),i= .bool c/\Br c (aC P Ed #[.string b] e (fun j f=>∃ (d:Bool),j= .bool d/\Br d (aC P U3 #[.string a,.string b] f (fun k l=>∃ g,k=I g/\K (.bool (decide (g<=0))) l))
 (K (.bool false) f)))
 (K (.bool false) e))
def A7t a b(hvc:B21 prog a b h K):aC prog X6 #[.agg #[.string a,.string b]] h K:=
 fnk func112 an0 [1] [] hvc
def Wt(P:aE)(b c a:ByteArray)(h:aG)(K:VP):Prop:=
 aC P X6 #[.agg #[.string b,.string c]] h (fun l f=>∃ (d:Bool),l= .bool d/\Br d (aC P Ed #[.string a] f (fun m g=>∃ (e:Bool),m= .bool e/\Br e (aC P U3 #[.string b,.string a] g (fun n i=>∃ j,n=I j/\Bd (j<=0) (aC P U3 #[.string a,.string c] i (fun o p=>∃ k,o=I k/\K (.bool (decide (k<=0))) p))
 (K (.bool false) i)))
 (K (.bool false) g)))
 (K (.bool false) f))
def Zs a b c(hvc:Wt prog a b c h K):aC prog Gm #[.agg #[.string a,.string b],.string c] h K:=
 fnk func39 an0 [2] [] hvc
def B6c(P:aE)(e f:ByteArray)(g i:ByteArray)(h:aG)(K:VP):Prop:=
 aC P A5c #[.string e,.string g] h (fun j a=>∃ (b:ByteArray),j= .string b/\h.le a/\aC P A5c #[.string f,.string i] a (fun k d=>∃ (c:ByteArray),k= .string c/\a.le d/\K (.agg #[.string b,.string c]) d))
def B29 a b c d(hvc:B6c prog a b c d h K):aC prog Yq #[.agg #[.string a,.string b],.agg #[.string c,.string d]] h K:=
 fnk func71 { orders:=[(1,([0,1,2,3,5,6,7,8,4,9,10,11],[]))] } [2,3,4] [] hvc
def B6b(P:aE)(f g:ByteArray)(i j:ByteArray)(h:aG)(K:VP):Prop:=
 aC P Kq #[.string f,.string i] h (fun u a=>∃ (k:ByteArray),u= .string k/\h.le a/\aC P Kq #[.string f,.string j] a (fun v b=>∃ (l:ByteArray),v= .string l/\a.le b/\aC P Kq #[.string g,.string i] b (fun w c=>∃ (m:ByteArray),w= .string m/\b.le c/\aC P Kq #[.string g,.string j] c (fun x d=>∃ (n:ByteArray),x= .string n/\c.le d/\wpH P (aD 38 3 #[(0,.string l),(1,.string m),(2,.string n)]) (fun y e=>∃ r s t,y=Sl r s t/\d.le e/\aC P V7 #[.string k,Sl r s t] e (fun z q=>∃ (o p:ByteArray),z= .agg #[.string o,.string p]/\e.le q/\K (.agg #[.string o,.string p]) q)) d))))
def B26 a b c d(hvc:B6b prog a b c d h K):aC prog Qg #[.agg #[.string a,.string b],.agg #[.string c,.string d]] h K:=
 fnk func70 { orders:=[(1,([0,1,2,3,5,6,7,8,10,11,12,13,15,16,17,18,4,9,14,19,20,21,22],[]))] } [2,3,4] [] hvc
def B6a(P:aE)(e f:ByteArray)(c:Int)(h:aG)(K:VP):Prop:=
 aC P A1i #[.string e,I c] h (fun O Q=>∃ (a:ByteArray) (M:Bool),O= .tuple #[.string a,.bool M]/\aC P A1i #[.string f,I c] Q (fun R d=>∃ (b:ByteArray) (N:Bool),R= .tuple #[.string b,.bool N]/\Bd (c>0) (Br ((Int.tmod c (2:Int))==0) (aC P Yc #[.string e] d (fun S r=>∃ t,S=I t/\Bd (t<0) (aC P Yc #[.string f] r (fun T s=>∃ u,T=I u/\Bd (u>0) (wpH P (aD 38 2 #[(0,.string a),(1,.string b)]) (fun V W=>∃ v w x,V=Sl v w x/\aC P V7 #[.string ({ data:=#[48] }:ByteArray),.slice v w x] W (fun X Z=>∃ (g i:ByteArray),X= .agg #[.string g,.string i]/\K (.agg #[.string g,.string i]) Z)) s)
 (wpH P (aD 38 1 #[(0,.string b)]) (fun a0 a1=>∃ y z A,a0=Sl y z A/\aC P V7 #[.string a,Sl y z A] a1 (fun a2 a3=>∃ (j k:ByteArray),a2= .agg #[.string j,.string k]/\K (.agg #[.string j,.string k]) a3)) s)))
 (wpH P (aD 38 1 #[(0,.string b)]) (fun a4 a5=>∃ B C D,a4=Sl B C D/\aC P V7 #[.string a,Sl B C D] a5 (fun a6 a7=>∃ (l m:ByteArray),a6= .agg #[.string l,.string m]/\K (.agg #[.string l,.string m]) a7)) r)))
 (wpH P (aD 38 1 #[(0,.string b)]) (fun a8 a9=>∃ E F G,a8=Sl E F G/\aC P V7 #[.string a,Sl E F G] a9 (fun b0 b1=>∃ (n o:ByteArray),b0= .agg #[.string n,.string o]/\K (.agg #[.string n,.string o]) b1)) d))
 (wpH P (aD 38 1 #[(0,.string b)]) (fun b2 b3=>∃ H J L,b2=Sl H J L/\aC P V7 #[.string a,Sl H J L] b3 (fun b4 b5=>∃ (p q:ByteArray),b4= .agg #[.string p,.string q]/\K (.agg #[.string p,.string q]) b5)) d)))
def B24 a b c(hvc:B6a prog a b c h K):aC prog Qf #[.agg #[.string a,.string b],I c] h K:=
 fnk func68 an0 [2,4] [] hvc
def C0o(P:aE)(a b:ByteArray)(c d:ByteArray)(h:aG)(K:VP):Prop:=
 aC P X6 #[.agg #[.string a,.string b]] h (fun l j=>∃ (e:Bool),l= .bool e/\Br (!e) (K (.tuple #[.agg #[.string ({ data:=#[] }:ByteArray),.string ({ data:=#[] }:ByteArray)],I 1]) j)
 (aC P X6 #[.agg #[.string c,.string d]] j (fun m k=>∃ (f:Bool),m= .bool f/\Br (!f) (K (.tuple #[.agg #[.string ({ data:=#[] }:ByteArray),.string ({ data:=#[] }:ByteArray)],I 1]) k)
 (aC P Qg #[.agg #[.string a,.string b],.agg #[.string c,.string d]] k (fun n o=>∃ (g i:ByteArray),n= .agg #[.string g,.string i]/\K (.tuple #[.agg #[.string g,.string i],I 0]) o)))))
def B4x a b c d(hvc:C0o prog a b c d h K):aC prog Yp #[.agg #[.string a,.string b],.agg #[.string c,.string d]] h K:=
 fnk func62 an0 [2,3,4] [] hvc
def C0n(P:aE)(c d:ByteArray)(b:Int)(h:aG)(K:VP):Prop:=
 aC P X6 #[.agg #[.string c,.string d]] h (fun i a=>∃ (e:Bool),i= .bool e/\Br (!e) (K (.tuple #[.agg #[.string ({ data:=#[] }:ByteArray),.string ({ data:=#[] }:ByteArray)],I 1]) a)
 (Bd (b<0) (K (.tuple #[.agg #[.string ({ data:=#[] }:ByteArray),.string ({ data:=#[] }:ByteArray)],I 3]) a)
 (Bd (b>24) (K (.tuple #[.agg #[.string ({ data:=#[] }:ByteArray),.string ({ data:=#[] }:ByteArray)],I 3]) a)
 (aC P Qf #[.agg #[.string c,.string d],I b] a (fun j k=>∃ (f g:ByteArray),j= .agg #[.string f,.string g]/\K (.tuple #[.agg #[.string f,.string g],I 0]) k)))))
def B4w a b c(hvc:C0n prog a b c h K):aC prog Yo #[.agg #[.string a,.string b],I c] h K:=
 fnk func63 an0 [2,4] [] hvc
def A60(P:aE)(a:Int)(h:aG)(K:VP):Prop:=
 Bd (a<=1000) (aC P A1i #[.string ({ data:=#[50] }:ByteArray),I a] h (fun g i=>∃ (b:ByteArray) (f:Bool),g= .tuple #[.string b,.bool f]/\K (.string b) i))
 (aC P Dc #[I (B5 (aH a (2:Int)))] h (fun j k=>∃ (c:ByteArray),j= .string c/\aC P Dc #[I (B5 (a-(B5 (aH a (2:Int)))))] k (fun l m=>∃ (d:ByteArray),l= .string d/\aC P Kq #[.string c,.string d] m (fun n o=>∃ (e:ByteArray),n= .string e/\K (.string e) o))))
def A4i a(hvc:A60 prog a h K):aC prog Dc #[I a] h K:=
 fnk func135 an0 [] [] hvc
def Wq(P:aE)(d e:ByteArray)(c:Int)(h:aG)(K:VP):Prop:=
 aC P X6 #[.agg #[.string d,.string e]] h (fun p b=>∃ (f:Bool),p= .bool f/\Br (!f) (K (.tuple #[.agg #[.string ({ data:=#[] }:ByteArray),.string ({ data:=#[] }:ByteArray)],I 1]) b)
 (Bd (c<0) (K (.tuple #[.agg #[.string ({ data:=#[] }:ByteArray),.string ({ data:=#[] }:ByteArray)],I 3]) b)
 (Bd (c>4096) (K (.tuple #[.agg #[.string ({ data:=#[] }:ByteArray),.string ({ data:=#[] }:ByteArray)],I 3]) b)
 (aC P Dc #[I c] b (fun q r=>∃ (a:ByteArray),q= .string a/\aC P Kq #[.string d,.string a] r (fun s t=>∃ (g:ByteArray),s= .string g/\aC P Ye #[.string g] t (fun u v=>∃ (i:ByteArray),u= .string i/\aC P A5b #[.string i,.string a] v (fun w x=>∃ (j:ByteArray) (n:Bool),w= .tuple #[.string j,.bool n]/\aC P Kq #[.string e,.string a] x (fun y z=>∃ (k:ByteArray),y= .string k/\aC P A3s #[.string k] z (fun A B=>∃ (l:ByteArray),A= .string l/\aC P A5b #[.string l,.string a] B (fun C D=>∃ (m:ByteArray) (o:Bool),C= .tuple #[.string m,.bool o]/\K (.tuple #[.agg #[.string j,.string m],I 0]) D)))))))))))
def Zp a b c(hvc:Wq prog a b c h K):aC prog By #[.agg #[.string a,.string b],I c] h K:=
 fnk func64 an0 [2,4] [] hvc
def B25(P:aE)(a:ByteArray)(h:aG)(K:VP):Prop:=
 K (.agg #[.string a,.string a]) h
def A7v a(hvc:B25 prog a h K):aC prog Lb #[.string a] h K:=
 fnk func69 an0 [2] [] hvc
def B5v(P:aE)(w x:ByteArray)(h:aG)(K:VP):Prop:=
 aC P Nk #[.string w] h (fun y z=>∃ (a:Bool) (b:OA) (c d:Nat) (e:Bool) (f:OA) (g i:Nat) (s:Bool),y= .tuple #[Qv a b c d e f g i,.bool s]/\aC P Nk #[.string x] z (fun A r=>∃ (j:Bool) (k:OA) (l m:Nat) (n:Bool) (o:OA) (p q:Nat) (t:Bool),A= .tuple #[Qv j k l m n o p q,.bool t]/\Br s (Br t (aC P Gg #[Qv a b c d e f g i,Qv j k l m n o p q] r (fun B u=>∃ v,B=I v/\r.le u/\K (.tuple #[.agg #[.bool a,Sl b c d,.bool e,Sl f g i,.bool j,Sl k l m,.bool n,Sl o p q],.bool (decide (v<=0))]) u))
 (K (.tuple #[.agg #[.bool a,Sl b c d,.bool e,Sl f g i,.bool j,Sl k l m,.bool n,Sl o p q],.bool false]) r))
 (K (.tuple #[.agg #[.bool a,Sl b c d,.bool e,Sl f g i,.bool j,Sl k l m,.bool n,Sl o p q],.bool false]) r)))
def B16 a b(hvc:B5v prog a b h K):aC prog Yf #[.agg #[.string a,.string b]] h K:=
 fnk func144 an0 [1,2,4,6] [] hvc
def B12(P:aE)(e:Bool)(f:OA)(g i:Nat)(j:Bool)(k:OA)(l m:Nat)(n:Bool)(o:OA)(p q:Nat)(r:Bool)(s:OA)(t u:Nat)(h:aG)(K:VP):Prop:=
 aC P Jh #[Qv e f g i j k l m] h (fun v a=>∃ (b:ByteArray),v= .string b/\h.le a/\aC P Jh #[Qv n o p q r s t u] a (fun w d=>∃ (c:ByteArray),w= .string c/\a.le d/\K (.agg #[.string b,.string c]) d))
def A79 a b c d e f g i j k l m n o p q(hvc:B12 prog a b c d e f g i j k l m n o p q h K):aC prog Rs #[.agg #[.bool a,Sl b c d,.bool e,Sl f g i,.bool j,Sl k l m,.bool n,Sl o p q]] h K:=
 fnk func74 { orders:=[(1,([0,1,3,4,2,5,6,7],[]))] } [1,2] [] hvc
def B5u(P:aE)(u:OA)(s f7:Nat)(h:aG)(K:VP):Prop:=
 ∃ a3,Ax u a3 (0:Int) s <| ∃ a4 a5 a6 a7 a8 a9 b0 b1,Lq h (a3.add (((0:Int)).toNat*4)) a4 a5 a6 a7 a8 a9 b0 b1 <| ∃ b2,Ax u b2 (0:Int) s <| ∃ b3 b4 b5 b6 b7 b8 b9 c0,Lq h (b2.add (((0:Int)).toNat*4)) b3 b4 b5 b6 b7 b8 b9 c0 <| ∃ (x:LP) (v:LN),x [I 1,.bool a4,.slice a5 a6 a7,.bool a8,.slice a9 b0 b1,.bool b3,.slice b4 b5 b6,.bool b7,.slice b8 b9 c0] h/\
 ∀ a k l m n o p q r b c d e f g i j t,x [I a,.bool k,.slice l m n,.bool o,.slice p q r,.bool b,.slice c d e,.bool f,.slice g i j] t->Bd (a<(s:Int)) (∃ c1,Ax u c1 a s <| ∃ c2 c3 c4 c5 c6 c7 c8 c9,Lq t (c1.add (a.toNat*4)) c2 c3 c4 c5 c6 c7 c8 c9<|aC P Gg #[Qv c2 c3 c4 c5 c6 c7 c8 c9,Qv k l m n o p q r] t (fun f4 w=>∃ d0,f4=I d0/\t.le w/\Bd (d0<0) (∃ d1,Ax u d1 a s <| ∃ A B C D E F G H,Lq w (d1.add (a.toNat*4)) A B C D E F G H <| ∃ d2,Ax u d2 a s <| ∃ d3 d4 d5 d6 d7 d8 d9 e0,Lq w (d2.add (a.toNat*4)) d3 d4 d5 d6 d7 d8 d9 e0<|aC P Gg #[Qv d3 d4 d5 d6 d7 d8 d9 e0,Qv b c d e f g i j] w (fun f5 y=>∃ e1,f5=I e1/\w.le y/\Bd (e1>0) (∃ e2,Ax u e2 a s <| ∃ J L M N O Q R S,Lq y (e2.add (a.toNat*4)) J L M N O Q R S<|x [I (B5 (a+1)),.bool A,.slice B C D,.bool E,.slice F G H,.bool J,.slice L M N,.bool O,.slice Q R S] y/\v [I (B5 (a+1)),.bool A,.slice B C D,.bool E,.slice F G H,.bool J,.slice L M N,.bool O,.slice Q R S] y<v [I a,.bool k,.slice l m n,.bool o,.slice p q r,.bool b,.slice c d e,.bool f,.slice g i j] t)
 (x [I (B5 (a+1)),.bool A,.slice B C D,.bool E,.slice F G H,.bool b,.slice c d e,.bool f,.slice g i j] y/\v [I (B5 (a+1)),.bool A,.slice B C D,.bool E,.slice F G H,.bool b,.slice c d e,.bool f,.slice g i j] y<v [I a,.bool k,.slice l m n,.bool o,.slice p q r,.bool b,.slice c d e,.bool f,.slice g i j] t)))
 (∃ e3,Ax u e3 a s <| ∃ e4 e5 e6 e7 e8 e9 f0 f1,Lq w (e3.add (a.toNat*4)) e4 e5 e6 e7 e8 e9 f0 f1<|aC P Gg #[Qv e4 e5 e6 e7 e8 e9 f0 f1,Qv b c d e f g i j] w (fun f6 z=>∃ f2,f6=I f2/\w.le z/\Bd (f2>0) (∃ f3,Ax u f3 a s <| ∃ T V W X Z a0 a1 a2,Lq z (f3.add (a.toNat*4)) T V W X Z a0 a1 a2<|x [I (B5 (a+1)),.bool k,.slice l m n,.bool o,.slice p q r,.bool T,.slice V W X,.bool Z,.slice a0 a1 a2] z/\v [I (B5 (a+1)),.bool k,.slice l m n,.bool o,.slice p q r,.bool T,.slice V W X,.bool Z,.slice a0 a1 a2] z<v [I a,.bool k,.slice l m n,.bool o,.slice p q r,.bool b,.slice c d e,.bool f,.slice g i j] t)
 (x [I (B5 (a+1)),.bool k,.slice l m n,.bool o,.slice p q r,.bool b,.slice c d e,.bool f,.slice g i j] z/\v [I (B5 (a+1)),.bool k,.slice l m n,.bool o,.slice p q r,.bool b,.slice c d e,.bool f,.slice g i j] z<v [I a,.bool k,.slice l m n,.bool o,.slice p q r,.bool b,.slice c d e,.bool f,.slice g i j] t)))))
 (K (.agg #[.bool k,Sl l m n,.bool o,Sl p q r,.bool b,Sl c d e,.bool f,Sl g i j]) t)
def B15 a b c(hvc:B5u prog a b c h K):aC prog Bu #[Sl a b c] h K:=
 fnk func224 { loops:=[(3,⟨[4],[(3,8)],[I 0,.bool false,N0,.bool false,N0,.bool false,N0,.bool false,N0],⟨([4]++Lrg 12 32),[3]⟩⟩)] } [2,3] [] hvc
def B5w(P:aE)(t:Bool)(u:OA)(v w:Nat)(x:Bool)(y:OA)(z A:Nat)(B:Bool)(C:OA)(D E:Nat)(F:Bool)(G:OA)(H J:Nat)(L:Bool)(M:OA)(N O:Nat)(Q:Bool)(R:OA)(S T:Nat)(V:Bool)(W:OA)(X Z:Nat)(a0:Bool)(a1:OA)(a2 a3:Nat)(h:aG)(K:VP):Prop:=
 aC P Rz #[Qv t u v w x y z A,Qv L M N O Q R S T] h (fun a4 a=>∃ c d e f g i j k,a4=Qv c d e f g i j k/\h.le a/\aC P Rz #[Qv B C D E F G H J,Qv V W X Z a0 a1 a2 a3] a (fun a5 b=>∃ l m n o p q r s,a5=Qv l m n o p q r s/\a.le b/\K (.agg #[.bool c,Sl d e f,.bool g,Sl i j k,.bool l,Sl m n o,.bool p,Sl q r s]) b))
def B19 a b c d e f g i j k l m n o p q r s t u v w x y z A B C D E F G(hvc:B5w prog a b c d e f g i j k l m n o p q r s t u v w x y z A B C D E F G h K):aC prog Yg #[.agg #[.bool a,Sl b c d,.bool e,Sl f g i,.bool j,Sl k l m,.bool n,Sl o p q],.agg #[.bool r,Sl s t u,.bool v,Sl w x y,.bool z,Sl A B C,.bool D,Sl E F G]] h K:=
 fnk func147 { orders:=[(1,([0,1,2,3,5,6,7,8,4,9,10,11],[]))] } [2,3,4] [] hvc
def B13(P:aE)(f:Bool)(g:OA)(i j:Nat)(k:Bool)(l:OA)(m n:Nat)(o:Bool)(p:OA)(q r:Nat)(s:Bool)(t:OA)(u v:Nat)(w:Bool)(x:OA)(y z:Nat)(A:Bool)(B:OA)(C D:Nat)(E:Bool)(F:OA)(G H:Nat)(J:Bool)(L:OA)(M N:Nat)(h:aG)(K:VP):Prop:=
 aC P Eh #[Qv f g i j k l m n,Qv w x y z A B C D] h (fun e3 a=>∃ a8 a9 b0 b1 b2 b3 b4 b5,e3=Qv a8 a9 b0 b1 b2 b3 b4 b5/\h.le a/\aC P Eh #[Qv f g i j k l m n,Qv E F G H J L M N] a (fun e4 b=>∃ b6 b7 b8 b9 c0 c1 c2 c3,e4=Qv b6 b7 b8 b9 c0 c1 c2 c3/\a.le b/\aC P Eh #[Qv o p q r s t u v,Qv w x y z A B C D] b (fun e5 c=>∃ c4 c5 c6 c7 c8 c9 d0 d1,e5=Qv c4 c5 c6 c7 c8 c9 d0 d1/\b.le c/\aC P Eh #[Qv o p q r s t u v,Qv E F G H J L M N] c (fun e6 d=>∃ d2 d3 d4 d5 d6 d7 d8 d9,e6=Qv d2 d3 d4 d5 d6 d7 d8 d9/\c.le d/\wpH P (aD 75 4 #[(0,Qv a8 a9 b0 b1 b2 b3 b4 b5),(1,Qv b6 b7 b8 b9 c0 c1 c2 c3),(2,Qv c4 c5 c6 c7 c8 c9 d0 d1),(3,Qv d2 d3 d4 d5 d6 d7 d8 d9)]) (fun e7 e=>∃ e0 e1 e2,e7=Sl e0 e1 e2/\d.le e/\aC P Bu #[Sl e0 e1 e2] e (fun e8 a7=>∃ (O:Bool) (Q:OA) (R S:Nat) (T:Bool) (V:OA) (W X:Nat) (Z:Bool) (a0:OA) (a1 a2:Nat) (a3:Bool) (a4:OA) (a5 a6:Nat),e8= .agg #[.bool O,Sl Q R S,.bool T,Sl V W X,.bool Z,Sl a0 a1 a2,.bool a3,Sl a4 a5 a6]/\e.le a7/\K (.agg #[.bool O,Sl Q R S,.bool T,Sl V W X,.bool Z,Sl a0 a1 a2,.bool a3,Sl a4 a5 a6]) a7)) d))))
def A7a a b c d e f g i j k l m n o p q r s t u v w x y z A B C D E F G(hvc:B13 prog a b c d e f g i j k l m n o p q r s t u v w x y z A B C D E F G h K):aC prog Rt #[.agg #[.bool a,Sl b c d,.bool e,Sl f g i,.bool j,Sl k l m,.bool n,Sl o p q],.agg #[.bool r,Sl s t u,.bool v,Sl w x y,.bool z,Sl A B C,.bool D,Sl E F G]] h K:=
 fnk func145 { orders:=[(1,([0,1,2,3,5,6,7,8,10,11,12,13,15,16,17,18,4,9,14,19,20,21,22],[]))] } [2,3,4] [] hvc
def C06(P:aE)(m:Bool)(n:OA)(o p:Nat)(q:Bool)(r:OA)(s t:Nat)(u:Bool)(v:OA)(w x:Nat)(y:Bool)(z:OA)(A B:Nat)(a:Bool)(b:OA)(c d:Nat)(e:Bool)(f:OA)(g i:Nat)(h:aG)(K:VP):Prop:=
 aC P Gg #[Qv m n o p q r s t,Qv a b c d e f g i] h (fun C j=>∃ k,C=I k/\Bd (k<=0) (aC P Gg #[Qv a b c d e f g i,Qv u v w x y z A B] j (fun D E=>∃ l,D=I l/\K (.bool (decide (l<=0))) E))
 (K (.bool false) j))
def B4f a b c d e f g i j k l m n o p q r s t u v w x y(hvc:C06 prog a b c d e f g i j k l m n o p q r s t u v w x y h K):aC prog Yh #[.agg #[.bool a,Sl b c d,.bool e,Sl f g i,.bool j,Sl k l m,.bool n,Sl o p q],Qv r s t u v w x y] h K:=
 fnk func79 an0 [2,3] [] hvc
def B18(P:aE)(u:Bool)(v:OA)(w x:Nat)(y:Bool)(z:OA)(A B:Nat)(C:Bool)(D:OA)(E F:Nat)(G:Bool)(H:OA)(J L:Nat)(r:Int)(h:aG)(K:VP):Prop:=
 aC P Ef #[Qv u v w x y z A B,I r] h (fun g7 t=>∃ a b c d e f g i,g7=Qv a b c d e f g i/\h.le t/\aC P Ef #[Qv C D E F G H J L,I r] t (fun g8 s=>∃ j k l m n o p q,g8=Qv j k l m n o p q/\t.le s/\Bd (r>0) (Br ((Int.tmod r (2:Int))==0) (aC P Yh #[.agg #[.bool u,Sl v w x,.bool y,Sl z A B,.bool C,Sl D E F,.bool G,Sl H J L],Qv false none 0 0 false none 0 0] s (fun g9 f4=>∃ (M:Bool),g9= .bool M/\Br M (wpH P (aD 75 3 #[(0,Qv false none 0 0 false none 0 0),(1,Qv a b c d e f g i),(2,Qv j k l m n o p q)]) (fun h0 h1=>∃ f5 f6 f7,h0=Sl f5 f6 f7/\aC P Bu #[Sl f5 f6 f7] h1 (fun h2 h3=>∃ (N:Bool) (O:OA) (Q R:Nat) (S:Bool) (T:OA) (V W:Nat) (X:Bool) (Z:OA) (a0 a1:Nat) (a2:Bool) (a3:OA) (a4 a5:Nat),h2= .agg #[.bool N,Sl O Q R,.bool S,Sl T V W,.bool X,Sl Z a0 a1,.bool a2,Sl a3 a4 a5]/\K (.agg #[.bool N,Sl O Q R,.bool S,Sl T V W,.bool X,Sl Z a0 a1,.bool a2,Sl a3 a4 a5]) h3)) f4)
 (wpH P (aD 75 2 #[(0,Qv a b c d e f g i),(1,Qv j k l m n o p q)]) (fun h4 h5=>∃ f8 f9 g0,h4=Sl f8 f9 g0/\aC P Bu #[Sl f8 f9 g0] h5 (fun h6 h7=>∃ (a6:Bool) (a7:OA) (a8 a9:Nat) (b0:Bool) (b1:OA) (b2 b3:Nat) (b4:Bool) (b5:OA) (b6 b7:Nat) (b8:Bool) (b9:OA) (c0 c1:Nat),h6= .agg #[.bool a6,Sl a7 a8 a9,.bool b0,Sl b1 b2 b3,.bool b4,Sl b5 b6 b7,.bool b8,Sl b9 c0 c1]/\K (.agg #[.bool a6,Sl a7 a8 a9,.bool b0,Sl b1 b2 b3,.bool b4,Sl b5 b6 b7,.bool b8,Sl b9 c0 c1]) h7)) f4)))
 (wpH P (aD 75 2 #[(0,Qv a b c d e f g i),(1,Qv j k l m n o p q)]) (fun h8 h9=>∃ g1 g2 g3,h8=Sl g1 g2 g3/\aC P Bu #[Sl g1 g2 g3] h9 (fun i0 i1=>∃ (c2:Bool) (c3:OA) (c4 c5:Nat) (c6:Bool) (c7:OA) (c8 c9:Nat) (d0:Bool) (d1:OA) (d2 d3:Nat) (d4:Bool) (d5:OA) (d6 d7:Nat),i0= .agg #[.bool c2,Sl c3 c4 c5,.bool c6,Sl c7 c8 c9,.bool d0,Sl d1 d2 d3,.bool d4,Sl d5 d6 d7]/\K (.agg #[.bool c2,Sl c3 c4 c5,.bool c6,Sl c7 c8 c9,.bool d0,Sl d1 d2 d3,.bool d4,Sl d5 d6 d7]) i1)) s))
 (wpH P (aD 75 2 #[(0,Qv a b c d e f g i),(1,Qv j k l m n o p q)]) (fun i2 i3=>∃ g4 g5 g6,i2=Sl g4 g5 g6/\aC P Bu #[Sl g4 g5 g6] i3 (fun i4 i5=>∃ (d8:Bool) (d9:OA) (e0 e1:Nat) (e2:Bool) (e3:OA) (e4 e5:Nat) (e6:Bool) (e7:OA) (e8 e9:Nat) (f0:Bool) (f1:OA) (f2 f3:Nat),i4= .agg #[.bool d8,Sl d9 e0 e1,.bool e2,Sl e3 e4 e5,.bool e6,Sl e7 e8 e9,.bool f0,Sl f1 f2 f3]/\K (.agg #[.bool d8,Sl d9 e0 e1,.bool e2,Sl e3 e4 e5,.bool e6,Sl e7 e8 e9,.bool f0,Sl f1 f2 f3]) i5)) s)))
def A7d a b c d e f g i j k l m n o p q r(hvc:B18 prog a b c d e f g i j k l m n o p q r h K):aC prog Rv #[.agg #[.bool a,Sl b c d,.bool e,Sl f g i,.bool j,Sl k l m,.bool n,Sl o p q],I r] h K:=
 fnk func146 { orders:=[(1,([0,1,2,4,5,6,8,9,3,7,10,11],[]))] } [2,4,5,6] [] hvc
def A2b(P:aE)(a8:Bool)(a9:OA)(b0 b1:Nat)(b2:Bool)(b3:OA)(b4 b5:Nat)(b6:Int)(h:aG)(K:VP):Prop:=
 aC P C22 #[I 1] h (fun b7 b8=>∃ a0 a1 a2 a3 a4 a5 a6 a7,b7=Qv a0 a1 a2 a3 a4 a5 a6 a7/\∃ (t:LP) (u:LN),t [I b6,.bool a8,.slice a9 b0 b1,.bool b2,.slice b3 b4 b5,.bool a0,.slice a1 a2 a3,.bool a4,.slice a5 a6 a7] b8/\
 ∀ a b c d e f g i j k l m n o p q r s,t [I a,.bool b,.slice c d e,.bool f,.slice g i j,.bool k,.slice l m n,.bool o,.slice p q r] s->Bd (a>0) (Br ((Int.tmod a (2:Int))==1) (aC P Eh #[Qv k l m n o p q r,Qv b c d e f g i j] s (fun b9 c0=>∃ v w x y z A B C,b9=Qv v w x y z A B C/\aC P Eh #[Qv b c d e f g i j,Qv b c d e f g i j] c0 (fun c1 X=>∃ D E F G H J L M,c1=Qv D E F G H J L M/\t [I (B5 (aH a (2:Int))),.bool D,.slice E F G,.bool H,.slice J L M,.bool v,.slice w x y,.bool z,.slice A B C] X/\u [I (B5 (aH a (2:Int))),.bool D,.slice E F G,.bool H,.slice J L M,.bool v,.slice w x y,.bool z,.slice A B C] X<u [I a,.bool b,.slice c d e,.bool f,.slice g i j,.bool k,.slice l m n,.bool o,.slice p q r] s)))
 (aC P Eh #[Qv b c d e f g i j,Qv b c d e f g i j] s (fun c2 Z=>∃ N O Q R S T V W,c2=Qv N O Q R S T V W/\t [I (B5 (aH a (2:Int))),.bool N,.slice O Q R,.bool S,.slice T V W,.bool k,.slice l m n,.bool o,.slice p q r] Z/\u [I (B5 (aH a (2:Int))),.bool N,.slice O Q R,.bool S,.slice T V W,.bool k,.slice l m n,.bool o,.slice p q r] Z<u [I a,.bool b,.slice c d e,.bool f,.slice g i j,.bool k,.slice l m n,.bool o,.slice p q r] s)))
 (K (Qv k l m n o p q r) s))
def A2a a b c d e f g i j(hvc:A2b prog a b c d e f g i j h K):aC prog Ef #[Qv a b c d e f g i,I j] h K:=
 fnk func225 { loops:=[(2,⟨[1],[(2,4),(5,4)],[I 0,.bool false,N0,.bool false,N0,.bool false,N0,.bool false,N0],⟨([1]++Lrg 7 13),[2,5]⟩⟩)] } [2,4,5] [] hvc
def B20(P:aE)(i:Int)(j:OA)(d k:Nat)(h:aG)(K:VP):Prop:=
 ∃ (c:LP) (e:LN),c [I 0] h/\
 ∀ a b,c [I a] b->Bd (a<(d:Int)) (∃ g,Ax j g a d <| ∃ (f:ByteArray),b.cell? (g.add (a.toNat*1))=some (.string f)/\Bd (((ByteArray.size f:Nat):Int)>i) (K (.bool false) b)
 (c [I (B5 (a+1))] b/\e [I (B5 (a+1))] b<e [I a] b))
 (K (.bool true) b)
def A7s a b c d(hvc:B20 prog a b c d h K):aC prog Sd #[I a,Sl b c d] h K:=
 fnk func31 { loops:=[(2,⟨[5],[],[I 0],⟨(Lrg 4 15),[]⟩⟩)] } [] [] hvc
def B68(P:aE) (h:aG)(K:VP):Prop:=
 aC P Yp #[.agg #[.string ({ data:=#[45,49] }:ByteArray),.string ({ data:=#[50] }:ByteArray)],.agg #[.string ({ data:=#[45,49] }:ByteArray),.string ({ data:=#[50] }:ByteArray)]] h (fun l m=>∃ (b c:ByteArray) (d:Int),l= .tuple #[.agg #[.string b,.string c],I d]/\aC P Yo #[.agg #[.string ({ data:=#[45,49] }:ByteArray),.string ({ data:=#[50] }:ByteArray)],I 2] m (fun n o=>∃ (e f:ByteArray) (g:Int),n= .tuple #[.agg #[.string e,.string f],I g]/\aC P By #[.agg #[.string ({ data:=#[49,47,51] }:ByteArray),.string ({ data:=#[49,47,51] }:ByteArray)],I 2] o (fun p a=>∃ (i j:ByteArray) (k:Int),p= .tuple #[.agg #[.string i,.string j],I k]/\Br (d==0) (Br (g==0) (Br (k==0) (Br ((b.toList==aF ({ data:=#[45,50] }:ByteArray))&&((c.toList==aF ({ data:=#[52] }:ByteArray))&&true)) (Br ((e.toList==aF ({ data:=#[48] }:ByteArray))&&((f.toList==aF ({ data:=#[52] }:ByteArray))&&true)) (K (.bool ((i.toList==aF ({ data:=#[49,47,52] }:ByteArray))&&((j.toList==aF ({ data:=#[49,47,50] }:ByteArray))&&true))) a)
 (K (.bool false) a))
 (K (.bool false) a))
 (K (.bool false) a))
 (K (.bool false) a))
 (K (.bool false) a))))
def B1z (hvc:B68 prog  h K):aC prog V6 #[] h K:=
 fnk func13 an0 [1,2,4,6] [] hvc
def B67(P:aE)(g:OA)(d t:Nat)(h:aG)(K:VP):Prop:=
 ∃ (e:LP) (i:LN),e [I 0] h/\
 ∀ a b,e [I a] b->Bd (a<(d:Int)) (∃ m,Ax g m a d <| ∃ (j:ByteArray),b.cell? (Addr.add (m.add (a.toNat*2)) 0)=some (.string j)/\∃ n,Ax g n a d <| ∃ (k:ByteArray),b.cell? (Addr.add (n.add (a.toNat*2)) 1)=some (.string k)/\wpH P (aD 38 2 #[(0,.string j),(1,.string k)]) (fun r f=>∃ o p q,r=Sl o p q/\b.le f/\aC P Sd #[I 20,Sl o p q] f (fun s c=>∃ (l:Bool),s= .bool l/\f.le c/\Br (!l) (K (.bool false) c)
 (e [I (B5 (a+1))] c/\i [I (B5 (a+1))] c<i [I a] b))) b)
 (K (.bool true) b)
def B1y a b c(hvc:B67 prog a b c h K):aC prog Yn #[Sl a b c] h K:=
 fnk func12 { loops:=[(2,⟨[3],[],[I 0],⟨(Lrg 2 21),[]⟩⟩)] } [] [] hvc
