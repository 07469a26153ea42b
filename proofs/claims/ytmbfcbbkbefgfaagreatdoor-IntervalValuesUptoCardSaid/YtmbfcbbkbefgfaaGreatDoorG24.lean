/- A part. -/
import Derived.Test.YtmbfcbbkbefgfaaGreatDoorG09
import Derived.Test.YtmbfcbbkbefgfaaGreatDoorG20
open Go.Proofs.Tryz
set_option linter.all false
open _root_.ByteArray renaming toList->aF
open _root_.Go.Instr renaming buildSlice->aD
open _root_.Go renaming Program->aE
open _root_.Go.Proofs.YtmbfcbbkbefgfaaGreatDoor renaming FCall->aC,Heap->aG
namespace Go.Proofs.YtmbfcbbkbefgfaaGreatDoor
open Go
set_option maxRecDepth 100000
variable {h:aG} {K:VP}
abbrev Cx:Nat:=113
abbrev R7:Nat:=114
abbrev V9:Nat:=141
abbrev Q4:Nat:=112
abbrev R8:Nat:=39
abbrev Xi:Nat:=71
abbrev Ph:Nat:=70
abbrev Pg:Nat:=68
abbrev Xh:Nat:=62
abbrev Xg:Nat:=63
abbrev Cw:Nat:=135
abbrev Bo:Nat:=64
abbrev Kh:Nat:=69
abbrev B9d:Nat:=144
abbrev B7z:Nat:=74
abbrev B9c:Nat:=224
abbrev B9e:Nat:=147
abbrev B80:Nat:=145
abbrev C0m:Nat:=79
abbrev B83:Nat:=146
abbrev B5c:Nat:=225
abbrev Rb:Nat:=31
abbrev C12:Nat:=40
abbrev O8:Nat:=13
abbrev Xd:Nat:=12
abbrev Mi:Nat:=107
abbrev Xe:Nat:=37
abbrev A6h:Nat:=25
abbrev P9:Nat:=30
def B9a:SliceT prog A6h P9 (.agg #[.string ({ data:=#[] }:ByteArray),.string ({ data:=#[] }:ByteArray)]) 2 32:=⟨by kernel_rfl,by kernel_rfl,rfl,by decide⟩
def B12:prog.cellsOf P9=2/\(prog.info? P9).isSome=true:=⟨by kernel_rfl,by kernel_rfl⟩
def B0a(P:aE)(l:ByteArray)(m:OA)(i o:Nat)(h:aG)(K:VP):Prop:=
 ∃ (d:LP) (e:LN),d [.string l,I 0] h/\
 ∀ b a c,d [.string b,I a] c->Bd (a<(i:Int)) (∃ j,Ax m j a i <| ∃ (f:ByteArray),c.cell? (j.add (a.toNat*1))=some (.string f)/\aC P L6 #[.string f,.string b] c (fun n g=>∃ k,n=I k/\Bd (k<0) (d [.string f,I (B4 (a+1))] g/\e [.string f,I (B4 (a+1))] g<e [.string b,I a] c)
 (d [.string b,I (B4 (a+1))] g/\e [.string b,I (B4 (a+1))] g<e [.string b,I a] c)))
 (K (.string b) c)
def A5z a b c d(hvc:B0a prog a b c d h K):aC prog Cx #[.string a,Sl b c d] h K:=
 fnk func113 { loops:=[(2,⟨[0,9],[],[.string ⟨#[]⟩,I 0],⟨([0,6]++Lrg 9 10),[]⟩⟩)] } [] [] hvc
def Vg(P:aE)(l:ByteArray)(m:OA)(i o:Nat)(h:aG)(K:VP):Prop:=
 ∃ (d:LP) (e:LN),d [.string l,I 0] h/\
 ∀ b a c,d [.string b,I a] c->Bd (a<(i:Int)) (∃ j,Ax m j a i <| ∃ (f:ByteArray),c.cell? (j.add (a.toNat*1))=some (.string f)/\aC P L6 #[.string f,.string b] c (fun n g=>∃ k,n=I k/\Bd (k>0) (d [.string f,I (B4 (a+1))] g/\e [.string f,I (B4 (a+1))] g<e [.string b,I a] c)
 (d [.string b,I (B4 (a+1))] g/\e [.string b,I (B4 (a+1))] g<e [.string b,I a] c)))
 (K (.string b) c)
def Yf a b c d(hvc:Vg prog a b c d h K):aC prog R7 #[.string a,Sl b c d] h K:=
 fnk func114 { loops:=[(2,⟨[0,9],[],[.string ⟨#[]⟩,I 0],⟨([0,6]++Lrg 9 10),[]⟩⟩)] } [] [] hvc
def B47(P:aE)(a:ByteArray)(b:OA)(c d:Nat)(h:aG)(K:VP):Prop:=
 aC P Cx #[.string a,Sl b c d] h (fun g i=>∃ (e:ByteArray),g= .string e/\aC P R7 #[.string a,Sl b c d] i (fun j k=>∃ (f:ByteArray),j= .string f/\K (.agg #[.string e,.string f]) k))
def B06 a b c d(hvc:B47 prog a b c d h K):aC prog V9 #[.string a,Sl b c d] h K:=
 fnk func141 an0 [4] [] hvc
def B04(P:aE)(a b:ByteArray)(h:aG)(K:VP):Prop:=
 aC P Dy #[.string a] h (fun i e=>∃ (c:Bool),i= .bool c/\Br c (aC P Dy #[.string b] e (fun j f=>∃ (d:Bool),j= .bool d/\Br d (aC P L6 #[.string a,.string b] f (fun k l=>∃ g,k=I g/\K (.bool (decide (g<=0))) l))
 (K (.bool false) f)))
 (K (.bool false) e))
def A5w a b(hvc:B04 prog a b h K):aC prog Q4 #[.agg #[.string a,.string b]] h K:=
 fnk func112 an0 [1] [] hvc
def Vi(P:aE)(b c a:ByteArray)(h:aG)(K:VP):Prop:=
 aC P Q4 #[.agg #[.string b,.string c]] h (fun l f=>∃ (d:Bool),l= .bool d/\Br d (aC P Dy #[.string a] f (fun m g=>∃ (e:Bool),m= .bool e/\Br e (aC P L6 #[.string b,.string a] g (fun n i=>∃ j,n=I j/\Bd (j<=0) (aC P L6 #[.string a,.string c] i (fun o p=>∃ k,o=I k/\K (.bool (decide (k<=0))) p))
 (K (.bool false) i)))
 (K (.bool false) g)))
 (K (.bool false) f))
def Yh a b c(hvc:Vi prog a b c h K):aC prog R8 #[.agg #[.string a,.string b],.string c] h K:=
 fnk func39 an0 [2] [] hvc
def B4b(P:aE)(e f:ByteArray)(g i:ByteArray)(h:aG)(K:VP):Prop:=
 aC P A05 #[.string e,.string g] h (fun j a=>∃ (b:ByteArray),j= .string b/\h.le a/\aC P A05 #[.string f,.string i] a (fun k d=>∃ (c:ByteArray),k= .string c/\a.le d/\K (.agg #[.string b,.string c]) d))
def B0d a b c d(hvc:B4b prog a b c d h K):aC prog Xi #[.agg #[.string a,.string b],.agg #[.string c,.string d]] h K:=
 fnk func71 { orders:=[(1,([0,1,2,3,5,6,7,8,4,9,10,11],[]))] } [2,3,4] [] hvc
def B49(P:aE)(f g:ByteArray)(i j:ByteArray)(h:aG)(K:VP):Prop:=
 aC P Kf #[.string f,.string i] h (fun u a=>∃ (k:ByteArray),u= .string k/\h.le a/\aC P Kf #[.string f,.string j] a (fun v b=>∃ (l:ByteArray),v= .string l/\a.le b/\aC P Kf #[.string g,.string i] b (fun w c=>∃ (m:ByteArray),w= .string m/\b.le c/\aC P Kf #[.string g,.string j] c (fun x d=>∃ (n:ByteArray),x= .string n/\c.le d/\wpH P (aD 38 3 #[(0,.string l),(1,.string m),(2,.string n)]) (fun y e=>∃ r s t,y=Sl r s t/\d.le e/\aC P V9 #[.string k,Sl r s t] e (fun z q=>∃ (o p:ByteArray),z= .agg #[.string o,.string p]/\e.le q/\K (.agg #[.string o,.string p]) q)) d))))
def B09 a b c d(hvc:B49 prog a b c d h K):aC prog Ph #[.agg #[.string a,.string b],.agg #[.string c,.string d]] h K:=
 fnk func70 { orders:=[(1,([0,1,2,3,5,6,7,8,10,11,12,13,15,16,17,18,4,9,14,19,20,21,22],[]))] } [2,3,4] [] hvc
def B48(P:aE)(e f:ByteArray)(c:Int)(h:aG)(K:VP):Prop:=
 aC P A04 #[.string e,I c] h (fun O Q=>∃ (a:ByteArray) (M:Bool),O= .tuple #[.string a,.bool M]/\aC P A04 #[.string f,I c] Q (fun R d=>∃ (b:ByteArray) (N:Bool),R= .tuple #[.string b,.bool N]/\Bd (c>0) (Br ((Int.tmod c (2:Int))==0) (aC P Wz #[.string e] d (fun S r=>∃ t,S=I t/\Bd (t<0) (aC P Wz #[.string f] r (fun T s=>∃ u,T=I u/\Bd (u>0) (wpH P (aD 38 2 #[(0,.string a),(1,.string b)]) (fun V W=>∃ v w x,V=Sl v w x/\aC P V9 #[.string ({ data:=#[48] }:ByteArray),.slice v w x] W (fun X Z=>∃ (g i:ByteArray),X= .agg #[.string g,.string i]/\K (.agg #[.string g,.string i]) Z)) s)
 (wpH P (aD 38 1 #[(0,.string b)]) (fun a0 a1=>∃ y z A,a0=Sl y z A/\aC P V9 #[.string a,Sl y z A] a1 (fun a2 a3=>∃ (j k:ByteArray),a2= .agg #[.string j,.string k]/\K (.agg #[.string j,.string k]) a3)) s)))
 (wpH P (aD 38 1 #[(0,.string b)]) (fun a4 a5=>∃ B C D,a4=Sl B C D/\aC P V9 #[.string a,Sl B C D] a5 (fun a6 a7=>∃ (l m:ByteArray),a6= .agg #[.string l,.string m]/\K (.agg #[.string l,.string m]) a7)) r)))
 (wpH P (aD 38 1 #[(0,.string b)]) (fun a8 a9=>∃ E F G,a8=Sl E F G/\aC P V9 #[.string a,Sl E F G] a9 (fun b0 b1=>∃ (n o:ByteArray),b0= .agg #[.string n,.string o]/\K (.agg #[.string n,.string o]) b1)) d))
 (wpH P (aD 38 1 #[(0,.string b)]) (fun b2 b3=>∃ H J L,b2=Sl H J L/\aC P V9 #[.string a,Sl H J L] b3 (fun b4 b5=>∃ (p q:ByteArray),b4= .agg #[.string p,.string q]/\K (.agg #[.string p,.string q]) b5)) d)))
def B07 a b c(hvc:B48 prog a b c h K):aC prog Pg #[.agg #[.string a,.string b],I c] h K:=
 fnk func68 an0 [2,4] [] hvc
def B95(P:aE)(a b:ByteArray)(c d:ByteArray)(h:aG)(K:VP):Prop:=
 aC P Q4 #[.agg #[.string a,.string b]] h (fun l j=>∃ (e:Bool),l= .bool e/\Br (!e) (K (.tuple #[.agg #[.string ({ data:=#[] }:ByteArray),.string ({ data:=#[] }:ByteArray)],I 1]) j)
 (aC P Q4 #[.agg #[.string c,.string d]] j (fun m k=>∃ (f:Bool),m= .bool f/\Br (!f) (K (.tuple #[.agg #[.string ({ data:=#[] }:ByteArray),.string ({ data:=#[] }:ByteArray)],I 1]) k)
 (aC P Ph #[.agg #[.string a,.string b],.agg #[.string c,.string d]] k (fun n o=>∃ (g i:ByteArray),n= .agg #[.string g,.string i]/\K (.tuple #[.agg #[.string g,.string i],I 0]) o)))))
def B2u a b c d(hvc:B95 prog a b c d h K):aC prog Xh #[.agg #[.string a,.string b],.agg #[.string c,.string d]] h K:=
 fnk func62 an0 [2,3,4] [] hvc
def B94(P:aE)(c d:ByteArray)(b:Int)(h:aG)(K:VP):Prop:=
 aC P Q4 #[.agg #[.string c,.string d]] h (fun i a=>∃ (e:Bool),i= .bool e/\Br (!e) (K (.tuple #[.agg #[.string ({ data:=#[] }:ByteArray),.string ({ data:=#[] }:ByteArray)],I 1]) a)
 (Bd (b<0) (K (.tuple #[.agg #[.string ({ data:=#[] }:ByteArray),.string ({ data:=#[] }:ByteArray)],I 3]) a)
 (Bd (b>24) (K (.tuple #[.agg #[.string ({ data:=#[] }:ByteArray),.string ({ data:=#[] }:ByteArray)],I 3]) a)
 (aC P Pg #[.agg #[.string c,.string d],I b] a (fun j k=>∃ (f g:ByteArray),j= .agg #[.string f,.string g]/\K (.tuple #[.agg #[.string f,.string g],I 0]) k)))))
def B2t a b c(hvc:B94 prog a b c h K):aC prog Xg #[.agg #[.string a,.string b],I c] h K:=
 fnk func63 an0 [2,4] [] hvc
def A4f(P:aE)(a:Int)(h:aG)(K:VP):Prop:=
 Bd (a<=1000) (aC P A04 #[.string ({ data:=#[50] }:ByteArray),I a] h (fun g i=>∃ (b:ByteArray) (f:Bool),g= .tuple #[.string b,.bool f]/\K (.string b) i))
 (aC P Cw #[I (B4 (Int.tdiv a (2:Int)))] h (fun j k=>∃ (c:ByteArray),j= .string c/\aC P Cw #[I (B4 (a-(B4 (Int.tdiv a (2:Int)))))] k (fun l m=>∃ (d:ByteArray),l= .string d/\aC P Kf #[.string c,.string d] m (fun n o=>∃ (e:ByteArray),n= .string e/\K (.string e) o))))
def A33 a(hvc:A4f prog a h K):aC prog Cw #[I a] h K:=
 fnk func135 an0 [] [] hvc
def Vf(P:aE)(d e:ByteArray)(c:Int)(h:aG)(K:VP):Prop:=
 aC P Q4 #[.agg #[.string d,.string e]] h (fun p b=>∃ (f:Bool),p= .bool f/\Br (!f) (K (.tuple #[.agg #[.string ({ data:=#[] }:ByteArray),.string ({ data:=#[] }:ByteArray)],I 1]) b)
 (Bd (c<0) (K (.tuple #[.agg #[.string ({ data:=#[] }:ByteArray),.string ({ data:=#[] }:ByteArray)],I 3]) b)
 (Bd (c>4096) (K (.tuple #[.agg #[.string ({ data:=#[] }:ByteArray),.string ({ data:=#[] }:ByteArray)],I 3]) b)
 (aC P Cw #[I c] b (fun q r=>∃ (a:ByteArray),q= .string a/\aC P Kf #[.string d,.string a] r (fun s t=>∃ (g:ByteArray),s= .string g/\aC P Xa #[.string g] t (fun u v=>∃ (i:ByteArray),u= .string i/\aC P A3r #[.string i,.string a] v (fun w x=>∃ (j:ByteArray) (n:Bool),w= .tuple #[.string j,.bool n]/\aC P Kf #[.string e,.string a] x (fun y z=>∃ (k:ByteArray),y= .string k/\aC P A2d #[.string k] z (fun A B=>∃ (l:ByteArray),A= .string l/\aC P A3r #[.string l,.string a] B (fun C D=>∃ (m:ByteArray) (o:Bool),C= .tuple #[.string m,.bool o]/\K (.tuple #[.agg #[.string j,.string m],I 0]) D)))))))))))
def Ye a b c(hvc:Vf prog a b c h K):aC prog Bo #[.agg #[.string a,.string b],I c] h K:=
 fnk func64 an0 [2,4] [] hvc
def B08(P:aE)(a:ByteArray)(h:aG)(K:VP):Prop:=
 K (.agg #[.string a,.string a]) h
def A5y a(hvc:B08 prog a h K):aC prog Kh #[.string a] h K:=
 fnk func69 an0 [2] [] hvc
def B02(P:aE)(i:Int)(j:OA)(d k:Nat)(h:aG)(K:VP):Prop:=
 ∃ (c:LP) (e:LN),c [I 0] h/\
 ∀ a b,c [I a] b->Bd (a<(d:Int)) (∃ g,Ax j g a d <| ∃ (f:ByteArray),b.cell? (g.add (a.toNat*1))=some (.string f)/\Bd (((ByteArray.size f:Nat):Int)>i) (K (.bool false) b)
 (c [I (B4 (a+1))] b/\e [I (B4 (a+1))] b<e [I a] b))
 (K (.bool true) b)
def A5v a b c d(hvc:B02 prog a b c d h K):aC prog Rb #[I a,Sl b c d] h K:=
 fnk func31 { loops:=[(2,⟨[5],[],[I 0],⟨(Lrg 4 15),[]⟩⟩)] } [] [] hvc
def B45(P:aE) (h:aG)(K:VP):Prop:=
 aC P Xh #[.agg #[.string ({ data:=#[45,49] }:ByteArray),.string ({ data:=#[50] }:ByteArray)],.agg #[.string ({ data:=#[45,49] }:ByteArray),.string ({ data:=#[50] }:ByteArray)]] h (fun l m=>∃ (b c:ByteArray) (d:Int),l= .tuple #[.agg #[.string b,.string c],I d]/\aC P Xg #[.agg #[.string ({ data:=#[45,49] }:ByteArray),.string ({ data:=#[50] }:ByteArray)],I 2] m (fun n o=>∃ (e f:ByteArray) (g:Int),n= .tuple #[.agg #[.string e,.string f],I g]/\aC P Bo #[.agg #[.string ({ data:=#[49,47,51] }:ByteArray),.string ({ data:=#[49,47,51] }:ByteArray)],I 2] o (fun p a=>∃ (i j:ByteArray) (k:Int),p= .tuple #[.agg #[.string i,.string j],I k]/\Br (d==0) (Br (g==0) (Br (k==0) (Br ((b.toList==aF ({ data:=#[45,50] }:ByteArray))&&((c.toList==aF ({ data:=#[52] }:ByteArray))&&true)) (Br ((e.toList==aF ({ data:=#[48] }:ByteArray))&&((f.toList==aF ({ data:=#[52] }:ByteArray))&&true)) (K (.bool ((i.toList==aF ({ data:=#[49,47,52] }:ByteArray))&&((j.toList==aF ({ data:=#[49,47,50] }:ByteArray))&&true))) a)
 (K (.bool false) a))
 (K (.bool false) a))
 (K (.bool false) a))
 (K (.bool false) a))
 (K (.bool false) a))))
def B01 (hvc:B45 prog  h K):aC prog O8 #[] h K:=
 fnk func13 an0 [1,2,4,6] [] hvc
def B44(P:aE)(g:OA)(d t:Nat)(h:aG)(K:VP):Prop:=
 ∃ (e:LP) (i:LN),e [I 0] h/\
 ∀ a b,e [I a] b->Bd (a<(d:Int)) (∃ m,Ax g m a d <| ∃ (j:ByteArray),b.cell? (Addr.add (m.add (a.toNat*2)) 0)=some (.string j)/\∃ n,Ax g n a d <| ∃ (k:ByteArray),b.cell? (Addr.add (n.add (a.toNat*2)) 1)=some (.string k)/\wpH P (aD 38 2 #[(0,.string j),(1,.string k)]) (fun r f=>∃ o p q,r=Sl o p q/\b.le f/\aC P Rb #[I 20,Sl o p q] f (fun s c=>∃ (l:Bool),s= .bool l/\f.le c/\Br (!l) (K (.bool false) c)
 (e [I (B4 (a+1))] c/\i [I (B4 (a+1))] c<i [I a] b))) b)
 (K (.bool true) b)
def B00 a b c(hvc:B44 prog a b c h K):aC prog Xd #[Sl a b c] h K:=
 fnk func12 { loops:=[(2,⟨[3],[],[I 0],⟨(Lrg 2 21),[]⟩⟩)] } [] [] hvc
def A4e(P:aE)(a b:ByteArray)(h:aG)(K:VP):Prop:=
 aC P L6 #[.string a,.string b] h (fun e c=>∃ d,e=I d/\Bd (d>0) (K (.agg #[.string b,.string a]) c)
 (K (.agg #[.string a,.string b]) c))
def A32 a b(hvc:A4e prog a b h K):aC prog Mi #[.agg #[.string a,.string b]] h K:=
 fnk func107 an0 [1,2] [] hvc
def B92(P:aE)(b c i:ByteArray)(h:aG)(K:VP):Prop:=
 aC P A05 #[.string i,.string ({ data:=#[48] }:ByteArray)] h (fun j k=>∃ (a:ByteArray),j= .string a/\aC P L6 #[.string a,.string b] k (fun l d=>∃ f,l=I f/\Bd (f<0) (K (.string b) d)
 (aC P L6 #[.string a,.string c] d (fun m e=>∃ g,m=I g/\Bd (g>0) (K (.string c) e)
 (K (.string a) e)))))
def B2r a b c(hvc:B92 prog a b c h K):aC prog Xe #[.agg #[.string a,.string b],.string c] h K:=
 fnk func37 an0 [2] [] hvc
