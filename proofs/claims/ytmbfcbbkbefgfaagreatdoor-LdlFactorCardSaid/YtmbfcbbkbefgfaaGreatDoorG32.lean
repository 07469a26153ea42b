/- A part. -/
import Derived.Test.YtmbfcbbkbefgfaaGreatDoorG30
open Go.Proofs.Tryz
set_option linter.all false
open _root_.Go.Proofs.YtmbfcbbkbefgfaaGreatDoor renaming FCall->aC
namespace Go.Proofs.YtmbfcbbkbefgfaaGreatDoor
open Go
set_option maxRecDepth 100000
variable {h:Heap} {K:VP}
abbrev A8e:Nat:=168
def C0o(P:Program)(c:OA)(d:Int)(D:Int)(h:Heap)(K:VP):Prop:=
 ∃ a3,c=some a3/\∃ a4 a5 k6,Hd h (a3.add 2) a4 a5 k6 <| ∃ a6,Ax a4 a6 d a5 <| ∃ e f g i j k l m,Lq h (a6.add (d.toNat*4)) e f g i j k l m <| ∃ a7,c=some a7/\∃ a8 a9 k7,Hd h (a7.add 2) a8 a9 k7 <| ∃ b0,Ax a8 b0 D a9 <| ∃ n o p q r s t u,Lq h (b0.add (D.toNat*4)) n o p q r s t u<|aC P Ys #[Qv e f g i j k l m] h (fun i7 G=>∃ b1 b2 b3 b4,i7=Zv b1 b2 b3 b4/\h.le G/\aC P Ys #[Qv n o p q r s t u] G (fun i8 H=>∃ b5 b6 b7 b8,i8=Zv b5 b6 b7 b8/\G.le H/\aC P A88 #[Zv b1 b2 b3 b4,Zv b5 b6 b7 b8] H (fun i9 J=>∃ b9 c0 c1 c2,i9=Zv b9 c0 c1 c2/\H.le J/\aC P Rt #[Qv e f g i j k l m] J (fun j0 L=>∃ c3 c4 c5 c6,j0=Zv c3 c4 c5 c6/\J.le L/\aC P Rt #[Qv n o p q r s t u] L (fun j1 M=>∃ c7 c8 c9 d0,j1=Zv c7 c8 c9 d0/\L.le M/\aC P Ob #[Zv c3 c4 c5 c6,Zv c7 c8 c9 d0] M (fun j2 N=>∃ d1 d2 d3 d4,j2=Zv d1 d2 d3 d4/\M.le N/\aC P S0 #[Zv b9 c0 c1 c2,Zv d1 d2 d3 d4] N (fun j3 O=>∃ v w x y z A B C,j3=Qv v w x y z A B C/\N.le O/\aC P Yt #[Qv v w x y z A B C,Qv e f g i j k l m] O (fun j4 Q=>∃ d5 d6 d7 d8 d9 e0 e1 e2,j4=Qv d5 d6 d7 d8 d9 e0 e1 e2/\O.le Q/\aC P Ys #[Qv d5 d6 d7 d8 d9 e0 e1 e2] Q (fun j5 R=>∃ e3 e4 e5 e6,j5=Zv e3 e4 e5 e6/\Q.le R/\aC P Yt #[Qv v w x y z A B C,Qv n o p q r s t u] R (fun j6 S=>∃ e7 e8 e9 f0 f1 f2 f3 f4,j6=Qv e7 e8 e9 f0 f1 f2 f3 f4/\R.le S/\aC P Ys #[Qv e7 e8 e9 f0 f1 f2 f3 f4] S (fun j7 a0=>∃ f5 f6 f7 f8,j7=Zv f5 f6 f7 f8/\S.le a0/\aC P Y9 #[.pointer c,I d] a0 (fun j8 j9=>∃ W X k8,j8=Sl W X k8/\aC P Y9 #[.pointer c,I D] j9 (fun k0 k1=>∃ f9 F k9,k0=Sl f9 F k9/\∃ (E:LP) (Z:LN),E [I 0] k1/\
 ∀ a b,E [I a] b->Bd (a<(F:Int)) (∃ g0,Ax f9 g0 a F <| ∃ g1 g2 g3 g4,Lz b (g0.add (a.toNat*2)) g1 g2 g3 g4 <| ∃ g5,Ax W g5 a X <| ∃ g6 g7 g8 g9,Lz b (g5.add (a.toNat*2)) g6 g7 g8 g9<|aC P Bw #[Zv g6 g7 g8 g9,Zv e3 e4 e5 e6] b (fun k2 T=>∃ h0 h1 h2 h3,k2=Zv h0 h1 h2 h3/\b.le T/\aC P Bw #[Zv g1 g2 g3 g4,Zv f5 f6 f7 f8] T (fun k3 V=>∃ h4 h5 h6 h7,k3=Zv h4 h5 h6 h7/\T.le V/\aC P Rr #[Zv h0 h1 h2 h3,Zv h4 h5 h6 h7] V (fun k4 a1=>∃ h8 h9 i0 i1,k4=Zv h8 h9 i0 i1/\V.le a1/\∃ i2,Ax W i2 a X<|wpH P (Instr.storeAt 138 (.pointer (some (i2.add (a.toNat*2)))) (Zv h8 h9 i0 i1)) (fun _ a2=>E [I (B7 (a+1))] a2/\Z [I (B7 (a+1))] a2<Z [I a] b) a1))))
 (∃ i3,c=some i3/\∃ i4 i5 l0,Hd b (i3.add 2) i4 i5 l0 <| ∃ i6,Ax i4 i6 d i5<|wpH P (Instr.storeAt 145 (.pointer (some (i6.add (d.toNat*4)))) (Qv v w x y z A B C)) (fun _ k5=>K (.tuple #[]) k5) b))))))))))))))
def B68 a b c(hvc:C0o prog a b c h K):aC prog A8e #[.pointer a,I b,I c] h K:=
 fnk func168 ⟨[(5,⟨[54],[],[I 0],⟨([12,13]++Lrg 54 19),[13]⟩⟩)],[],[(0,(([14,15]++Lrg 0 14++[16,17]),[])),(1,([0,2,5,7,11,1,3,4,6,8,9,10,12],[])),(2,([0,1,4,5,8,9,2,3,6,7,10,11],[])),(7,([0,1,2,3,4,5,6,8,9,7,10,11,12,13],[]))],[],[]⟩ [6,7,8,9,10,13] [] hvc
