/-
  Texts of this proof, merged by a program of ours.
-/
import Derived.Test.YtajkakhfcokljaaGreatDoorProg
import Derived.Test.YtajkakhfcokljaaGreatDoorG05
import Derived.Test.YtajkakhfcokljaaGreatDoorG12
import Derived.Test.YtajkakhfcokljaaGreatDoorG06
import Derived.Test.YtajkakhfcokljaaGreatDoorG09
import Derived.Test.YtajkakhfcokljaaGreatDoorG26
import Derived.Test.YtajkakhfcokljaaGreatDoorG08
import Derived.Test.YtajkakhfcokljaaGreatDoorG28
namespace Go.Proofs.YtajkakhfcokljaaGreatDoor
open Go
set_option maxRecDepth 100000
set_option linter.unusedVariables false
variable {h:Heap} {K:Value->Heap->Prop}
abbrev B1r:Nat:=55
abbrev Ux:Nat:=95
abbrev Jo:Nat:=49
abbrev B5r:Nat:=42
abbrev B7d:Nat:=44
abbrev Lk:Nat:=36
abbrev B7b:Nat:=56
abbrev B7c:Nat:=52
abbrev B86:Nat:=126
abbrev Co:Nat:=118
abbrev Bl:Nat:=96
abbrev B4o:Nat:=48
abbrev Xt:Nat:=120
abbrev Lj:Nat:=122
abbrev Cn:Nat:=165
abbrev Li:Nat:=98
abbrev B4n:Nat:=119
abbrev B3h:Nat:=181
abbrev Pm:Nat:=41
abbrev B1q:Nat:=99
abbrev B3f:Nat:=37
abbrev B5o:Nat:=50
abbrev B5p:Nat:=43
abbrev B77:Nat:=45
abbrev B74:Nat:=124
abbrev B76:Nat:=185
abbrev B4l:Nat:=51
abbrev B81:Nat:=40
abbrev B73:Nat:=57
abbrev B75:Nat:=53
abbrev Gu:Nat:=33
abbrev B1m:Nat:=34
abbrev B71:Nat:=32
abbrev B7z:Nat:=54
abbrev B5n:Nat:=10
abbrev B1o:Nat:=9
abbrev B1p:Nat:=7
abbrev B01:Nat:=5
abbrev Ei:Nat:=6
abbrev A6q:Nat:=11
abbrev Uv:Nat:=8
abbrev B3d:Nat:=12
abbrev B6z:Nat:=111
abbrev B7i:Nat:=72
abbrev Il:Nat:=173
abbrev B4u:Nat:=145
def B6l(P:Program)(f:Int)(d:Int)(g:OA)(i w:Nat)(h:Heap)(K:Value->Heap->Prop):Prop:=
 FCall P A0s #[.agg #[I f,I d,.slice g i w]] h (fun x l=>∃ (m:OA) (n o:Nat) (p:Bool),x= .tuple #[.slice m n o,.bool p]/\Br (!p) (K (.tuple #[.slice none 0 0,I 1]) l)
 (Br (f != d) (K (.tuple #[.slice none 0 0,I 4]) l)
 (∃ (j:List Value->Heap->Prop) (q:List Value->Heap->Nat),j [I 0] l/\
 ∀ (a:Int),∀ e,j [I a] e->Br (decide (a<f)) (∃ (k:List Value->Heap->Prop) (r:List Value->Heap->Nat),k [I 0] e/\
 ∀ (b:Int),∀ c,k [I b] c->Br (decide (b<a)) (∃ u,g=some u/\0<=B4 ((B4 (a*d))+b)/\B4 ((B4 (a*d))+b)<(i:Int)/\∃ (s:ByteArray),c.cell? (u.add ((B4 ((B4 (a*d))+b)).toNat*1))=some (.string s)/\∃ v,g=some v/\0<=B4 ((B4 (b*d))+a)/\B4 ((B4 (b*d))+a)<(i:Int)/\∃ (t:ByteArray),c.cell? (v.add ((B4 ((B4 (b*d))+a)).toNat*1))=some (.string t)/\Br (!(ByteArray.toList s==ByteArray.toList t)) (K (.tuple #[.slice none 0 0,I 4]) c)
 (k [I (B4 (b+1))] c/\r [I (B4 (b+1))] c<r [I b] c))
 (j [I (B4 (a+1))] c/\q [I (B4 (a+1))] c<q [I a] e))
 (K (.tuple #[.slice m n o,I 0]) e))))
theorem B10(a:Int)(b:Int)(d:OA)(e f:Nat)(hvc:B6l Tryz.prog a b d e f h K):FCall Tryz.prog Ux #[.agg #[I a,I b,.slice d e f]] h K:=
 B7 Tryz.func95 (c:=C2 Tryz.f95) (by kernel_rfl) (rs:=[.tmp 2,.tmp 3]) (by kernel_rfl) (fa:=⟨[(7,⟨[22],[],[.int .i64 0],⟨([2,3,6,7]++Lrg 22 30),[]⟩⟩),(10,⟨[26],[],[.int .i64 0],⟨([2,3,7]++Lrg 26 25),[]⟩⟩)],[],[(12,((Lrg 0 21),[[],[0],[],[],[3],[2,3,4],[],[2,3,4,5,6],(Lrg 0 8),(Lrg 0 9),[],[10],[],[],[13],[12,13,14],[],[12,13,14,15,16],(Lrg 10 8),(Lrg 10 9),(Lrg 0 20)]))],[],[]⟩)
  (cfg:=⟨53,[1],none,[67],[],false⟩) (args:=[.agg #[I a,I b,.slice d e f]]) (by kernel_rfl) (B0 Tryz.call67 Bodies.nil) (Eq.mp (by kernel_rfl) hvc)
def A8j(P:Program)(c:Int)(f:Int)(B:OA)(C D:Nat)(h:Heap)(K:Value->Heap->Prop):Prop:=
 FCall P Ux #[.agg #[I c,I f,.slice B C D]] h (fun E x=>∃ (g:OA) (i j:Nat) (d:Int),E= .tuple #[.slice g i j,I d]/\Br (d != (0:Int)) (K (.tuple #[.agg #[I 0,I 0,.slice none 0 0,.slice none 0 0],.bool false,I d]) x)
 (FCall P Bl #[.slice g i j,I c] x (fun F a=>∃ (e:OA) (k:Bool),F= .tuple #[.pointer e,.bool k]/\Br (!k) (K (.tuple #[.agg #[I 0,I 0,.slice none 0 0,.slice none 0 0],.bool false,I 0]) a)
 (∃ z,e=some z/\∃ (l:OA) (m n:Nat),a.cell? (z.add 5)=some (.slice l m n)/\FCall P Cm #[.slice l m n] a (fun G b=>∃ (o:OA) (p q:Nat),G= .slice o p q/\Heap.le a b/\∃ A,e=some A/\∃ (r:OA) (s t:Nat),b.cell? (A.add 6)=some (.slice r s t)/\FCall P Cm #[.slice r s t] b (fun H y=>∃ (u:OA) (v w:Nat),H= .slice u v w/\Heap.le b y/\K (.tuple #[.agg #[I c,I f,.slice o p q,.slice u v w],.bool true,I 0]) y))))))
theorem A4i(a:Int)(b:Int)(d:OA)(e f:Nat)(hvc:A8j Tryz.prog a b d e f h K):FCall Tryz.prog Jo #[.agg #[I a,I b,.slice d e f]] h K:=
 B7 Tryz.func49 (c:=C2 Tryz.f49) (by kernel_rfl) (rs:=[.cell 2 72,.tmp 3,.tmp 4]) (by kernel_rfl) (fa:=⟨[],[],[(7,((Lrg 0 8++[10,8,9,11]),[[],[0],[],[2],[],[4],[4,5],[4,5,6],[4,5,6,7],(Lrg 0 9),[],(Lrg 0 11)])),(8,((Lrg 0 10),[[],[],[1],[1,2],[1,2,3],[1,2,3,4],[0,1,2,3,4,5],[0,1,2,3,4,5,6],(Lrg 0 8),(Lrg 0 9)]))],[],[]⟩)
  (cfg:=⟨46,[1,2,9],none,[95,96,97],[],false⟩) (args:=[.agg #[I a,I b,.slice d e f]]) (by kernel_rfl) (B0 Tryz.call95 (B0 Tryz.call96 (B0 Tryz.call97 Bodies.nil))) (Eq.mp (by kernel_rfl) hvc)
def A2y(P:Program)(b:Int)(q:Int)(r:OA)(s t:Nat)(h:Heap)(K:Value->Heap->Prop):Prop:=
 FCall P Ux #[.agg #[I b,I q,.slice r s t]] h (fun u o=>∃ (c:OA) (d e:Nat) (a:Int),u= .tuple #[.slice c d e,I a]/\Br (a != (0:Int)) (K (.tuple #[.slice none 0 0,.bool false,I a]) o)
 (FCall P Bl #[.slice c d e,I b] o (fun v p=>∃ (f:OA) (g:Bool),v= .tuple #[.pointer f,.bool g]/\Br g (K (.tuple #[.slice none 0 0,.bool false,I 0]) p)
 (FCall P Li #[.pointer f] p (fun w x=>∃ (i:OA) (j k:Nat),w= .slice i j k/\FCall P Cm #[.slice i j k] x (fun y z=>∃ (l:OA) (m n:Nat),y= .slice l m n/\K (.tuple #[.slice l m n,.bool true,I 0]) z))))))
theorem A1j(a:Int)(b:Int)(d:OA)(e f:Nat)(hvc:A2y Tryz.prog a b d e f h K):FCall Tryz.prog Lk #[.agg #[I a,I b,.slice d e f]] h K:=
 B7 Tryz.func36 (c:=C2 Tryz.f36) (by kernel_rfl) (rs:=[.tmp 2,.tmp 3,.tmp 4]) (by kernel_rfl) (fa:=⟨[],[],[],[],[]⟩)
  (cfg:=⟨28,[1],none,[95,96,97,98],[],false⟩) (args:=[.agg #[I a,I b,.slice d e f]]) (by kernel_rfl) (B0 Tryz.call95 (B0 Tryz.call96 (B0 Tryz.call97 (B0 Tryz.call98 Bodies.nil)))) (Eq.mp (by kernel_rfl) hvc)
def Gj(P:Program)(i:OA)(j k:Nat)(a:Int)(h:Heap)(K:Value->Heap->Prop):Prop:=
 FCall P Hx #[.slice i j k,I a] h (fun l m=>∃ (b:OA),l= .pointer b/\FCall P Pf #[I 1] m (fun n o=>∃ (c:Bool) (d:OA) (e f:Nat),n= .agg #[.bool c,.slice d e f]/\wpH P (Instr.box 173 (.agg #[I a,I 0,.pointer b,.bool c,.slice d e f,.slice none 0 0,.slice none 0 0])) (fun p q=>∃ (g:Addr),p= .pointer (some g)/\K (.pointer (some g)) q) o))
theorem Kk(a:OA)(b d:Nat)(e:Int)(hvc:Gj Tryz.prog a b d e h K):FCall Tryz.prog Co #[.slice a b d,I e] h K:=
 B7 Tryz.func118 (c:=C2 Tryz.f118) (by kernel_rfl) (rs:=[.tmp 4]) (by kernel_rfl) (fa:=⟨[],[],[],[],[]⟩)
  (cfg:=⟨12,[],none,[68,139],[1000000000],false⟩) (args:=[.slice a b d,I e]) (by kernel_rfl) (B0 Tryz.call68 (B0 Tryz.call139 Bodies.nil)) (Eq.mp (by kernel_rfl) hvc)
def Ti(P:Program)(d7:OA)(d8 d9:Nat)(b:Int)(h:Heap)(K:Value->Heap->Prop):Prop:=
 FCall P Co #[.slice d7 d8 d9,I b] h (fun e4 e5=>∃ (c:OA),e4= .pointer c/\wpH P (Instr.makeSlice 95 (I (B4 (b*b))) (I (B4 (b*b)))) (fun e6 e7=>∃ (z:OA) (A B:Nat),e6= .slice z A B/\∃ c7,c=some c7/\wpH P (Instr.storeAt 95 (.pointer (some (c7.add 5))) (.slice z A B)) (fun _ e8=>wpH P (Instr.makeSlice 95 (I b) (I b)) (fun e9 f0=>∃ (C:OA) (D E:Nat),e9= .slice C D E/\∃ c8,c=some c8/\wpH P (Instr.storeAt 95 (.pointer (some (c8.add 6))) (.slice C D E)) (fun _ f1=>∃ (r:List Value->Heap->Prop) (s:List Value->Heap->Nat),r [.bool true,I 0] f1/\
 ∀ (e:Bool) (a:Int),∀ q,r [.bool e,I a] q->Br (decide (a<b)) (FCall P Xt #[.pointer c,I a,I a] q (fun f2 f3=>∃ (f:Bool) (g:OA) (i j:Nat) (k:Bool) (l:OA) (m n:Nat),f2= .agg #[.bool f,.slice g i j,.bool k,.slice l m n]/\FCall P Cn #[.pointer c] f3 (fun f4 f5=>∃ (e0:Int) (F:Bool),f4= .tuple #[I e0,.bool F]/\∃ (u:List Value->Heap->Prop),(FCall P A0n #[.agg #[.bool f,.slice g i j,.bool k,.slice l m n]] f5 (fun f6 c0=>∃ (G:Int),f6=I G/\Br (decide (G<(0:Int))) (K (.tuple #[.pointer c,.bool false]) c0)
 (FCall P Fo #[.agg #[.bool f,.slice g i j,.bool k,.slice l m n]] c0 (fun f7 w=>∃ (H:Bool),f7= .bool H/\Br H (Br F (K (.tuple #[.pointer c,.bool false]) w)
 (u [.bool e] w))
 (u [.bool e] w)))))/\
 ∀ (p:Bool),∀ t,u [.bool p] t->∃ c9,c=some c9/\∃ (J:OA) (L e1:Nat),t.cell? (c9.add 5)=some (.slice J L e1)/\FCall P Aa #[I 1] t (fun f8 c1=>∃ (M:Bool) (N:OA) (O Q:Nat) (R:Bool) (S:OA) (T V:Nat),f8= .agg #[.bool M,.slice N O Q,.bool R,.slice S T V]/\Heap.le t c1/\∃ d0,J=some d0/\0<=B4 ((B4 (a*b))+a)/\B4 ((B4 (a*b))+a)<(L:Int)/\wpH P (Instr.storeAt 106 (.pointer (some (d0.add ((B4 ((B4 (a*b))+a)).toNat*4)))) (.agg #[.bool M,.slice N O Q,.bool R,.slice S T V])) (fun _ c2=>∃ d1,c=some d1/\∃ (W:OA) (X e2:Nat),c2.cell? (d1.add 6)=some (.slice W X e2)/\∃ d2,W=some d2/\0<=a/\a<(X:Int)/\wpH P (Instr.storeAt 106 (.pointer (some (d2.add (a.toNat*4)))) (.agg #[.bool f,.slice g i j,.bool k,.slice l m n])) (fun _ f9=>FCall P Fo #[.agg #[.bool f,.slice g i j,.bool k,.slice l m n]] f9 (fun g0 x=>∃ (Z:Bool),g0= .bool Z/\Br Z (∃ d3,c=some d3/\∃ (a0:Int),x.cell? (d3.add 1)=some (I a0)/\∃ d4,c=some d4/\wpH P (Instr.storeAt 3 (.pointer (some (d4.add 1))) (I (B4 (a0+1)))) (fun _ c3=>r [.bool p,I (B4 (a+1))] c3/\s [.bool p,I (B4 (a+1))] c3<s [.bool e,I a] q) x)
 (∃ (v:List Value->Heap->Prop) (a1:List Value->Heap->Nat),v [I (B4 (a+1))] x/\
 ∀ (d:Int),∀ o,v [I d] o->Br (decide (d<b)) (∃ d5,c=some d5/\∃ (a2:OA) (a3 e3:Nat),o.cell? (d5.add 5)=some (.slice a2 a3 e3)/\FCall P Xt #[.pointer c,I d,I a] o (fun g1 y=>∃ (a4:Bool) (a5:OA) (a6 a7:Nat) (a8:Bool) (a9:OA) (b0 b1:Nat),g1= .agg #[.bool a4,.slice a5 a6 a7,.bool a8,.slice a9 b0 b1]/\Heap.le o y/\FCall P Xs #[.agg #[.bool a4,.slice a5 a6 a7,.bool a8,.slice a9 b0 b1],.agg #[.bool f,.slice g i j,.bool k,.slice l m n]] y (fun g2 c4=>∃ (b2:Bool) (b3:OA) (b4 b5:Nat) (b6:Bool) (b7:OA) (b8 b9:Nat),g2= .agg #[.bool b2,.slice b3 b4 b5,.bool b6,.slice b7 b8 b9]/\Heap.le y c4/\∃ d6,a2=some d6/\0<=B4 ((B4 (d*b))+a)/\B4 ((B4 (d*b))+a)<(a3:Int)/\wpH P (Instr.storeAt 106 (.pointer (some (d6.add ((B4 ((B4 (d*b))+a)).toNat*4)))) (.agg #[.bool b2,.slice b3 b4 b5,.bool b6,.slice b7 b8 b9])) (fun _ c5=>v [I (B4 (d+1))] c5/\a1 [I (B4 (d+1))] c5<a1 [I d] o) c4)))
 (FCall P Lj #[.pointer c] o (fun g3 c6=>g3= .tuple #[]/\r [.bool p,I (B4 (a+1))] c6/\s [.bool p,I (B4 (a+1))] c6<s [.bool e,I a] q))))) c2) c1))))
 (K (.tuple #[.pointer c,.bool e]) q)) f0) e8) e7) e5)
theorem Vx(a:OA)(b d:Nat)(e:Int)(hvc:Ti Tryz.prog a b d e h K):FCall Tryz.prog Bl #[.slice a b d,I e] h K:=
 B7 Tryz.func96 (c:=C2 Tryz.f96) (by kernel_rfl) (rs:=[.tmp 4,.tmp 5]) (by kernel_rfl) (fa:=⟨[(6,⟨[7,29],[],[.bool false,.int .i64 0],⟨([7,8,9,10,11,12]++Lrg 29 75),[9]⟩⟩),(17,⟨[12],[],[.int .i64 0],⟨([12]++Lrg 80 21),[]⟩⟩)],[(12,⟨[7],[],[.bool false],⟨([7]++Lrg 41 10),[]⟩⟩)],[(12,((Lrg 0 12),[[],[0],[0,1],[0,1,2],[],[],[4,5],[],[4,5,6,7],[],(Lrg 0 10),(Lrg 0 11)])),(13,((Lrg 0 8),[[],[0],[0,1],[0,1,2],[],[],[0,1,2,3,4,5],[0,1,2,3,4,5,6]])),(19,((Lrg 0 12++[13,12,14,15,16]),[[],[0],[0,1],[0,1,2],[],[],[4,5],[],[4,5,6,7],[],[],[],[9,10,11],[],[9,10,11,12,13],(Lrg 0 15),(Lrg 0 16)]))],[],[]⟩)
  (cfg:=⟨106,[9],none,[72,106,118,120,121,122,165,166],[122],false⟩) (args:=[.slice a b d,I e]) (by kernel_rfl) (B0 Tryz.call72 (B0 Tryz.call106 (B0 Tryz.call118 (B0 Tryz.call120 (B0 Tryz.call121 (B0 Tryz.call122 (B0 Tryz.call165 (B0 Tryz.call166 Bodies.nil)))))))) (Eq.mp (by kernel_rfl) hvc)
def EAt(P:Program)(e:OA)(a:Int)(d:Int)(h:Heap)(K:Value->Heap->Prop):Prop:=
 ∃ a1,e=some a1/\∃ (j:OA),h.cell? (a1.add 2)=some (.pointer j)/\∃ g,e=some g/\∃ (k:Bool) (l:OA) (m n:Nat),h.cell? (Addr.add (g.add 3) 0)=some (.bool k)/\h.cell? (Addr.add (g.add 3) 1)=some (.slice l m n)/\∃ a2,e=some a2/\∃ (o:OA),h.cell? (a2.add 2)=some (.pointer o)/\∃ a3,o=some a3/\∃ (p:OA) (q a4:Nat),h.cell? (a3.add 2)=some (.slice p q a4)/\∃ c,p=some c/\0<=a/\a<(q:Int)/\∃ (r:Bool) (s:OA) (t u:Nat) (v:Bool) (w:OA) (x y:Nat),h.cell? (Addr.add (c.add (a.toNat*4)) 0)=some (.bool r)/\h.cell? (Addr.add (c.add (a.toNat*4)) 1)=some (.slice s t u)/\h.cell? (Addr.add (c.add (a.toNat*4)) 2)=some (.bool v)/\h.cell? (Addr.add (c.add (a.toNat*4)) 3)=some (.slice w x y)/\FCall P Pn #[.pointer j,I a] h (fun a6 b=>∃ (z:OA) (A a5:Nat),a6= .slice z A a5/\Heap.le h b/\∃ i,z=some i/\0<=d/\d<(A:Int)/\∃ (B:Bool) (C:OA) (D E:Nat),b.cell? (Addr.add (i.add (d.toNat*2)) 0)=some (.bool B)/\b.cell? (Addr.add (i.add (d.toNat*2)) 1)=some (.slice C D E)/\FCall P Ax #[.agg #[.bool B,.slice C D E],.agg #[.bool k,.slice l m n]] b (fun a7 f=>∃ (F:Bool) (G:OA) (H J:Nat) (L:Bool) (M:OA) (N O:Nat),a7= .agg #[.bool F,.slice G H J,.bool L,.slice M N O]/\Heap.le b f/\FCall P Xs #[.agg #[.bool F,.slice G H J,.bool L,.slice M N O],.agg #[.bool r,.slice s t u,.bool v,.slice w x y]] f (fun a8 a0=>∃ (Q:Bool) (R:OA) (S T:Nat) (V:Bool) (W:OA) (X Z:Nat),a8= .agg #[.bool Q,.slice R S T,.bool V,.slice W X Z]/\Heap.le f a0/\K (.agg #[.bool Q,.slice R S T,.bool V,.slice W X Z]) a0)))
theorem B6j(a:OA)(b:Int)(d:Int)(hvc:EAt Tryz.prog a b d h K):FCall Tryz.prog Xt #[.pointer a,I b,I d] h K:=
 B7 Tryz.func120 (c:=C2 Tryz.f120) (by kernel_rfl) (rs:=[.cell 6 106]) (by kernel_rfl) (fa:=⟨[],[],[(1,(([0,1,2,3,4,6,9,10,11,12]++Lrg 14 10++[5,7,8,13,24,25]),[[],[0],[0,1],[0,1,2],[],[0,1,2,3,4],[],[0,1,2,3,4,5,6],(Lrg 0 8),[],[9],[9,10],[9,10,11],(Lrg 0 13),[],[14],[14,15],[14,15,16],[14,15,16,17],[14,15,16,17,18],[14,15,16,17,18,19],[],(Lrg 14 8),(Lrg 14 9),(Lrg 0 24),(Lrg 0 25)]))],[],[]⟩)
  (cfg:=⟨32,[6],none,[72,132,144],[],false⟩) (args:=[.pointer a,I b,I d]) (by kernel_rfl) (B0 Tryz.call72 (B0 Tryz.call132 (B0 Tryz.call144 Bodies.nil))) (Eq.mp (by kernel_rfl) hvc)
def A2x(P:Program)(c:OA)(h:Heap)(K:Value->Heap->Prop):Prop:=
 ∃ A,c=some A/\∃ (a:Int),h.cell? (A.add 1)=some (I a)/\∃ (e:List Value->Heap->Prop) (j:List Value->Heap->Nat),e [I (B4 (a+1))] h/\
 ∀ (d:Int),∀ b,e [I d] b->∃ B,c=some B/\∃ (k:Int),b.cell? (B.add 0)=some (I k)/\Br (decide (d<k)) (∃ C,c=some C/\∃ (l:OA),b.cell? (C.add 2)=some (.pointer l)/\∃ g,c=some g/\∃ (m:Bool) (n:OA) (o p:Nat),b.cell? (Addr.add (g.add 3) 0)=some (.bool m)/\b.cell? (Addr.add (g.add 3) 1)=some (.slice n o p)/\FCall P Uz #[.pointer l,I d,I a,I a,.agg #[.bool m,.slice n o p]] b (fun J y=>J= .tuple #[]/\e [I (B4 (d+1))] y/\j [I (B4 (d+1))] y<j [I d] b))
 (∃ D,c=some D/\∃ (q:OA),b.cell? (D.add 2)=some (.pointer q)/\FCall P Pn #[.pointer q,I a] b (fun L f=>∃ (r:OA) (s H:Nat),L= .slice r s H/\∃ i,r=some i/\0<=a/\a<(s:Int)/\∃ (t:Bool) (u:OA) (v w:Nat),f.cell? (Addr.add (i.add (a.toNat*2)) 0)=some (.bool t)/\f.cell? (Addr.add (i.add (a.toNat*2)) 1)=some (.slice u v w)/\∃ E,c=some E/\wpH P (Instr.storeAt 102 (.pointer (some (E.add 3))) (.agg #[.bool t,.slice u v w])) (fun _ z=>∃ F,c=some F/\∃ (x:Int),z.cell? (F.add 1)=some (I x)/\∃ G,c=some G/\wpH P (Instr.storeAt 3 (.pointer (some (G.add 1))) (I (B4 (x+1)))) (fun _ M=>K (.tuple #[]) M) z) f))
theorem A1i(a:OA)(hvc:A2x Tryz.prog a h K):FCall Tryz.prog Lj #[.pointer a] h K:=
 B7 Tryz.func122 (c:=C2 Tryz.f122) (by kernel_rfl) (rs:=[]) (by kernel_rfl) (fa:=⟨[(2,⟨[3],[],[.int .i64 0],⟨([3]++Lrg 10 20),[]⟩⟩)],[],[(4,((Lrg 0 12),[[],[0],[0,1],[0,1,2],[],[],[],[],[7],[7,8],[7,8,9],(Lrg 0 11)]))],[],[]⟩)
  (cfg:=⟨49,[],none,[143,144],[143],false⟩) (args:=[.pointer a]) (by kernel_rfl) (B0 Tryz.call143 (B0 Tryz.call144 Bodies.nil)) (Eq.mp (by kernel_rfl) hvc)
def A2w(P:Program)(e:OA)(h:Heap)(K:Value->Heap->Prop):Prop:=
 ∃ u,e=some u/\∃ (j:Int),h.cell? (u.add 1)=some (I j)/\∃ (g:List Value->Heap->Prop) (k:List Value->Heap->Nat),g [I (B4 (j+1))] h/\
 ∀ (b:Int),∀ a,g [I b] a->∃ v,e=some v/\∃ (l:Int),a.cell? (v.add 0)=some (I l)/\Br (decide (b<l)) (∃ w,e=some w/\∃ (m:OA),a.cell? (w.add 2)=some (.pointer m)/\∃ x,e=some x/\∃ (c:Int),a.cell? (x.add 1)=some (I c)/\FCall P Pn #[.pointer m,I b] a (fun z d=>∃ (n:OA) (o y:Nat),z= .slice n o y/\Heap.le a d/\∃ i,n=some i/\0<=c/\c<(o:Int)/\∃ (p:Bool) (q:OA) (r s:Nat),d.cell? (Addr.add (i.add (c.toNat*2)) 0)=some (.bool p)/\d.cell? (Addr.add (i.add (c.toNat*2)) 1)=some (.slice q r s)/\FCall P E9 #[.agg #[.bool p,.slice q r s]] d (fun A f=>∃ (t:Bool),A= .bool t/\Heap.le d f/\Br (!t) (K (.tuple #[I b,.bool true]) f)
 (g [I (B4 (b+1))] f/\k [I (B4 (b+1))] f<k [I b] a))))
 (K (.tuple #[I 0,.bool false]) a)
theorem A1h(a:OA)(hvc:A2w Tryz.prog a h K):FCall Tryz.prog Cn #[.pointer a] h K:=
 B7 Tryz.func165 (c:=C2 Tryz.f165) (by kernel_rfl) (rs:=[.tmp 2,.tmp 3]) (by kernel_rfl) (fa:=⟨[(2,⟨[4],[],[.int .i64 0],⟨([2,3,4]++Lrg 10 23),[]⟩⟩)],[],[(4,([0,1,2,3,4,6,7,8,9,5,10,11,12,13],[[],[0],[0,1],[0,1,2],[],[0,1,2,3,4],[],[6],[6,7],[6,7,8],(Lrg 0 10),(Lrg 0 11),(Lrg 0 12),(Lrg 0 13)]))],[],[]⟩)
  (cfg:=⟨33,[],none,[138,144],[],false⟩) (args:=[.pointer a]) (by kernel_rfl) (B0 Tryz.call138 (B0 Tryz.call144 Bodies.nil)) (Eq.mp (by kernel_rfl) hvc)
def A2v(P:Program)(i:OA)(h:Heap)(K:Value->Heap->Prop):Prop:=
 ∃ l6,i=some l6/\∃ (e:Int),h.cell? (l6.add 0)=some (I e)/\∃ l7,i=some l7/\∃ (d:Int),h.cell? (l7.add 1)=some (I d)/\wpH P (Instr.makeSlice 95 (I e) (I e)) (fun m6 m7=>∃ (f:OA) (g w:Nat),m6= .slice f g w/\∃ (n:List Value->Heap->Prop),(FCall P Cn #[.pointer i] m7 (fun m8 l0=>∃ (j:Int) (x:Bool),m8= .tuple #[I j,.bool x]/\Br x (FCall P Xt #[.pointer i,I d,I d] l0 (fun m9 n0=>∃ (y:Bool) (z:OA) (A B:Nat) (C:Bool) (D:OA) (E F:Nat),m9= .agg #[.bool y,.slice z A B,.bool C,.slice D E F]/\FCall P Fo #[.agg #[.bool y,.slice z A B,.bool C,.slice D E F]] n0 (fun n1 l1=>∃ (G:Bool),n1= .bool G/\Br G (FCall P Xt #[.pointer i,I j,I d] l1 (fun n2 n3=>∃ (H:Bool) (J:OA) (L M:Nat) (N:Bool) (O:OA) (Q R:Nat),n2= .agg #[.bool H,.slice J L M,.bool N,.slice O Q R]/\FCall P Xt #[.pointer i,I j,I j] n3 (fun n4 n5=>∃ (S:Bool) (T:OA) (V W:Nat) (X:Bool) (Z:OA) (a0 a1:Nat),n4= .agg #[.bool S,.slice T V W,.bool X,.slice Z a0 a1]/\FCall P Aa #[I 1] n5 (fun n6 n7=>∃ (a2:Bool) (a3:OA) (a4 a5:Nat) (a6:Bool) (a7:OA) (a8 a9:Nat),n6= .agg #[.bool a2,.slice a3 a4 a5,.bool a6,.slice a7 a8 a9]/\∃ l8,f=some l8/\0<=j/\j<(g:Int)/\wpH P (Instr.storeAt 106 (.pointer (some (l8.add (j.toNat*4)))) (.agg #[.bool a2,.slice a3 a4 a5,.bool a6,.slice a7 a8 a9])) (fun _ l2=>FCall P Aa #[I 1] l2 (fun n8 r=>∃ (b0:Bool) (b1:OA) (b2 b3:Nat) (b4:Bool) (b5:OA) (b6 b7:Nat),n8= .agg #[.bool b0,.slice b1 b2 b3,.bool b4,.slice b5 b6 b7]/\Heap.le l2 r/\FCall P A28 #[.agg #[.bool S,.slice T V W,.bool X,.slice Z a0 a1],.agg #[.bool b0,.slice b1 b2 b3,.bool b4,.slice b5 b6 b7]] r (fun n9 s=>∃ (b8:Bool) (b9:OA) (c0 c1:Nat) (c2:Bool) (c3:OA) (c4 c5:Nat),n9= .agg #[.bool b8,.slice b9 c0 c1,.bool c2,.slice c3 c4 c5]/\Heap.le r s/\FCall P Aa #[I (-2:Int)] s (fun o0 t=>∃ (c6:Bool) (c7:OA) (c8 c9:Nat) (d0:Bool) (d1:OA) (d2 d3:Nat),o0= .agg #[.bool c6,.slice c7 c8 c9,.bool d0,.slice d1 d2 d3]/\Heap.le s t/\FCall P Xr #[.agg #[.bool H,.slice J L M,.bool N,.slice O Q R],.agg #[.bool c6,.slice c7 c8 c9,.bool d0,.slice d1 d2 d3]] t (fun o1 u=>∃ (d4:Bool) (d5:OA) (d6 d7:Nat) (d8:Bool) (d9:OA) (e0 e1:Nat),o1= .agg #[.bool d4,.slice d5 d6 d7,.bool d8,.slice d9 e0 e1]/\Heap.le t u/\FCall P Xs #[.agg #[.bool b8,.slice b9 c0 c1,.bool c2,.slice c3 c4 c5],.agg #[.bool d4,.slice d5 d6 d7,.bool d8,.slice d9 e0 e1]] u (fun o2 l3=>∃ (e2:Bool) (e3:OA) (e4 e5:Nat) (e6:Bool) (e7:OA) (e8 e9:Nat),o2= .agg #[.bool e2,.slice e3 e4 e5,.bool e6,.slice e7 e8 e9]/\Heap.le u l3/\∃ l9,f=some l9/\0<=d/\d<(g:Int)/\wpH P (Instr.storeAt 106 (.pointer (some (l9.add (d.toNat*4)))) (.agg #[.bool e2,.slice e3 e4 e5,.bool e6,.slice e7 e8 e9])) (fun _ o3=>n [] o3) l3)))))) n7))))
 (FCall P Aa #[I 1] l1 (fun o4 o5=>∃ (f0:Bool) (f1:OA) (f2 f3:Nat) (f4:Bool) (f5:OA) (f6 f7:Nat),o4= .agg #[.bool f0,.slice f1 f2 f3,.bool f4,.slice f5 f6 f7]/\∃ m0,f=some m0/\0<=d/\d<(g:Int)/\wpH P (Instr.storeAt 106 (.pointer (some (m0.add (d.toNat*4)))) (.agg #[.bool f0,.slice f1 f2 f3,.bool f4,.slice f5 f6 f7])) (fun _ o6=>n [] o6) o5)))))
 (FCall P Aa #[I 1] l0 (fun o7 o8=>∃ (f8:Bool) (f9:OA) (g0 g1:Nat) (g2:Bool) (g3:OA) (g4 g5:Nat),o7= .agg #[.bool f8,.slice f9 g0 g1,.bool g2,.slice g3 g4 g5]/\∃ m1,f=some m1/\0<=d/\d<(g:Int)/\wpH P (Instr.storeAt 106 (.pointer (some (m1.add (d.toNat*4)))) (.agg #[.bool f8,.slice f9 g0 g1,.bool g2,.slice g3 g4 g5])) (fun _ o9=>n [] o9) o8))))/\
 ∀ m2,n [] m2->∃ (p:List Value->Heap->Prop) (g6:List Value->Heap->Nat),p [I (B4 (d-1))] m2/\
 ∀ (a:Int),∀ o,p [I a] o->Br (decide (a>=(0:Int))) (∃ (q:List Value->Heap->Prop) (g7:List Value->Heap->Nat),q [I (B4 (a+1))] o/\
 ∀ (c:Int),∀ b,q [I c] b->Br (decide (c<e)) (∃ k,f=some k/\0<=a/\a<(g:Int)/\∃ (g8:Bool) (g9:OA) (h0 h1:Nat) (h2:Bool) (h3:OA) (h4 h5:Nat),b.cell? (Addr.add (k.add (a.toNat*4)) 0)=some (.bool g8)/\b.cell? (Addr.add (k.add (a.toNat*4)) 1)=some (.slice g9 h0 h1)/\b.cell? (Addr.add (k.add (a.toNat*4)) 2)=some (.bool h2)/\b.cell? (Addr.add (k.add (a.toNat*4)) 3)=some (.slice h3 h4 h5)/\∃ m3,i=some m3/\∃ (h6:OA) (h7 m5:Nat),b.cell? (m3.add 5)=some (.slice h6 h7 m5)/\∃ l,h6=some l/\0<=B4 ((B4 (c*e))+a)/\B4 ((B4 (c*e))+a)<(h7:Int)/\∃ (h8:Bool) (h9:OA) (i0 i1:Nat) (i2:Bool) (i3:OA) (i4 i5:Nat),b.cell? (Addr.add (l.add ((B4 ((B4 (c*e))+a)).toNat*4)) 0)=some (.bool h8)/\b.cell? (Addr.add (l.add ((B4 ((B4 (c*e))+a)).toNat*4)) 1)=some (.slice h9 i0 i1)/\b.cell? (Addr.add (l.add ((B4 ((B4 (c*e))+a)).toNat*4)) 2)=some (.bool i2)/\b.cell? (Addr.add (l.add ((B4 ((B4 (c*e))+a)).toNat*4)) 3)=some (.slice i3 i4 i5)/\∃ m,f=some m/\0<=c/\c<(g:Int)/\∃ (i6:Bool) (i7:OA) (i8 i9:Nat) (j0:Bool) (j1:OA) (j2 j3:Nat),b.cell? (Addr.add (m.add (c.toNat*4)) 0)=some (.bool i6)/\b.cell? (Addr.add (m.add (c.toNat*4)) 1)=some (.slice i7 i8 i9)/\b.cell? (Addr.add (m.add (c.toNat*4)) 2)=some (.bool j0)/\b.cell? (Addr.add (m.add (c.toNat*4)) 3)=some (.slice j1 j2 j3)/\FCall P Xr #[.agg #[.bool h8,.slice h9 i0 i1,.bool i2,.slice i3 i4 i5],.agg #[.bool i6,.slice i7 i8 i9,.bool j0,.slice j1 j2 j3]] b (fun p0 v=>∃ (j4:Bool) (j5:OA) (j6 j7:Nat) (j8:Bool) (j9:OA) (k0 k1:Nat),p0= .agg #[.bool j4,.slice j5 j6 j7,.bool j8,.slice j9 k0 k1]/\Heap.le b v/\FCall P A6n #[.agg #[.bool g8,.slice g9 h0 h1,.bool h2,.slice h3 h4 h5],.agg #[.bool j4,.slice j5 j6 j7,.bool j8,.slice j9 k0 k1]] v (fun p1 l4=>∃ (k2:Bool) (k3:OA) (k4 k5:Nat) (k6:Bool) (k7:OA) (k8 k9:Nat),p1= .agg #[.bool k2,.slice k3 k4 k5,.bool k6,.slice k7 k8 k9]/\Heap.le v l4/\∃ m4,f=some m4/\0<=a/\a<(g:Int)/\wpH P (Instr.storeAt 106 (.pointer (some (m4.add (a.toNat*4)))) (.agg #[.bool k2,.slice k3 k4 k5,.bool k6,.slice k7 k8 k9])) (fun _ l5=>q [I (B4 (c+1))] l5/\g7 [I (B4 (c+1))] l5<g7 [I c] b) l4)))
 (p [I (B4 (a-1))] b/\g6 [I (B4 (a-1))] b<g6 [I a] o))
 (K (.slice f g w) o)) h
theorem A1g(a:OA)(hvc:A2v Tryz.prog a h K):FCall Tryz.prog Li #[.pointer a] h K:=
 B7 Tryz.func98 (c:=C2 Tryz.f98) (by kernel_rfl) (rs:=[.tmp 2]) (by kernel_rfl) (fa:=⟨[(10,⟨[10],[],[.int .i64 0],⟨([10,11]++Lrg 63 35),[]⟩⟩),(13,⟨[11],[],[.int .i64 0],⟨([11]++Lrg 69 29),[]⟩⟩)],[(9,⟨[],[],[],⟨([6,7,8,9]++Lrg 22 39),[8,9]⟩⟩)],[(1,((Lrg 0 10),[[],[0],[0,1],[0,1,2],[],[4],[4,5],[4,5,6],[0,1,2,3],(Lrg 0 9)])),(7,([0,1,2,5,3,4,6,7,8,9,10],[[],[],[],[],[2,3],[],[2,3,4],[2,3,4,5,6],[2,3,4,5,6,7],(Lrg 0 9),(Lrg 0 10)])),(15,((Lrg 0 25),[[],[],[],[],[2,3],[2,3,4],[],[6],[6,7],[6,7,8],[],[],[10,11],[],[10,11,12,13],(Lrg 6 9),(Lrg 6 10),[],[],[17,18],[17,18,19],(Lrg 6 15),(Lrg 2 20),(Lrg 0 23),(Lrg 0 24)]))],[],[]⟩)
  (cfg:=⟨99,[8,9],none,[72,81,106,120,130,165,166,167],[],false⟩) (args:=[.pointer a]) (by kernel_rfl) (B0 Tryz.call72 (B0 Tryz.call81 (B0 Tryz.call106 (B0 Tryz.call120 (B0 Tryz.call130 (B0 Tryz.call165 (B0 Tryz.call166 (B0 Tryz.call167 Bodies.nil)))))))) (Eq.mp (by kernel_rfl) hvc)
def A8h(P:Program)(f:Int)(d:Int)(g:OA)(i w:Nat)(h:Heap)(K:Value->Heap->Prop):Prop:=
 FCall P A0t #[.agg #[I f,I d,.slice g i w]] h (fun x l=>∃ (m:OA) (n o:Nat) (p:Bool),x= .tuple #[.slice m n o,.bool p]/\Br (!p) (K (.tuple #[.slice none 0 0,I 1]) l)
 (Br (f != d) (K (.tuple #[.slice none 0 0,I 4]) l)
 (∃ (j:List Value->Heap->Prop) (q:List Value->Heap->Nat),j [I 0] l/\
 ∀ (a:Int),∀ e,j [I a] e->Br (decide (a<f)) (∃ (k:List Value->Heap->Prop) (r:List Value->Heap->Nat),k [I 0] e/\
 ∀ (b:Int),∀ c,k [I b] c->Br (decide (b<a)) (∃ u,g=some u/\0<=B4 ((B4 (a*d))+b)/\B4 ((B4 (a*d))+b)<(i:Int)/\∃ (s:ByteArray),c.cell? (u.add ((B4 ((B4 (a*d))+b)).toNat*1))=some (.string s)/\∃ v,g=some v/\0<=B4 ((B4 (b*d))+a)/\B4 ((B4 (b*d))+a)<(i:Int)/\∃ (t:ByteArray),c.cell? (v.add ((B4 ((B4 (b*d))+a)).toNat*1))=some (.string t)/\Br (!(ByteArray.toList s==ByteArray.toList t)) (K (.tuple #[.slice none 0 0,I 4]) c)
 (k [I (B4 (b+1))] c/\r [I (B4 (b+1))] c<r [I b] c))
 (j [I (B4 (a+1))] c/\q [I (B4 (a+1))] c<q [I a] e))
 (K (.tuple #[.slice m n o,I 0]) e))))
theorem A4h(a:Int)(b:Int)(d:OA)(e f:Nat)(hvc:A8h Tryz.prog a b d e f h K):FCall Tryz.prog Pm #[.agg #[I a,I b,.slice d e f]] h K:=
 B7 Tryz.func41 (c:=C2 Tryz.f41) (by kernel_rfl) (rs:=[.tmp 2,.tmp 3]) (by kernel_rfl) (fa:=⟨[(7,⟨[6],[],[.int .i64 0],⟨([2,3,6,7]++Lrg 20 32),[]⟩⟩),(10,⟨[7],[],[.int .i64 0],⟨([2,3,7]++Lrg 26 26),[]⟩⟩)],[],[(12,((Lrg 0 21),[[],[0],[],[],[3],[2,3,4],[],[2,3,4,5,6],(Lrg 0 8),(Lrg 0 9),[],[10],[],[],[13],[12,13,14],[],[12,13,14,15,16],(Lrg 10 8),(Lrg 10 9),(Lrg 0 20)]))],[],[]⟩)
  (cfg:=⟨53,[1],none,[35],[],false⟩) (args:=[.agg #[I a,I b,.slice d e f]]) (by kernel_rfl) (B0 Tryz.call35 Bodies.nil) (Eq.mp (by kernel_rfl) hvc)
def B2a(P:Program) (h:Heap)(K:Value->Heap->Prop):Prop:=
 wpH P (Instr.buildSlice 23 4 #[(0,.string ({ data:=#[52] }:ByteArray)),(1,.string ({ data:=#[50] }:ByteArray)),(2,.string ({ data:=#[50] }:ByteArray)),(3,.string ({ data:=#[49] }:ByteArray))]) (fun O Q=>∃ (c:OA) (d e:Nat),O= .slice c d e/\FCall P Jo #[.agg #[I 2,I 2,.slice c d e]] Q (fun R S=>∃ (C:Int) (D:Int) (f:OA) (g i:Nat) (j:OA) (k l:Nat) (m:Bool) (n:Int),R= .tuple #[.agg #[I C,I D,.slice f g i,.slice j k l],.bool m,I n]/\wpH P (Instr.buildSlice 23 4 #[(0,.string ({ data:=#[48] }:ByteArray)),(1,.string ({ data:=#[49] }:ByteArray)),(2,.string ({ data:=#[49] }:ByteArray)),(3,.string ({ data:=#[48] }:ByteArray))]) (fun T V=>∃ (o:OA) (p q:Nat),T= .slice o p q/\FCall P Jo #[.agg #[I 2,I 2,.slice o p q]] V (fun W a=>∃ (E:Int) (F:Int) (G:OA) (H J:Nat) (L:OA) (M N:Nat) (r:Bool) (s:Int),W= .tuple #[.agg #[I E,I F,.slice G H J,.slice L M N],.bool r,I s]/\Br m (Br (n==(0:Int)) (wpH P (Instr.buildSlice 23 2 #[(0,.string ({ data:=#[52] }:ByteArray)),(1,.string ({ data:=#[48] }:ByteArray))]) (fun X Z=>∃ (t:OA) (u v:Nat),X= .slice t u v/\FCall P Gv #[.slice j k l,.slice t u v] Z (fun a0 B=>∃ (w:Bool),a0= .bool w/\Br w (wpH P (Instr.buildSlice 23 4 #[(0,.string ({ data:=#[49] }:ByteArray)),(1,.string ({ data:=#[48] }:ByteArray)),(2,.string ({ data:=#[49,47,50] }:ByteArray)),(3,.string ({ data:=#[49] }:ByteArray))]) (fun a1 a2=>∃ (x:OA) (y z:Nat),a1= .slice x y z/\FCall P Gv #[.slice f g i,.slice x y z] a2 (fun a3 b=>∃ (A:Bool),a3= .bool A/\Br A (Br (!r) (K (.bool (s==(0:Int))) b)
 (K (.bool false) b))
 (K (.bool false) b))) B)
 (K (.bool false) B))) a)
 (K (.bool false) a))
 (K (.bool false) a))) S)) h
theorem A84 (hvc:B2a Tryz.prog  h K):FCall Tryz.prog Gu #[] h K:=
 B7 Tryz.func33 (c:=C2 Tryz.f33) (by kernel_rfl) (rs:=[.tmp 0]) (by kernel_rfl) (fa:=⟨[],[],[],[],[]⟩)
  (cfg:=⟨47,[1,4],none,[49,60],[],false⟩) (args:=[]) (by kernel_rfl) (B0 Tryz.call49 (B0 Tryz.call60 Bodies.nil)) (Eq.mp (by kernel_rfl) hvc)
def Hi(P:Program)(b:Int)(c:Int)(d:OA)(e f:Nat)(h:Heap)(K:Value->Heap->Prop):Prop:=
 FCall P Bu #[.agg #[I b,I c,.slice d e f],I 5,I 12] h (fun v p=>∃ (i:Bool),v= .bool i/\Br (!i) (FCall P Gu #[] p (fun w x=>∃ (j:Bool),w= .bool j/\K (.bool j) x))
 (FCall P Pm #[.agg #[I b,I c,.slice d e f]] p (fun y z=>∃ (q:OA) (r s:Nat) (g:Int),y= .tuple #[.slice q r s,I g]/\FCall P Lk #[.agg #[I b,I c,.slice d e f]] z (fun A a=>∃ (t:OA) (k u:Nat) (l:Bool) (m:Int),A= .tuple #[.slice t k u,.bool l,I m]/\Br (g==m) (Br (g==(0:Int)) (FCall P Gu #[] a (fun B C=>∃ (n:Bool),B= .bool n/\K (.bool n) C))
 (Br (!l) (Br ((k:Int)==(0:Int)) (FCall P Gu #[] a (fun D E=>∃ (o:Bool),D= .bool o/\K (.bool o) E))
 (K (.bool false) a))
 (K (.bool false) a)))
 (K (.bool false) a)))))
theorem Ly(a:Int)(b:Int)(d:OA)(e f:Nat)(hvc:Hi Tryz.prog a b d e f h K):FCall Tryz.prog Ei #[.agg #[I a,I b,.slice d e f]] h K:=
 B7 Tryz.func6 (c:=C2 Tryz.f6) (by kernel_rfl) (rs:=[.tmp 2]) (by kernel_rfl) (fa:=⟨[],[],[],[],[]⟩)
  (cfg:=⟨42,[1],none,[24,33,36,41],[],false⟩) (args:=[.agg #[I a,I b,.slice d e f]]) (by kernel_rfl) (B0 Tryz.call24 (B0 Tryz.call33 (B0 Tryz.call36 (B0 Tryz.call41 Bodies.nil)))) (Eq.mp (by kernel_rfl) hvc)
end Go.Proofs.YtajkakhfcokljaaGreatDoor
