/-
  Texts of this proof, merged by a program of ours.
-/
import Derived.Test.YtajkakhfcokljaaGreatDoorProg
import Derived.Test.YtajkakhfcokljaaGreatDoorG05
import Derived.Test.YtajkakhfcokljaaGreatDoorG12
import Derived.Test.YtajkakhfcokljaaGreatDoorG06
import Derived.Test.YtajkakhfcokljaaGreatDoorG09
import Derived.Test.YtajkakhfcokljaaGreatDoorG26
import Derived.Test.YtajkakhfcokljaaGreatDoorG08
namespace Go.Proofs.YtajkakhfcokljaaGreatDoor
open Go
set_option maxRecDepth 100000
set_option linter.unusedVariables false
variable {h:Heap} {K:Value->Heap->Prop}
abbrev Lg:Nat:=104
abbrev Cm:Nat:=97
abbrev Q0:Nat:=136
abbrev B6q:Nat:=70
abbrev Ph:Nat:=137
abbrev B6x:Nat:=20
abbrev Hy:Nat:=66
abbrev A0s:Nat:=67
abbrev B6w:Nat:=77
abbrev B8v:Nat:=15
abbrev B3c:Nat:=17
abbrev B9n:Nat:=22
abbrev B1k:Nat:=47
abbrev B8u:Nat:=127
abbrev B4k:Nat:=186
abbrev B8w:Nat:=26
abbrev B70:Nat:=129
abbrev B1l:Nat:=151
abbrev B4i:Nat:=74
abbrev B5l:Nat:=59
abbrev B8x:Nat:=25
abbrev B4j:Nat:=125
abbrev A9z:Nat:=117
abbrev B00:Nat:=75
abbrev B6y:Nat:=76
abbrev Hx:Nat:=68
abbrev Pn:Nat:=144
abbrev B87:Nat:=142
abbrev B88:Nat:=141
abbrev Uz:Nat:=143
abbrev B5s:Nat:=69
abbrev Uu:Nat:=135
abbrev Fq:Nat:=191
abbrev B5m:Nat:=62
abbrev B5k:Nat:=63
abbrev B7y:Nat:=133
abbrev B78:Nat:=21
abbrev A0t:Nat:=35
abbrev B84:Nat:=64
abbrev B7a:Nat:=107
abbrev B82:Nat:=65
abbrev B85:Nat:=168
abbrev B83:Nat:=93
abbrev B79:Nat:=92
abbrev B90:Nat:=102
abbrev B91:Nat:=103
abbrev B4m:Nat:=187
abbrev B8z:Nat:=16
abbrev B3g:Nat:=18
abbrev B9o:Nat:=23
abbrev B5q:Nat:=128
abbrev Uw:Nat:=14
abbrev Bu:Nat:=24
abbrev Gv:Nat:=60
abbrev B80:Nat:=61
abbrev B3e:Nat:=19
abbrev B8y:Nat:=29
abbrev B72:Nat:=13
abbrev B1n:Nat:=3
abbrev Zk:Nat:=4
abbrev To:Nat:=203
abbrev Of:Nat:=111
abbrev Kp:Nat:=98
abbrev B7h:Nat:=25
abbrev B7g:Nat:=118
abbrev B6n:Nat:=45
abbrev Kq:Nat:=3
abbrev An:Nat:=95
abbrev G0:Nat:=106
theorem B4x:SliceT Tryz.prog An G0 (.agg #[.bool false,.slice none 0 0,.bool false,.slice none 0 0]) 4 64:=⟨by kernel_rfl,by kernel_rfl,rfl,by decide⟩
theorem A1r:Tryz.prog.cellsOf G0=4/\(Tryz.prog.info? G0).isSome=true:=⟨by kernel_rfl,by kernel_rfl⟩
abbrev Md:Nat:=109
abbrev Ik:Nat:=102
theorem tZs:SliceT Tryz.prog Md Ik (.agg #[.bool false,.slice none 0 0]) 2 32:=⟨by kernel_rfl,by kernel_rfl,rfl,by decide⟩
theorem Zy:Tryz.prog.cellsOf Ik=2/\(Tryz.prog.info? Ik).isSome=true:=⟨by kernel_rfl,by kernel_rfl⟩
abbrev B2m:Nat:=52
abbrev Og:Nat:=58
theorem B9l:SliceT Tryz.prog B2m Og (.slice none 0 0) 1 24:=⟨by kernel_rfl,by kernel_rfl,rfl,by decide⟩
theorem A99:Tryz.prog.cellsOf Og=1/\(Tryz.prog.info? Og).isSome=true:=⟨by kernel_rfl,by kernel_rfl⟩
abbrev B6m:Nat:=114
abbrev B4e:Nat:=118
abbrev B4t:Nat:=22
abbrev B2l:Nat:=23
def A2n(P:Program)(x:OA)(c B:Nat)(h:Heap)(K:Value->Heap->Prop):Prop:=
 wpH P (Instr.makeSlice 95 (I (c:Int)) (I (c:Int))) (fun y z=>∃ (d:OA) (e g:Nat),y= .slice d e g/\∃ (f:List Value->Heap->Prop) (i:List Value->Heap->Nat),f [I 0] z/\
 ∀ (a:Int),∀ b,f [I a] b->Br (decide (a<(c:Int))) (∃ v,x=some v/\0<=a/\a<(c:Int)/\∃ (j:ByteArray),b.cell? (v.add (a.toNat*1))=some (.string j)/\FCall P A0m #[.string j] b (fun A t=>∃ (k:Bool) (l:OA) (m n:Nat) (o:Bool) (p:OA) (q r:Nat) (s:Bool),A= .tuple #[.agg #[.bool k,.slice l m n,.bool o,.slice p q r],.bool s]/\Br (!s) (K (.tuple #[.slice none 0 0,.bool false]) t)
 (∃ w,d=some w/\0<=a/\a<(e:Int)/\wpH P (Instr.storeAt 106 (.pointer (some (w.add (a.toNat*4)))) (.agg #[.bool k,.slice l m n,.bool o,.slice p q r])) (fun _ u=>f [I (B4 (a+1))] u/\i [I (B4 (a+1))] u<i [I a] b) t)))
 (K (.tuple #[.slice d e g,.bool true]) b)) h
theorem A1a(a:OA)(b d:Nat)(hvc:A2n Tryz.prog a b d h K):FCall Tryz.prog Lg #[.slice a b d] h K:=
 B7 Tryz.func104 (c:=C2 Tryz.f104) (by kernel_rfl) (rs:=[.tmp 2,.tmp 3]) (by kernel_rfl) (fa:=⟨[(3,⟨[14],[],[.int .i64 0],⟨([2,3,5,6,7,8]++Lrg 14 17),[7]⟩⟩)],[],[],[],[]⟩)
  (cfg:=⟨32,[7],none,[83],[],false⟩) (args:=[.slice a b d]) (by kernel_rfl) (B0 Tryz.call83 Bodies.nil) (Eq.mp (by kernel_rfl) hvc)
def A2m(P:Program)(v:OA)(d A:Nat)(h:Heap)(K:Value->Heap->Prop):Prop:=
 wpH P (Instr.makeSlice 23 (I (d:Int)) (I (d:Int))) (fun w x=>∃ (e:OA) (f i:Nat),w= .slice e f i/\∃ (g:List Value->Heap->Prop) (j:List Value->Heap->Nat),g [I 0] x/\
 ∀ (a:Int),∀ b,g [I a] b->Br (decide (a<(d:Int))) (∃ c,v=some c/\0<=a/\a<(d:Int)/\∃ (k:Bool) (l:OA) (m n:Nat) (o:Bool) (p:OA) (q r:Nat),b.cell? (Addr.add (c.add (a.toNat*4)) 0)=some (.bool k)/\b.cell? (Addr.add (c.add (a.toNat*4)) 1)=some (.slice l m n)/\b.cell? (Addr.add (c.add (a.toNat*4)) 2)=some (.bool o)/\b.cell? (Addr.add (c.add (a.toNat*4)) 3)=some (.slice p q r)/\FCall P Pg #[.agg #[.bool k,.slice l m n,.bool o,.slice p q r]] b (fun y z=>∃ (s:ByteArray),y= .string s/\∃ u,e=some u/\0<=a/\a<(f:Int)/\wpH P (Instr.storeAt 9 (.pointer (some (u.add (a.toNat*1)))) (.string s)) (fun _ t=>g [I (B4 (a+1))] t/\j [I (B4 (a+1))] t<j [I a] b) z))
 (K (.slice e f i) b)) h
theorem A19(a:OA)(b d:Nat)(hvc:A2m Tryz.prog a b d h K):FCall Tryz.prog Cm #[.slice a b d] h K:=
 B7 Tryz.func97 (c:=C2 Tryz.f97) (by kernel_rfl) (rs:=[.tmp 2]) (by kernel_rfl) (fa:=⟨[(3,⟨[11],[],[.int .i64 0],⟨([4,5]++Lrg 11 11),[5]⟩⟩)],[],[],[],[]⟩)
  (cfg:=⟨23,[5],none,[73],[],false⟩) (args:=[.slice a b d]) (by kernel_rfl) (B0 Tryz.call73 Bodies.nil) (Eq.mp (by kernel_rfl) hvc)
def Bp(P:Program)(C:OA)(u O:Nat)(h:Heap)(K:Value->Heap->Prop):Prop:=
 FCall P Pf #[I 1] h (fun H J=>∃ (v:Bool) (w:OA) (x y:Nat),H= .agg #[.bool v,.slice w x y]/\∃ (i:List Value->Heap->Prop) (g:List Value->Heap->Nat),i [I 0,.bool v,.slice w x y] J/\
 ∀ (a:Int) (b:Bool) (c:OA) (d e:Nat),∀ f,i [I a,.bool b,.slice c d e] f->Br (decide (a<(u:Int))) (∃ j,C=some j/\0<=a/\a<(u:Int)/\∃ (D:Bool) (E:OA) (F G:Nat) (k:Bool) (l:OA) (m n:Nat),f.cell? (Addr.add (j.add (a.toNat*4)) 0)=some (.bool D)/\f.cell? (Addr.add (j.add (a.toNat*4)) 1)=some (.slice E F G)/\f.cell? (Addr.add (j.add (a.toNat*4)) 2)=some (.bool k)/\f.cell? (Addr.add (j.add (a.toNat*4)) 3)=some (.slice l m n)/\FCall P E9 #[.agg #[.bool k,.slice l m n]] f (fun L s=>∃ (z:Bool),L= .bool z/\Br (!z) (FCall P Up #[.agg #[.bool k,.slice l m n],.agg #[.bool b,.slice c d e]] s (fun M t=>∃ (A:Bool),M= .bool A/\Br (!A) (FCall P A6m #[.agg #[.bool b,.slice c d e],.agg #[.bool k,.slice l m n]] t (fun N B=>∃ (o:Bool) (p:OA) (q r:Nat),N= .agg #[.bool o,.slice p q r]/\i [I (B4 (a+1)),.bool o,.slice p q r] B/\g [I (B4 (a+1)),.bool o,.slice p q r] B<g [I a,.bool b,.slice c d e] f))
 (i [I (B4 (a+1)),.bool b,.slice c d e] t/\g [I (B4 (a+1)),.bool b,.slice c d e] t<g [I a,.bool b,.slice c d e] f)))
 (i [I (B4 (a+1)),.bool b,.slice c d e] s/\g [I (B4 (a+1)),.bool b,.slice c d e] s<g [I a,.bool b,.slice c d e] f)))
 (K (.agg #[.bool b,.slice c d e]) f))
theorem Gh(a:OA)(b d:Nat)(hvc:Bp Tryz.prog a b d h K):FCall Tryz.prog Q0 #[.slice a b d] h K:=
 B7 Tryz.func136 (c:=C2 Tryz.f136) (by kernel_rfl) (rs:=[.cell 2 102]) (by kernel_rfl) (fa:=⟨[(3,⟨[9],[(3,2)],[.int .i64 0,.bool false,.slice none 0 0],⟨([5]++Lrg 9 20),[3,5]⟩⟩)],[],[],[],[]⟩)
  (cfg:=⟨30,[2,3,5],none,[138,139,192,193],[],false⟩) (args:=[.slice a b d]) (by kernel_rfl) (B0 Tryz.call138 (B0 Tryz.call139 (B0 Tryz.call192 (B0 Tryz.call193 Bodies.nil)))) (Eq.mp (by kernel_rfl) hvc)
def A80(P:Program)(c:Bool)(d:OA)(e f:Nat)(g:Bool)(i:OA)(j k:Nat)(l:Bool)(m:OA)(n o:Nat)(h:Heap)(K:Value->Heap->Prop):Prop:=
 FCall P E9 #[.agg #[.bool g,.slice i j k]] h (fun D a=>∃ (p:Bool),D= .bool p/\Br p (FCall P Cl #[.agg #[.bool c,.slice d e f],.agg #[.bool l,.slice m n o]] a (fun E F=>∃ (q:Bool) (r:OA) (s t:Nat),E= .agg #[.bool q,.slice r s t]/\K (.agg #[.bool q,.slice r s t]) F))
 (FCall P Ck #[.agg #[.bool l,.slice m n o],.agg #[.bool g,.slice i j k]] a (fun G b=>∃ (u:Bool) (v:OA) (w x:Nat),G= .agg #[.bool u,.slice v w x]/\Heap.le a b/\FCall P Cl #[.agg #[.bool c,.slice d e f],.agg #[.bool u,.slice v w x]] b (fun H C=>∃ (y:Bool) (z:OA) (A B:Nat),H= .agg #[.bool y,.slice z A B]/\Heap.le b C/\K (.agg #[.bool y,.slice z A B]) C))))
theorem A48(a:Bool)(b:OA)(d e:Nat)(f:Bool)(g:OA)(i j:Nat)(k:Bool)(l:OA)(m n:Nat)(hvc:A80 Tryz.prog a b d e f g i j k l m n h K):FCall Tryz.prog Ph #[.agg #[.bool a,.slice b d e,.bool f,.slice g i j],.agg #[.bool k,.slice l m n]] h K:=
 B7 Tryz.func137 (c:=C2 Tryz.f137) (by kernel_rfl) (rs:=[.cell 4 102]) (by kernel_rfl) (fa:=⟨[],[],[(3,((Lrg 0 8),[[],[0],[],[],[3],[2,3,4],[0,1,2,3,4,5],[0,1,2,3,4,5,6]]))],[],[]⟩)
  (cfg:=⟨19,[2,3,4],none,[138,140,154],[],false⟩) (args:=[.agg #[.bool a,.slice b d e,.bool f,.slice g i j],.agg #[.bool k,.slice l m n]]) (by kernel_rfl) (B0 Tryz.call138 (B0 Tryz.call140 (B0 Tryz.call154 Bodies.nil))) (Eq.mp (by kernel_rfl) hvc)
def Zb(P:Program)(a:Int)(b:Int)(d:OA)(c e:Nat)(h:Heap)(K:Value->Heap->Prop):Prop:=
 Br (decide ((1:Int)<=a)) (Br (decide (a<=(64:Int))) (Br (decide ((1:Int)<=b)) (Br (decide (b<=(64:Int))) (K (.bool ((c:Int)==(B4 (a*b)))) h)
 (K (.bool false) h))
 (K (.bool false) h))
 (K (.bool false) h))
 (K (.bool false) h)
theorem Za(a:Int)(b:Int)(d:OA)(e f:Nat)(hvc:Zb Tryz.prog a b d e f h K):FCall Tryz.prog Hy #[.agg #[I a,I b,.slice d e f]] h K:=
 B7 Tryz.func66 (c:=C2 Tryz.f66) (by kernel_rfl) (rs:=[.tmp 2]) (by kernel_rfl) (fa:=⟨[],[],[],[],[]⟩)
  (cfg:=⟨32,[1],none,[],[],false⟩) (args:=[.agg #[I a,I b,.slice d e f]]) (by kernel_rfl) Bodies.nil (Eq.mp (by kernel_rfl) hvc)
def B6h(P:Program)(k:Int)(l:Int)(a:OA)(b c:Nat)(h:Heap)(K:Value->Heap->Prop):Prop:=
 FCall P Hy #[.agg #[I k,I l,.slice a b c]] h (fun m j=>∃ (d:Bool),m= .bool d/\Br (!d) (K (.tuple #[.slice none 0 0,.bool false]) j)
 (FCall P Lg #[.slice a b c] j (fun n o=>∃ (e:OA) (f g:Nat) (i:Bool),n= .tuple #[.slice e f g,.bool i]/\K (.tuple #[.slice e f g,.bool i]) o)))
theorem B0x(a:Int)(b:Int)(d:OA)(e f:Nat)(hvc:B6h Tryz.prog a b d e f h K):FCall Tryz.prog A0s #[.agg #[I a,I b,.slice d e f]] h K:=
 B7 Tryz.func67 (c:=C2 Tryz.f67) (by kernel_rfl) (rs:=[.tmp 2,.tmp 3]) (by kernel_rfl) (fa:=⟨[],[],[],[],[]⟩)
  (cfg:=⟨12,[1],none,[66,104],[],false⟩) (args:=[.agg #[I a,I b,.slice d e f]]) (by kernel_rfl) (B0 Tryz.call66 (B0 Tryz.call104 Bodies.nil)) (Eq.mp (by kernel_rfl) hvc)
def Yz(P:Program)(m3:OA)(m4 m5:Nat)(b7:Int)(h:Heap)(K:Value->Heap->Prop):Prop:=
 wpH P (Instr.box 111 (.agg #[I b7,.slice none 0 0,.slice none 0 0])) (fun n1 n2=>∃ (b8:Addr),n1= .pointer (some b8)/\wpH P (Instr.alloc 98 true (.tuple #[])) (fun n3 n4=>∃ (b:Addr),n3= .pointer (some b)/\wpH P (Instr.storeAt 98 (.pointer (some b)) (.pointer (some b8))) (fun _ n5=>FCall P Uu #[.slice m3 m4 m5,I b7] n5 (fun n6 n7=>∃ (b9:Value),n6=b9/\A2q P (b9) n7 (fun (m6:List Value) (m7:Heap) (x:Heap->Prop)=>∃ (W:OA) (y c0:Nat),m6=[.slice W y c0]/\FCall P Q0 #[.slice W y c0] m7 (fun n8 b4=>∃ (z:Bool) (A:OA) (B C:Nat),n8= .agg #[.bool z,.slice A B C]/\∃ (c1:OA),b4.cell? b=some (.pointer c1)/\∃ l0,c1=some l0/\∃ (m8:OA) (f m9:Nat),b4.cell? (l0.add 1)=some (.slice m8 f m9)/\∃ (s:List Value->Heap->Prop) (q:List Value->Heap->Nat),s [I 0,.bool false,.slice none 0 0] b4/\
 ∀ (a:Int) (g:Bool) (i:OA) (j k:Nat),∀ e,s [I a,.bool g,.slice i j k] e->Br (decide (a<(y:Int))) (∃ w,W=some w/\0<=a/\a<(y:Int)/\∃ (c2:Bool) (c3:OA) (c4 c5:Nat) (c6:Bool) (c7:OA) (c8 c9:Nat),e.cell? (Addr.add (w.add (a.toNat*4)) 0)=some (.bool c2)/\e.cell? (Addr.add (w.add (a.toNat*4)) 1)=some (.slice c3 c4 c5)/\e.cell? (Addr.add (w.add (a.toNat*4)) 2)=some (.bool c6)/\e.cell? (Addr.add (w.add (a.toNat*4)) 3)=some (.slice c7 c8 c9)/\FCall P Ph #[.agg #[.bool c2,.slice c3 c4 c5,.bool c6,.slice c7 c8 c9],.agg #[.bool z,.slice A B C]] e (fun n9 o0=>∃ (D:Bool) (E:OA) (F G:Nat),n9= .agg #[.bool D,.slice E F G]/\FCall P Ml #[.agg #[.bool g,.slice i j k],.agg #[.bool D,.slice E F G]] o0 (fun o1 p=>∃ (l:Bool) (m:OA) (n o:Nat),o1= .agg #[.bool l,.slice m n o]/\∃ (d0:OA),p.cell? b=some (.pointer d0)/\∃ l1,d0=some l1/\∃ (H:OA) (J L:Nat),p.cell? (l1.add 1)=some (.slice H J L)/\(∃ (d1:OA),p.cell? b=some (.pointer d1)/\wpH P (Instr.buildSlice 109 1 #[(0,.agg #[.bool D,.slice E F G])]) (fun o2 j8=>∃ (d2:OA) (d3 d4:Nat),o2= .slice d2 d3 d4/\Heap.le p j8/\wpH P (Builtin.append_ #[109,109] 109 #[.slice H J L,.slice d2 d3 d4]) (fun o3 o4=>∃ (d5:OA) (d6 d7:Nat),o3= .slice d5 d6 d7/\∃ l2,d1=some l2/\wpH P (Instr.storeAt 109 (.pointer (some (l2.add 1))) (.slice d5 d6 d7)) (fun _ j9=>s [I (B4 (a+1)),.bool l,.slice m n o] j9/\q [I (B4 (a+1)),.bool l,.slice m n o] j9<q [I a,.bool g,.slice i j k] e) o4) j8) p)/\(wpH P (Instr.buildSlice 109 1 #[(0,.agg #[.bool D,.slice E F G])]) (fun o5 S=>∃ (X:OA) (Z a0:Nat),o5= .slice X Z a0/\Heap.le p S/\(∃ (d8:OA),S.cell? b=some (.pointer d8)/\wpH P (Builtin.append_ #[109,109] 109 #[.slice H J L,.slice X Z a0]) (fun o6 o7=>∃ (d9:OA) (e0 e1:Nat),o6= .slice d9 e0 e1/\∃ l3,d8=some l3/\wpH P (Instr.storeAt 109 (.pointer (some (l3.add 1))) (.slice d9 e0 e1)) (fun _ k0=>s [I (B4 (a+1)),.bool l,.slice m n o] k0/\q [I (B4 (a+1)),.bool l,.slice m n o] k0<q [I a,.bool g,.slice i j k] e) o7) S)/\(wpH P (Builtin.append_ #[109,109] 109 #[.slice H J L,.slice X Z a0]) (fun o8 k1=>∃ (e2:OA) (e3 e4:Nat),o8= .slice e2 e3 e4/\∃ (e5:OA),k1.cell? b=some (.pointer e5)/\∃ l4,e5=some l4/\wpH P (Instr.storeAt 109 (.pointer (some (l4.add 1))) (.slice e2 e3 e4)) (fun _ k2=>s [I (B4 (a+1)),.bool l,.slice m n o] k2/\q [I (B4 (a+1)),.bool l,.slice m n o] k2<q [I a,.bool g,.slice i j k] e) k1) S)) p))))
 (∃ (a1:List Value->Heap->Prop),(FCall P E9 #[.agg #[.bool g,.slice i j k]] e (fun o9 k3=>∃ (e6:Bool),o9= .bool e6/\Br e6 (FCall P Pf #[I 1] k3 (fun p0 p1=>∃ (e7:Bool) (e8:OA) (e9 f0:Nat),p0= .agg #[.bool e7,.slice e8 e9 f0]/\a1 [.bool e7,.slice e8 e9 f0] p1))
 (a1 [.bool g,.slice i j k] k3)))/\
 ∀ (M:Bool) (N:OA) (O Q:Nat),∀ V,a1 [.bool M,.slice N O Q] V->∃ (f1:OA),V.cell? b=some (.pointer f1)/\∃ l5,f1=some l5/\∃ (f2:OA) (R f3:Nat),V.cell? (l5.add 1)=some (.slice f2 R f3)/\(0<=(f:Int)/\(f:Int)<=(R:Int))/\∃ (a2:List Value->Heap->Prop) (f4:List Value->Heap->Nat),a2 [I 0] V/\
 ∀ (d:Int),∀ c,a2 [I d] c->Br (decide (d<((R-(((f:Int)).toNat):Nat):Int))) (∃ b6,J6 f2 f3 (((f:Int)).toNat) 2=some b6/\0<=d/\d<((R-(((f:Int)).toNat):Nat):Int)/\∃ (f5:Bool) (f6:OA) (f7 f8:Nat),c.cell? (Addr.add (b6.add (d.toNat*2)) 0)=some (.bool f5)/\c.cell? (Addr.add (b6.add (d.toNat*2)) 1)=some (.slice f6 f7 f8)/\∃ (f9:OA),c.cell? b=some (.pointer f9)/\∃ l6,f9=some l6/\∃ (g0:OA) (g1 n0:Nat),c.cell? (l6.add 1)=some (.slice g0 g1 n0)/\FCall P Ck #[.agg #[.bool f5,.slice f6 f7 f8],.agg #[.bool M,.slice N O Q]] c (fun p2 k4=>∃ (g2:Bool) (g3:OA) (g4 g5:Nat),p2= .agg #[.bool g2,.slice g3 g4 g5]/\Heap.le c k4/\∃ l7,g0=some l7/\0<=B4 ((f:Int)+d)/\B4 ((f:Int)+d)<(g1:Int)/\wpH P (Instr.storeAt 102 (.pointer (some (l7.add ((B4 ((f:Int)+d)).toNat*2)))) (.agg #[.bool g2,.slice g3 g4 g5])) (fun _ k5=>a2 [I (B4 (d+1))] k5/\f4 [I (B4 (d+1))] k5<f4 [I d] c) k4))
 (∃ (g6:OA),c.cell? b=some (.pointer g6)/\∃ l8,g6=some l8/\∃ (t:OA) (u v:Nat),c.cell? (l8.add 2)=some (.slice t u v)/\(∃ (g7:OA),c.cell? b=some (.pointer g7)/\FCall P Ax #[.agg #[.bool z,.slice A B C],.agg #[.bool M,.slice N O Q]] c (fun p3 b5=>∃ (g8:Bool) (g9:OA) (h0 h1:Nat) (h2:Bool) (h3:OA) (h4 h5:Nat),p3= .agg #[.bool g8,.slice g9 h0 h1,.bool h2,.slice h3 h4 h5]/\Heap.le c b5/\wpH P (Instr.buildSlice 95 1 #[(0,.agg #[.bool g8,.slice g9 h0 h1,.bool h2,.slice h3 h4 h5])]) (fun p4 k6=>∃ (h6:OA) (h7 h8:Nat),p4= .slice h6 h7 h8/\Heap.le b5 k6/\wpH P (Builtin.append_ #[95,95] 95 #[.slice t u v,.slice h6 h7 h8]) (fun p5 p6=>∃ (h9:OA) (i0 i1:Nat),p5= .slice h9 i0 i1/\∃ l9,g7=some l9/\wpH P (Instr.storeAt 95 (.pointer (some (l9.add 2))) (.slice h9 i0 i1)) (fun _ p7=>x p7) p6) k6) b5))/\(FCall P Ax #[.agg #[.bool z,.slice A B C],.agg #[.bool M,.slice N O Q]] c (fun p8 r=>∃ (a3:Bool) (a4:OA) (a5 a6:Nat) (a7:Bool) (a8:OA) (a9 b0:Nat),p8= .agg #[.bool a3,.slice a4 a5 a6,.bool a7,.slice a8 a9 b0]/\Heap.le c r/\(∃ (i2:OA),r.cell? b=some (.pointer i2)/\wpH P (Instr.buildSlice 95 1 #[(0,.agg #[.bool a3,.slice a4 a5 a6,.bool a7,.slice a8 a9 b0])]) (fun p9 k7=>∃ (i3:OA) (i4 i5:Nat),p9= .slice i3 i4 i5/\Heap.le r k7/\wpH P (Builtin.append_ #[95,95] 95 #[.slice t u v,.slice i3 i4 i5]) (fun q0 q1=>∃ (i6:OA) (i7 i8:Nat),q0= .slice i6 i7 i8/\∃ m0,i2=some m0/\wpH P (Instr.storeAt 95 (.pointer (some (m0.add 2))) (.slice i6 i7 i8)) (fun _ q2=>x q2) q1) k7) r)/\(wpH P (Instr.buildSlice 95 1 #[(0,.agg #[.bool a3,.slice a4 a5 a6,.bool a7,.slice a8 a9 b0])]) (fun q3 T=>∃ (b1:OA) (b2 b3:Nat),q3= .slice b1 b2 b3/\Heap.le r T/\(∃ (i9:OA),T.cell? b=some (.pointer i9)/\wpH P (Builtin.append_ #[95,95] 95 #[.slice t u v,.slice b1 b2 b3]) (fun q4 q5=>∃ (j0:OA) (j1 j2:Nat),q4= .slice j0 j1 j2/\∃ m1,i9=some m1/\wpH P (Instr.storeAt 95 (.pointer (some (m1.add 2))) (.slice j0 j1 j2)) (fun _ q6=>x q6) q5) T)/\(wpH P (Builtin.append_ #[95,95] 95 #[.slice t u v,.slice b1 b2 b3]) (fun q7 k8=>∃ (j3:OA) (j4 j5:Nat),q7= .slice j3 j4 j5/\∃ (j6:OA),k8.cell? b=some (.pointer j6)/\∃ m2,j6=some m2/\wpH P (Instr.storeAt 95 (.pointer (some (m2.add 2))) (.slice j3 j4 j5)) (fun _ q8=>x q8) k8) T)) r)))))))
 (fun k9=>∃ (j7:OA),k9.cell? b=some (.pointer j7)/\K (.pointer j7) k9))) n4) n2) h
theorem Yy(a:OA)(b d:Nat)(e:Int)(hvc:Yz Tryz.prog a b d e h K):FCall Tryz.prog Hx #[.slice a b d,I e] h K:=
 B7 Tryz.func68 (c:=C2 Tryz.f68) (by kernel_rfl) (rs:=[.tmp 4]) (by kernel_rfl) (fa:={ loops:=[(8,⟨[31],[(9,2)],[.int .i64 0,.bool false,.slice none 0 0],⟨([11,12]++Lrg 31 21),[9,11,12]⟩⟩),(17,⟨[62],[],[.int .i64 0],⟨([13,14]++Lrg 62 17),[14]⟩⟩)],cuts:=[(16,⟨[],[(9,2)],[.bool false,.slice none 0 0],⟨[52,53,54],[9]⟩⟩)],orders:=[(12,([1,2,3,4,5,0,6,7,8,9,10],[[],[],[1],[1,2],[1,2,3],[],[5],[1,2,3,4,5,6],(Lrg 0 8),(Lrg 0 9),(Lrg 0 10)])),(19,((Lrg 0 12),[[],[0],[0,1],[0,1,2],[],[],[4,5],[],[],[7,8],(Lrg 0 10),(Lrg 0 11)])),(21,([1,2,3,4,5,6,0,7,8,9,10,11,12],[[],[],[1],[1,2],[1,2,3],[],[],[5,6],[5,6,7],(Lrg 1 8),(Lrg 0 10),(Lrg 0 11),(Lrg 0 12)]))],alts:=[(12,[(0,[6,7])]),(21,[(0,[7,8,9])])],rounds:=[(4,[.slice none 0 0])] })
  (cfg:=⟨92,[7,9,11,12,14],none,[115,132,135,136,137,138,139,140],[1000000000],false⟩) (args:=[.slice a b d,I e]) (by kernel_rfl) (B0 Tryz.call115 (B0 Tryz.call132 (B0 Tryz.call135 (B0 Tryz.call136 (B0 Tryz.call137 (B0 Tryz.call138 (B0 Tryz.call139 (B0 Tryz.call140 Bodies.nil)))))))) (Eq.mp (by kernel_rfl) hvc)
def B9h(P:Program)(e:OA)(a:Int)(h:Heap)(K:Value->Heap->Prop):Prop:=
 ∃ g,e=some g/\∃ (f:OA) (k d:Nat),h.cell? (g.add 1)=some (.slice f k d)/\∃ i,e=some i/\∃ (b:Int),h.cell? (i.add 0)=some (I b)/\∃ j,e=some j/\∃ (c:Int),h.cell? (j.add 0)=some (I c)/\(0<=B4 ((B4 (a+1))*c)/\B4 ((B4 (a+1))*c)<=(d:Int))/\(0<=B4 (a*b)/\B4 (a*b)<=(((B4 ((B4 (a+1))*c)).toNat:Nat):Int))/\K (.slice (J6 f d ((B4 (a*b)).toNat) 2) (((B4 ((B4 (a+1))*c)).toNat)-((B4 (a*b)).toNat)) (d-((B4 (a*b)).toNat))) h
theorem B4c(a:OA)(b:Int)(hvc:B9h Tryz.prog a b h K):FCall Tryz.prog Pn #[.pointer a,I b] h K:=
 B7 Tryz.func144 (c:=C2 Tryz.f144) (by kernel_rfl) (rs:=[.tmp 4]) (by kernel_rfl) (fa:=⟨[],[],[(1,((Lrg 0 19),[[],[0],[0,1],[0,1,2],[],[],[5],[5,6],[5,6,7],[4,5,6,7,8],[],[10],[],[12],[12,13],[12,13,14],[10,11,12,13,14,15],(Lrg 0 17),(Lrg 0 18)]))],[],[]⟩)
  (cfg:=⟨23,[],none,[],[],false⟩) (args:=[.pointer a,I b]) (by kernel_rfl) Bodies.nil (Eq.mp (by kernel_rfl) hvc)
def B2j(P:Program)(F:OA)(b4:Int)(b5:Int)(b:Int)(b6:Bool)(b7:OA)(b8 b9:Nat)(h:Heap)(K:Value->Heap->Prop):Prop:=
 FCall P Pn #[.pointer F,I b4] h (fun c2 c3=>∃ (i:OA) (e c0:Nat),c2= .slice i e c0/\FCall P Pn #[.pointer F,I b5] c3 (fun c4 v=>∃ (j:OA) (k c1:Nat),c4= .slice j k c1/\∃ A,i=some A/\0<=b/\b<(e:Int)/\∃ (m:Bool) (n:OA) (o p:Nat),v.cell? (Addr.add (A.add (b.toNat*2)) 0)=some (.bool m)/\v.cell? (Addr.add (A.add (b.toNat*2)) 1)=some (.slice n o p)/\∃ (f:List Value->Heap->Prop) (d:List Value->Heap->Nat),f [I 0] v/\
 ∀ (a:Int),∀ c,f [I a] c->Br (decide (a<(e:Int))) (∃ B,i=some B/\0<=a/\a<(e:Int)/\∃ (q:Bool) (r:OA) (s t:Nat),c.cell? (Addr.add (B.add (a.toNat*2)) 0)=some (.bool q)/\c.cell? (Addr.add (B.add (a.toNat*2)) 1)=some (.slice r s t)/\∃ (u:List Value->Heap->Prop),(FCall P E9 #[.agg #[.bool q,.slice r s t]] c (fun c5 a8=>∃ (G:Bool),c5= .bool G/\Br G (FCall P E9 #[.agg #[.bool m,.slice n o p]] a8 (fun c6 g=>∃ (H:Bool),c6= .bool H/\Br H (f [I (B4 (a+1))] g/\d [I (B4 (a+1))] g<d [I a] c)
 (∃ C,j=some C/\0<=a/\a<(k:Int)/\∃ (J:Bool) (L:OA) (M N:Nat),g.cell? (Addr.add (C.add (a.toNat*2)) 0)=some (.bool J)/\g.cell? (Addr.add (C.add (a.toNat*2)) 1)=some (.slice L M N)/\FCall P E9 #[.agg #[.bool J,.slice L M N]] g (fun c7 w=>∃ (O:Bool),c7= .bool O/\Br O (f [I (B4 (a+1))] w/\d [I (B4 (a+1))] w<d [I a] c)
 (u [] w)))))
 (u [] a8)))/\
 ∀ b2,u [] b2->wpH P (Instr.alloc 203 true (.tuple #[])) (fun c8 x=>∃ (l:Addr),c8= .pointer (some l)/\∃ D,j=some D/\0<=b/\b<(k:Int)/\∃ (Q:Bool) (R:OA) (S T:Nat),x.cell? (Addr.add (D.add (b.toNat*2)) 0)=some (.bool Q)/\x.cell? (Addr.add (D.add (b.toNat*2)) 1)=some (.slice R S T)/\FCall P Ab #[.pointer (some l),.agg #[.bool Q,.slice R S T],.agg #[.bool q,.slice r s t]] x (fun c9 y=>c9= .tuple #[]/\∃ E,j=some E/\0<=a/\a<(k:Int)/\∃ (V:Bool) (W:OA) (X Z:Nat),y.cell? (Addr.add (E.add (a.toNat*2)) 0)=some (.bool V)/\y.cell? (Addr.add (E.add (a.toNat*2)) 1)=some (.slice W X Z)/\FCall P Dv #[.pointer (some l),.agg #[.bool m,.slice n o p],.agg #[.bool V,.slice W X Z]] y (fun d0 a9=>d0= .tuple #[]/\FCall P Us #[.pointer (some l)] a9 (fun d1 z=>∃ (a0:Bool) (a1:OA) (a2 a3:Nat),d1= .agg #[.bool a0,.slice a1 a2 a3]/\Heap.le a9 z/\FCall P Ck #[.agg #[.bool a0,.slice a1 a2 a3],.agg #[.bool b6,.slice b7 b8 b9]] z (fun d2 b0=>∃ (a4:Bool) (a5:OA) (a6 a7:Nat),d2= .agg #[.bool a4,.slice a5 a6 a7]/\Heap.le z b0/\∃ b3,i=some b3/\0<=a/\a<(e:Int)/\wpH P (Instr.storeAt 102 (.pointer (some (b3.add (a.toNat*2)))) (.agg #[.bool a4,.slice a5 a6 a7])) (fun _ b1=>f [I (B4 (a+1))] b1/\d [I (B4 (a+1))] b1<d [I a] c) b0))))) b2)
 (K (.tuple #[]) c)))
theorem A8o(a:OA)(b:Int)(d:Int)(e:Int)(f:Bool)(g:OA)(i j:Nat)(hvc:B2j Tryz.prog a b d e f g i j h K):FCall Tryz.prog Uz #[.pointer a,I b,I d,I e,.agg #[.bool f,.slice g i j]] h K:=
 B7 Tryz.func143 (c:=C2 Tryz.f143) (by kernel_rfl) (rs:=[]) (by kernel_rfl) (fa:=⟨[(4,⟨[28],[],[.int .i64 0],⟨([13,14,15]++Lrg 28 37),[14]⟩⟩)],[(7,⟨[],[],[],⟨(Lrg 33 13),[]⟩⟩)],[(8,([0,1,2,3,4,5],[[],[],[0,1],[0,1,2],[],[0,1,2,3,4]])),(9,([0,1,2,3,4,5],[[],[],[],[1,2],[1,2,3],[0,1,2,3,4]])),(10,([0,1,3,2,4,5,6],[[],[],[],[],[2,3],[0,1,2,3,4],[0,1,2,3,4,5]]))],[],[]⟩)
  (cfg:=⟨65,[9,12,14],none,[138,140,144,152,153,196],[152,196],false⟩) (args:=[.pointer a,I b,I d,I e,.agg #[.bool f,.slice g i j]]) (by kernel_rfl) (B0 Tryz.call138 (B0 Tryz.call140 (B0 Tryz.call144 (B0 Tryz.call152 (B0 Tryz.call153 (B0 Tryz.call196 Bodies.nil)))))) (Eq.mp (by kernel_rfl) hvc)
def B2c(P:Program)(e:OA)(f g:Nat)(i:Int)(h:Heap)(K:Value->Heap->Prop):Prop:=
 wpH P (Instr.box 95 (.slice e f g)) (fun j k=>∃ (b:Addr),j= .pointer (some b)/\wpH P (Instr.box 3 (I i)) (fun l d=>∃ (a:Addr),l= .pointer (some a)/\∃ (c:Int),d.cell? a=some (I c)/\Br (decide (c<(1:Int))) (False)
 (K (.func (.func 191) #[] #[.pointer (some b),.pointer (some a)]) d)) k) h
theorem A8d(a:OA)(b d:Nat)(e:Int)(hvc:B2c Tryz.prog a b d e h K):FCall Tryz.prog Uu #[.slice a b d,I e] h K:=
 B7 Tryz.func135 (c:=C2 Tryz.f135) (by kernel_rfl) (rs:=[.tmp 4]) (by kernel_rfl) (fa:=⟨[],[],[],[],[]⟩)
  (cfg:=⟨9,[],none,[],[],false⟩) (args:=[.slice a b d,I e]) (by kernel_rfl) Bodies.nil (Eq.mp (by kernel_rfl) hvc)
def A8e(P:Program)(p:Nat)(f:Addr)(j:Addr)(h:Heap)(K:Value->Heap->Prop):Prop:=
 ∃ (g:List Value->Heap->Prop) (k:List Value->Heap->Nat),g [I 0] h/\
 ∀ (a:Int),∀ d,g [I a] d->∃ (q:OA) (l r:Nat),d.cell? f=some (.slice q l r)/\Br (decide (a<(l:Int))) (∃ (c:Int),d.cell? j=some (I c)/\∃ (s:OA) (b t:Nat),d.cell? f=some (.slice s b t)/\(0<=a/\a<=(b:Int))/\∃ (m:OA) (u n:Nat),d.cell? f=some (.slice m u n)/\(0<=B4 (a+(if ((b-(a.toNat):Nat):Int)<c then ((b-(a.toNat):Nat):Int) else c))/\B4 (a+(if ((b-(a.toNat):Nat):Int)<c then ((b-(a.toNat):Nat):Int) else c))<=(n:Int))/\(0<=B4 (a+(if ((b-(a.toNat):Nat):Int)<c then ((b-(a.toNat):Nat):Int) else c))/\B4 (a+(if ((b-(a.toNat):Nat):Int)<c then ((b-(a.toNat):Nat):Int) else c))<=(((B4 (a+(if ((b-(a.toNat):Nat):Int)<c then ((b-(a.toNat):Nat):Int) else c))).toNat:Nat):Int))/\(0<=a/\a<=(((B4 (a+(if ((b-(a.toNat):Nat):Int)<c then ((b-(a.toNat):Nat):Int) else c))).toNat:Nat):Int))/\YCall P p #[.slice (J6 m ((B4 (a+(if ((b-(a.toNat):Nat):Int)<c then ((b-(a.toNat):Nat):Int) else c))).toNat) (a.toNat) 4) ((B4 (a+(if ((b-(a.toNat):Nat):Int)<c then ((b-(a.toNat):Nat):Int) else c))).toNat-a.toNat) ((B4 (a+(if ((b-(a.toNat):Nat):Int)<c then ((b-(a.toNat):Nat):Int) else c))).toNat-a.toNat)] d (fun v e=>∃ (o:Bool),v= .bool o/\Br (!o) (K (.tuple #[]) e)
 (∃ (i:Int),e.cell? j=some (I i)/\g [I (B4 (a+i))] e/\k [I (B4 (a+i))] e<k [I a] d)))
 (K (.tuple #[]) d)
theorem A4g(a:Nat)(b:Addr)(d:Addr)(hvc:A8e Tryz.prog a b d h K):FCall Tryz.prog Fq #[.func (.yield a) #[] #[],.pointer (some b),.pointer (some d)] h K:=
 B7 Tryz.func191 (c:=C2 Tryz.f191) (by kernel_rfl) (rs:=[]) (by kernel_rfl) (fa:=⟨[(1,⟨[4],[],[.int .i64 0],⟨(Lrg 4 27),[]⟩⟩)],[],[(3,([0,1,2,3,4,5,6],[[],[],[],[1,2],[1,2,3],[0,1,2,3,4],[0,1,2,3,4,5]]))],[],[]⟩)
  (cfg:=⟨31,[],none,[],[],false⟩) (args:=[.func (.yield a) #[] #[],.pointer (some b),.pointer (some d)]) (by kernel_rfl) Bodies.nil (Eq.mp (by kernel_rfl) hvc)
theorem Vv:∀ (args:Array Value) (W:World),(callFunc Fq args).run Tryz.prog W= .ok (.enter Fq args) W:=Tryz.call191
def B6i(P:Program)(c:Int)(b:Int)(r:OA)(j s:Nat)(h:Heap)(K:Value->Heap->Prop):Prop:=
 Br (decide (c<(1:Int))) (K (.tuple #[.slice none 0 0,.bool false]) h)
 (Br (decide (c>(64:Int))) (K (.tuple #[.slice none 0 0,.bool false]) h)
 (Br (decide (b<(1:Int))) (K (.tuple #[.slice none 0 0,.bool false]) h)
 (Br (decide (b>(64:Int))) (K (.tuple #[.slice none 0 0,.bool false]) h)
 (Br ((j:Int) != (B4 (c*b))) (K (.tuple #[.slice none 0 0,.bool false]) h)
 (FCall P A0q #[.slice r j s] h (fun u o=>∃ (k:OA) (t d:Nat) (l:Bool),u= .tuple #[.slice k t d,.bool l]/\Br (!l) (K (.tuple #[.slice none 0 0,.bool false]) o)
 (wpH P (Instr.makeSlice 52 (I c) (I c)) (fun v w=>∃ (f:OA) (g m:Nat),v= .slice f g m/\∃ (i:List Value->Heap->Prop) (n:List Value->Heap->Nat),i [I 0] w/\
 ∀ (a:Int),∀ e,i [I a] e->Br (decide (a<c)) ((0<=B4 ((B4 (a+1))*b)/\B4 ((B4 (a+1))*b)<=(d:Int))/\(0<=B4 (a*b)/\B4 (a*b)<=(((B4 ((B4 (a+1))*b)).toNat:Nat):Int))/\∃ q,f=some q/\0<=a/\a<(g:Int)/\wpH P (Instr.storeAt 58 (.pointer (some (q.add (a.toNat*1)))) (.slice (J6 k d ((B4 (a*b)).toNat) 4) (((B4 ((B4 (a+1))*b)).toNat)-((B4 (a*b)).toNat)) (d-((B4 (a*b)).toNat)))) (fun _ p=>i [I (B4 (a+1))] p/\n [I (B4 (a+1))] p<n [I a] e) e)
 (K (.tuple #[.slice f g m,.bool true]) e)) o)))))))
theorem B0z(a:Int)(b:Int)(d:OA)(e f:Nat)(hvc:B6i Tryz.prog a b d e f h K):FCall Tryz.prog A0t #[.agg #[I a,I b,.slice d e f]] h K:=
 B7 Tryz.func35 (c:=C2 Tryz.f35) (by kernel_rfl) (rs:=[.tmp 2,.tmp 3]) (by kernel_rfl) (fa:=⟨[(8,⟨[7],[],[.int .i64 0],⟨([7]++Lrg 48 20),[]⟩⟩)],[],[],[],[]⟩)
  (cfg:=⟨69,[1],none,[38],[],false⟩) (args:=[.agg #[I a,I b,.slice d e f]]) (by kernel_rfl) (B0 Tryz.call38 Bodies.nil) (Eq.mp (by kernel_rfl) hvc)
def B2d(P:Program)(i:Int)(j:OA)(d k:Nat)(h:Heap)(K:Value->Heap->Prop):Prop:=
 ∃ (c:List Value->Heap->Prop) (e:List Value->Heap->Nat),c [I 0] h/\
 ∀ (a:Int),∀ b,c [I a] b->Br (decide (a<(d:Int))) (∃ g,j=some g/\0<=a/\a<(d:Int)/\∃ (f:ByteArray),b.cell? (g.add (a.toNat*1))=some (.string f)/\Br (decide (((ByteArray.size f:Nat):Int)>i)) (K (.bool false) b)
 (c [I (B4 (a+1))] b/\e [I (B4 (a+1))] b<e [I a] b))
 (K (.bool true) b)
theorem A8f(a:Int)(b:OA)(d e:Nat)(hvc:B2d Tryz.prog a b d e h K):FCall Tryz.prog Uw #[I a,.slice b d e] h K:=
 B7 Tryz.func14 (c:=C2 Tryz.f14) (by kernel_rfl) (rs:=[.tmp 4]) (by kernel_rfl) (fa:=⟨[(2,⟨[5],[],[.int .i64 0],⟨(Lrg 4 15),[]⟩⟩)],[],[],[],[]⟩)
  (cfg:=⟨19,[],none,[],[],false⟩) (args:=[I a,.slice b d e]) (by kernel_rfl) Bodies.nil (Eq.mp (by kernel_rfl) hvc)
def Nd(P:Program)(d:Int)(e:Int)(f:OA)(b g:Nat)(a:Int)(i:Int)(h:Heap)(K:Value->Heap->Prop):Prop:=
 Br (decide (d<=a)) (Br (decide (e<=a)) (Br (decide ((b:Int)<=(B4 ((B4 (a*a))+2)))) (FCall P Uw #[I i,.slice f b g] h (fun j k=>∃ (c:Bool),j= .bool c/\K (.bool c) k))
 (K (.bool false) h))
 (K (.bool false) h))
 (K (.bool false) h)
theorem Qw(a:Int)(b:Int)(d:OA)(e f:Nat)(g:Int)(i:Int)(hvc:Nd Tryz.prog a b d e f g i h K):FCall Tryz.prog Bu #[.agg #[I a,I b,.slice d e f],I g,I i] h K:=
 B7 Tryz.func24 (c:=C2 Tryz.f24) (by kernel_rfl) (rs:=[.tmp 6]) (by kernel_rfl) (fa:=⟨[],[],[],[],[]⟩)
  (cfg:=⟨33,[3],none,[14],[],false⟩) (args:=[.agg #[I a,I b,.slice d e f],I g,I i]) (by kernel_rfl) (B0 Tryz.call14 Bodies.nil) (Eq.mp (by kernel_rfl) hvc)
def A2t(P:Program)(l:OA)(c n:Nat)(m:OA)(e o:Nat)(h:Heap)(K:Value->Heap->Prop):Prop:=
 Br ((c:Int) != (e:Int)) (K (.bool false) h)
 (∃ (d:List Value->Heap->Prop) (f:List Value->Heap->Nat),d [I 0] h/\
 ∀ (a:Int),∀ b,d [I a] b->Br (decide (a<(c:Int))) (∃ j,l=some j/\0<=a/\a<(c:Int)/\∃ (g:ByteArray),b.cell? (j.add (a.toNat*1))=some (.string g)/\∃ k,m=some k/\0<=a/\a<(e:Int)/\∃ (i:ByteArray),b.cell? (k.add (a.toNat*1))=some (.string i)/\Br (!(ByteArray.toList g==ByteArray.toList i)) (K (.bool false) b)
 (d [I (B4 (a+1))] b/\f [I (B4 (a+1))] b<f [I a] b))
 (K (.bool true) b))
theorem A1e(a:OA)(b d:Nat)(e:OA)(f g:Nat)(hvc:A2t Tryz.prog a b d e f g h K):FCall Tryz.prog Gv #[.slice a b d,.slice e f g] h K:=
 B7 Tryz.func60 (c:=C2 Tryz.f60) (by kernel_rfl) (rs:=[.tmp 4]) (by kernel_rfl) (fa:=⟨[(4,⟨[5],[],[.int .i64 0],⟨([4,5]++Lrg 11 15),[]⟩⟩)],[],[(6,((Lrg 0 9),[[],[],[0,1],[0,1,2],[],[],[4,5],[4,5,6],(Lrg 0 8)]))],[],[]⟩)
  (cfg:=⟨26,[],none,[],[],false⟩) (args:=[.slice a b d,.slice e f g]) (by kernel_rfl) Bodies.nil (Eq.mp (by kernel_rfl) hvc)
end Go.Proofs.YtajkakhfcokljaaGreatDoor
