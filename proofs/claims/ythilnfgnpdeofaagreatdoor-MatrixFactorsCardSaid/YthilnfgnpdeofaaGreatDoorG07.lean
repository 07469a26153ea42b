/-
  Texts of this proof, merged by a program of ours.
-/
import Derived.Test.YthilnfgnpdeofaaGreatDoorProg
import Derived.Test.YthilnfgnpdeofaaGreatDoorG05
import Derived.Test.YthilnfgnpdeofaaGreatDoorG06
namespace Go.Proofs.YthilnfgnpdeofaaGreatDoor
open Go
set_option maxRecDepth 100000
set_option linter.unusedVariables false
variable {h:Heap} {K:Value->Heap->Prop}
abbrev De:Nat:=217
abbrev B03:Nat:=170
abbrev Fb:Nat:=169
abbrev Db:Nat:=225
abbrev A9w:Nat:=202
abbrev Mc:Nat:=201
abbrev O3:Nat:=223
abbrev Ns:Nat:=221
abbrev U7:Nat:=222
abbrev Lz:Nat:=238
abbrev A1h:Nat:=240
abbrev Fc:Nat:=194
abbrev Md:Nat:=219
abbrev Ew:Nat:=236
abbrev Og:Nat:=251
def Qv(P:Program)(d:OA)(e f:Nat)(g:Int)(i:Int)(h:Heap)(K:Value->Heap->Prop):Prop:=
 FCall P Db #[.slice d e f,U g,I i] h (fun j k=>∃ (a:OA) (b c:Nat),j= .slice a b c/\K (.slice a b c) k)
theorem Rq(a:OA)(b d:Nat)(e:Int)(f:Int)(hvc:Qv Tryz.prog a b d e f h K):FCall Tryz.prog De #[.slice a b d,U e,I f] h K:=
 B8 Tryz.func217 (c:=C2 Tryz.f217) (by kernel_rfl) (rs:=[.tmp 6]) (by kernel_rfl) (fa:=⟨[],[],[],[],[]⟩)
  (cfg:=⟨11,[],none,[225],[],false⟩) (args:=[.slice a b d,U e,I f]) (by kernel_rfl) (B0 Tryz.call225 Bodies.nil) (Eq.mp (by kernel_rfl) hvc)
def Ta(P:Program)(b:Int)(c:Int)(h:Heap)(K:Value->Heap->Prop):Prop:=
 FCall P Mc #[I b,I c] h (fun d e=>∃ (a:ByteArray),d= .string a/\K (.string a) e)
theorem Vo(a:Int)(b:Int)(hvc:Ta Tryz.prog a b h K):FCall Tryz.prog Fb #[I a,I b] h K:=
 B8 Tryz.func169 (c:=C2 Tryz.f169) (by kernel_rfl) (rs:=[.tmp 4]) (by kernel_rfl) (fa:=⟨[],[],[],[],[]⟩)
  (cfg:=⟨8,[],none,[201],[],false⟩) (args:=[I a,I b]) (by kernel_rfl) (B0 Tryz.call201 Bodies.nil) (Eq.mp (by kernel_rfl) hvc)
def Qo(P:Program)(c:OA)(d e:Nat)(b:Int)(g:Int)(h:Heap)(K:Value->Heap->Prop):Prop:=
 Br (g==(10:Int)) (Br (decide (b<(100:Int))) (FCall P Ns #[I (B4 b)] h (fun t u=>∃ (i:ByteArray),t= .string i/\wpH P (Builtin.append_ #[181,9] 181 #[.slice c d e,.string i]) (fun v w=>∃ (j:OA) (k l:Nat),v= .slice j k l/\K (.slice j k l) w) u))
 (wpH P (Instr.alloc 251 true (.tuple #[])) (fun x y=>∃ (f:Addr),x= .pointer (some f)/\FCall P U7 #[U b] y (fun z A=>∃ (a:Int),z=I a/\(0<=a/\a<=(24:Int))/\FCall P O3 #[.slice (J4 (some f) 24 0 1) ((a.toNat)-0) (24-0),U b] A (fun B C=>B= .tuple #[]/\(0<=a/\a<=(24:Int))/\wpH P (Builtin.append_ #[181,181] 181 #[.slice c d e,.slice (J4 (some f) 24 0 1) ((a.toNat)-0) (24-0)]) (fun D E=>∃ (m:OA) (n o:Nat),D= .slice m n o/\K (.slice m n o) E) C))) h))
 (FCall P 224 #[.slice c d e,U b,I g,.bool false,.bool true] h (fun F G=>∃ (p:OA) (q r:Nat) (s:ByteArray),F= .tuple #[.slice p q r,.string s]/\K (.slice p q r) G))
theorem Rn(a:OA)(b d:Nat)(e:Int)(f:Int)(hvc:Qo Tryz.prog a b d e f h K):FCall Tryz.prog Db #[.slice a b d,U e,I f] h K:=
 B8 Tryz.func225 (c:=C2 Tryz.f225) (by kernel_rfl) (rs:=[.tmp 6]) (by kernel_rfl) (fa:=⟨[],[],[],[],[]⟩)
  (cfg:=⟨36,[],none,[221,222,223,224],[223],false⟩) (args:=[.slice a b d,U e,I f]) (by kernel_rfl) (B0 Tryz.call221 (B0 Tryz.call222 (B0 Tryz.call223 (B0 Tryz.call224 Bodies.nil)))) (Eq.mp (by kernel_rfl) hvc)
def Sv(P:Program)(a:Int)(g:Int)(h:Heap)(K:Value->Heap->Prop):Prop:=
 Br (g==(10:Int)) (∃ (e:List Value->Heap->Prop),(Br (decide ((0:Int)<=a)) (e [.bool (decide (a<(100:Int)))] h)
 (e [.bool false] h))/\
 ∀ (i:Bool),∀ f,e [.bool i] f->Br i (FCall P Ns #[I a] f (fun v w=>∃ (j:ByteArray),v= .string j/\K (.string j) w))
 (wpH P (Instr.alloc 251 true (.tuple #[])) (fun x p=>∃ (d:Addr),x= .pointer (some d)/\Br (decide (a<(0:Int))) (FCall P U7 #[U (C4 (0-(C4 a)))] p (fun y z=>∃ (b:Int),y=I b/\(0<=B4 ((1:Int)+b)/\B4 ((1:Int)+b)<=(24:Int))/\(0<=(1:Int)/\(1:Int)<=(((B4 ((1:Int)+b)).toNat:Nat):Int))/\FCall P O3 #[.slice (J4 (some d) 24 (((1:Int)).toNat) 1) (((B4 ((1:Int)+b)).toNat)-(((1:Int)).toNat)) (24-(((1:Int)).toNat)),U (C4 (0-(C4 a)))] z (fun A q=>A= .tuple #[]/\Br (decide (a<(0:Int))) ((0<=(0:Int)/\(0:Int)<(24:Int))/\wpH P (Instr.storeAt 5 (.pointer (some (d.add (((0:Int)).toNat*1)))) (Y (45:Int))) (fun _ B=>(0<=B4 ((1:Int)+b)/\B4 ((1:Int)+b)<=(24:Int))/\wpH P (convert 181 9 (.slice (J4 (some d) 24 0 1) (((B4 ((1:Int)+b)).toNat)-0) (24-0))) (fun C D=>∃ (k:ByteArray),C= .string k/\K (.string k) D) B) q)
 ((0<=B4 ((1:Int)+b)/\B4 ((1:Int)+b)<=(24:Int))/\(0<=(1:Int)/\(1:Int)<=(((B4 ((1:Int)+b)).toNat:Nat):Int))/\wpH P (convert 181 9 (.slice (J4 (some d) 24 (((1:Int)).toNat) 1) (((B4 ((1:Int)+b)).toNat)-(((1:Int)).toNat)) (24-(((1:Int)).toNat)))) (fun E F=>∃ (l:ByteArray),E= .string l/\K (.string l) F) q))))
 (FCall P U7 #[U (C4 a)] p (fun G H=>∃ (c:Int),G=I c/\(0<=B4 ((1:Int)+c)/\B4 ((1:Int)+c)<=(24:Int))/\(0<=(1:Int)/\(1:Int)<=(((B4 ((1:Int)+c)).toNat:Nat):Int))/\FCall P O3 #[.slice (J4 (some d) 24 (((1:Int)).toNat) 1) (((B4 ((1:Int)+c)).toNat)-(((1:Int)).toNat)) (24-(((1:Int)).toNat)),U (C4 a)] H (fun J r=>J= .tuple #[]/\Br (decide (a<(0:Int))) ((0<=(0:Int)/\(0:Int)<(24:Int))/\wpH P (Instr.storeAt 5 (.pointer (some (d.add (((0:Int)).toNat*1)))) (Y (45:Int))) (fun _ L=>(0<=B4 ((1:Int)+c)/\B4 ((1:Int)+c)<=(24:Int))/\wpH P (convert 181 9 (.slice (J4 (some d) 24 0 1) (((B4 ((1:Int)+c)).toNat)-0) (24-0))) (fun M N=>∃ (m:ByteArray),M= .string m/\K (.string m) N) L) r)
 ((0<=B4 ((1:Int)+c)/\B4 ((1:Int)+c)<=(24:Int))/\(0<=(1:Int)/\(1:Int)<=(((B4 ((1:Int)+c)).toNat:Nat):Int))/\wpH P (convert 181 9 (.slice (J4 (some d) 24 (((1:Int)).toNat) 1) (((B4 ((1:Int)+c)).toNat)-(((1:Int)).toNat)) (24-(((1:Int)).toNat)))) (fun O Q=>∃ (n:ByteArray),O= .string n/\K (.string n) Q) r))))) f))
 (FCall P 224 #[.slice none 0 0,U (C4 a),I g,.bool (decide (a<(0:Int))),.bool false] h (fun R S=>∃ (s:OA) (t u:Nat) (o:ByteArray),R= .tuple #[.slice s t u,.string o]/\K (.string o) S))
theorem Vk(a:Int)(b:Int)(hvc:Sv Tryz.prog a b h K):FCall Tryz.prog Mc #[I a,I b] h K:=
 B8 Tryz.func201 (c:=C2 Tryz.f201) (by kernel_rfl) (rs:=[.tmp 4]) (by kernel_rfl) (fa:=⟨[],[(3,⟨[17],[],[.bool false],⟨[12,13,14,15,16,17],[]⟩⟩)],[],[],[]⟩)
  (cfg:=⟨54,[],none,[221,222,223,224],[223],false⟩) (args:=[I a,I b]) (by kernel_rfl) (B0 Tryz.call221 (B0 Tryz.call222 (B0 Tryz.call223 (B0 Tryz.call224 Bodies.nil)))) (Eq.mp (by kernel_rfl) hvc)
def G8:ByteArray:={ data:=#[48,48,48,49,48,50,48,51,48,52,48,53,48,54,48,55,48,56,48,57,49,48,49,49,49,50,49,51,49,52,49,53,49,54,49,55,49,56,49,57,50,48,50,49,50,50,50,51,50,52,50,53,50,54,50,55,50,56,50,57,51,48,51,49,51,50,51,51,51,52,51,53,51,54,51,55,51,56,51,57,52,48,52,49,52,50,52,51,52,52,52,53,52,54,52,55,52,56,52,57,53,48,53,49,53,50,53,51,53,52,53,53,53,54,53,55,53,56,53,57,54,48,54,49,54,50,54,51,54,52,54,53,54,54,54,55,54,56,54,57,55,48,55,49,55,50,55,51,55,52,55,53,55,54,55,55,55,56,55,57,56,48,56,49,56,50,56,51,56,52,56,53,56,54,56,55,56,56,56,57,57,48,57,49,57,50,57,51,57,52,57,53,57,54,57,55,57,56,57,57] }
def W6(P:Program)(c:OA)(d:Nat)(K:Value->Heap->Prop)(e:Int)(f:Int)(a:Heap):Prop:=
 Br (decide (e>(0:Int))) (∃ b,c=some b/\0<=(0:Int)/\(0:Int)<(d:Int)/\wpH P (Instr.storeAt 5 (.pointer (some (b.add (((0:Int)).toNat*1)))) (Y (wu8 (J0 ((48:Int)+f))))) (fun _ g=>K (.tuple #[]) g) a)
 (K (.tuple #[]) a)
def W7(P:Program)(c:OA)(d:Nat)(K:Value->Heap->Prop)(a:Int)(b:Int)(f:Heap):Prop:=
 ∃ (e:List Value->Heap->Prop),(Br (decide (a>=(2:Int))) (∃ (g:UInt8),(0<=J0 ((J0 ((Int.tmod b (100:Int))*(2:Int)))+1)/\((G8:ByteArray))[(J0 ((J0 ((Int.tmod b (100:Int))*(2:Int)))+1)).toNat]? = some g)/\∃ (i:UInt8),(0<=J0 ((Int.tmod b (100:Int))*(2:Int))/\((G8:ByteArray))[(J0 ((Int.tmod b (100:Int))*(2:Int))).toNat]? = some i)/\∃ l,c=some l/\0<=B4 (a-1)/\B4 (a-1)<(d:Int)/\wpH P (Instr.storeAt 5 (.pointer (some (l.add ((B4 (a-1)).toNat*1)))) (Y ((g.toNat:Nat):Int))) (fun _ o=>∃ m,c=some m/\0<=B4 (a-2)/\B4 (a-2)<(d:Int)/\wpH P (Instr.storeAt 5 (.pointer (some (m.add ((B4 (a-2)).toNat*1)))) (Y ((i.toNat:Nat):Int))) (fun _ p=>e [I (B4 (a-2)),U32 (J0 (Int.tdiv b (100:Int)))] p) o) f)
 (e [I a,U32 b] f))/\
 ∀ (j:Int) (k:Int),∀ n,e [I j,U32 k] n->W6 P c d K j k n
def Ki(P:Program)(d:OA)(c a2:Nat)(N:Int)(h:Heap)(K:Value->Heap->Prop):Prop:=
 ∃ (f:List Value->Heap->Prop) (i:List Value->Heap->Nat),f [U N,I (c:Int)] h/\
 ∀ (b:Int) (a:Int),∀ e,f [U b,I a] e->Br (decide (a>=(8:Int))) (∃ (j:UInt8),(0<=J0 ((J0 ((Int.tmod (Int.tmod (J0 (Int.tmod b (100000000:Int))) (10000:Int)) (100:Int))*(2:Int)))+1)/\((G8:ByteArray))[(J0 ((J0 ((Int.tmod (Int.tmod (J0 (Int.tmod b (100000000:Int))) (10000:Int)) (100:Int))*(2:Int)))+1)).toNat]? = some j)/\∃ (k:UInt8),(0<=J0 ((Int.tmod (Int.tmod (J0 (Int.tmod b (100000000:Int))) (10000:Int)) (100:Int))*(2:Int))/\((G8:ByteArray))[(J0 ((Int.tmod (Int.tmod (J0 (Int.tmod b (100000000:Int))) (10000:Int)) (100:Int))*(2:Int))).toNat]? = some k)/\∃ y,d=some y/\0<=B4 (a-1)/\B4 (a-1)<(c:Int)/\wpH P (Instr.storeAt 5 (.pointer (some (y.add ((B4 (a-1)).toNat*1)))) (Y ((j.toNat:Nat):Int))) (fun _ O=>∃ z,d=some z/\0<=B4 (a-2)/\B4 (a-2)<(c:Int)/\wpH P (Instr.storeAt 5 (.pointer (some (z.add ((B4 (a-2)).toNat*1)))) (Y ((k.toNat:Nat):Int))) (fun _ Q=>∃ (l:UInt8),(0<=J0 ((J0 ((J0 (Int.tdiv (Int.tmod (J0 (Int.tmod b (100000000:Int))) (10000:Int)) (100:Int)))*(2:Int)))+1)/\((G8:ByteArray))[(J0 ((J0 ((J0 (Int.tdiv (Int.tmod (J0 (Int.tmod b (100000000:Int))) (10000:Int)) (100:Int)))*(2:Int)))+1)).toNat]? = some l)/\∃ (m:UInt8),(0<=J0 ((J0 (Int.tdiv (Int.tmod (J0 (Int.tmod b (100000000:Int))) (10000:Int)) (100:Int)))*(2:Int))/\((G8:ByteArray))[(J0 ((J0 (Int.tdiv (Int.tmod (J0 (Int.tmod b (100000000:Int))) (10000:Int)) (100:Int)))*(2:Int))).toNat]? = some m)/\∃ A,d=some A/\0<=B4 (a-3)/\B4 (a-3)<(c:Int)/\wpH P (Instr.storeAt 5 (.pointer (some (A.add ((B4 (a-3)).toNat*1)))) (Y ((l.toNat:Nat):Int))) (fun _ R=>∃ B,d=some B/\0<=B4 (a-4)/\B4 (a-4)<(c:Int)/\wpH P (Instr.storeAt 5 (.pointer (some (B.add ((B4 (a-4)).toNat*1)))) (Y ((m.toNat:Nat):Int))) (fun _ S=>∃ (n:UInt8),(0<=J0 ((J0 ((Int.tmod (J0 (Int.tdiv (J0 (Int.tmod b (100000000:Int))) (10000:Int))) (100:Int))*(2:Int)))+1)/\((G8:ByteArray))[(J0 ((J0 ((Int.tmod (J0 (Int.tdiv (J0 (Int.tmod b (100000000:Int))) (10000:Int))) (100:Int))*(2:Int)))+1)).toNat]? = some n)/\∃ (o:UInt8),(0<=J0 ((Int.tmod (J0 (Int.tdiv (J0 (Int.tmod b (100000000:Int))) (10000:Int))) (100:Int))*(2:Int))/\((G8:ByteArray))[(J0 ((Int.tmod (J0 (Int.tdiv (J0 (Int.tmod b (100000000:Int))) (10000:Int))) (100:Int))*(2:Int))).toNat]? = some o)/\∃ C,d=some C/\0<=B4 (a-5)/\B4 (a-5)<(c:Int)/\wpH P (Instr.storeAt 5 (.pointer (some (C.add ((B4 (a-5)).toNat*1)))) (Y ((n.toNat:Nat):Int))) (fun _ T=>∃ D,d=some D/\0<=B4 (a-6)/\B4 (a-6)<(c:Int)/\wpH P (Instr.storeAt 5 (.pointer (some (D.add ((B4 (a-6)).toNat*1)))) (Y ((o.toNat:Nat):Int))) (fun _ V=>∃ (p:UInt8),(0<=J0 ((J0 ((J0 (Int.tdiv (J0 (Int.tdiv (J0 (Int.tmod b (100000000:Int))) (10000:Int))) (100:Int)))*(2:Int)))+1)/\((G8:ByteArray))[(J0 ((J0 ((J0 (Int.tdiv (J0 (Int.tdiv (J0 (Int.tmod b (100000000:Int))) (10000:Int))) (100:Int)))*(2:Int)))+1)).toNat]? = some p)/\∃ (q:UInt8),(0<=J0 ((J0 (Int.tdiv (J0 (Int.tdiv (J0 (Int.tmod b (100000000:Int))) (10000:Int))) (100:Int)))*(2:Int))/\((G8:ByteArray))[(J0 ((J0 (Int.tdiv (J0 (Int.tdiv (J0 (Int.tmod b (100000000:Int))) (10000:Int))) (100:Int)))*(2:Int))).toNat]? = some q)/\∃ E,d=some E/\0<=B4 (a-7)/\B4 (a-7)<(c:Int)/\wpH P (Instr.storeAt 5 (.pointer (some (E.add ((B4 (a-7)).toNat*1)))) (Y ((p.toNat:Nat):Int))) (fun _ W=>∃ F,d=some F/\0<=B4 (a-8)/\B4 (a-8)<(c:Int)/\wpH P (Instr.storeAt 5 (.pointer (some (F.add ((B4 (a-8)).toNat*1)))) (Y ((q.toNat:Nat):Int))) (fun _ x=>f [U (C4 (Int.tdiv b (100000000:Int))),I (B4 (a-8))] x/\i [U (C4 (Int.tdiv b (100000000:Int))),I (B4 (a-8))] x<i [U b,I a] e) W) V) T) S) R) Q) O) e)
 (∃ (g:List Value->Heap->Prop),(Br (decide (a>=(4:Int))) (∃ (r:UInt8),(0<=J0 ((J0 ((Int.tmod (Int.tmod (J0 b) (10000:Int)) (100:Int))*(2:Int)))+1)/\((G8:ByteArray))[(J0 ((J0 ((Int.tmod (Int.tmod (J0 b) (10000:Int)) (100:Int))*(2:Int)))+1)).toNat]? = some r)/\∃ (s:UInt8),(0<=J0 ((Int.tmod (Int.tmod (J0 b) (10000:Int)) (100:Int))*(2:Int))/\((G8:ByteArray))[(J0 ((Int.tmod (Int.tmod (J0 b) (10000:Int)) (100:Int))*(2:Int))).toNat]? = some s)/\∃ G,d=some G/\0<=B4 (a-1)/\B4 (a-1)<(c:Int)/\wpH P (Instr.storeAt 5 (.pointer (some (G.add ((B4 (a-1)).toNat*1)))) (Y ((r.toNat:Nat):Int))) (fun _ X=>∃ H,d=some H/\0<=B4 (a-2)/\B4 (a-2)<(c:Int)/\wpH P (Instr.storeAt 5 (.pointer (some (H.add ((B4 (a-2)).toNat*1)))) (Y ((s.toNat:Nat):Int))) (fun _ Z=>∃ (t:UInt8),(0<=J0 ((J0 ((J0 (Int.tdiv (Int.tmod (J0 b) (10000:Int)) (100:Int)))*(2:Int)))+1)/\((G8:ByteArray))[(J0 ((J0 ((J0 (Int.tdiv (Int.tmod (J0 b) (10000:Int)) (100:Int)))*(2:Int)))+1)).toNat]? = some t)/\∃ (u:UInt8),(0<=J0 ((J0 (Int.tdiv (Int.tmod (J0 b) (10000:Int)) (100:Int)))*(2:Int))/\((G8:ByteArray))[(J0 ((J0 (Int.tdiv (Int.tmod (J0 b) (10000:Int)) (100:Int)))*(2:Int))).toNat]? = some u)/\∃ J,d=some J/\0<=B4 (a-3)/\B4 (a-3)<(c:Int)/\wpH P (Instr.storeAt 5 (.pointer (some (J.add ((B4 (a-3)).toNat*1)))) (Y ((t.toNat:Nat):Int))) (fun _ a0=>∃ L,d=some L/\0<=B4 (a-4)/\B4 (a-4)<(c:Int)/\wpH P (Instr.storeAt 5 (.pointer (some (L.add ((B4 (a-4)).toNat*1)))) (Y ((u.toNat:Nat):Int))) (fun _ a1=>g [I (B4 (a-4)),U32 (J0 (Int.tdiv (J0 b) (10000:Int)))] a1) a0) Z) X) e)
 (g [I a,U32 (J0 b)] e))/\
 ∀ (v:Int) (w:Int),∀ M,g [I v,U32 w] M->W7 P d c K v w M)
theorem Nj(a:OA)(b d:Nat)(e:Int)(hvc:Ki Tryz.prog a b d e h K):FCall Tryz.prog O3 #[.slice a b d,U e] h K:=
 B8 Tryz.func223 (c:=C2 Tryz.f223) (by kernel_rfl) (rs:=[]) (by kernel_rfl) (fa:=⟨[(1,⟨[1,4],[],[.int .u64 0,.int .i64 0],⟨([1]++Lrg 4 8++Lrg 19 77),[]⟩⟩)],[(20,⟨[4,12],[],[.int .i64 0,.int .u32 0],⟨([4,12,13,14,15]++Lrg 98 40),[]⟩⟩),(25,⟨[4,12],[],[.int .i64 0,.int .u32 0],⟨([4,12,16]++Lrg 138 22),[]⟩⟩)],[(7,((Lrg 0 15),[[],[],[1],[],[],[4],[],[6],[6,7],[],[9],[0,1,2,6,7,8],[0,1,2,6,7,8,11],(Lrg 0 13),(Lrg 0 14)])),(8,((Lrg 0 15),[[],[],[1],[],[],[4],[],[6],[6,7],[],[9],[0,1,2,6,7,8],[0,1,2,6,7,8,11],(Lrg 0 13),(Lrg 0 14)])),(9,((Lrg 0 15),[[],[],[1],[],[],[4],[],[6],[6,7],[],[9],[0,1,2,6,7,8],[0,1,2,6,7,8,11],(Lrg 0 13),(Lrg 0 14)])),(10,((Lrg 0 15),[[],[],[1],[],[],[4],[],[6],[6,7],[],[9],[0,1,2,6,7,8],[0,1,2,6,7,8,11],(Lrg 0 13),(Lrg 0 14)])),(17,((Lrg 0 15),[[],[],[1],[],[],[4],[],[6],[6,7],[],[9],[0,1,2,6,7,8],[0,1,2,6,7,8,11],(Lrg 0 13),(Lrg 0 14)])),(18,((Lrg 0 15),[[],[],[1],[],[],[4],[],[6],[6,7],[],[9],[0,1,2,6,7,8],[0,1,2,6,7,8,11],(Lrg 0 13),(Lrg 0 14)])),(23,((Lrg 0 15),[[],[],[1],[],[],[4],[],[6],[6,7],[],[9],[0,1,2,6,7,8],[0,1,2,6,7,8,11],(Lrg 0 13),(Lrg 0 14)]))],[],[]⟩)
  (cfg:=⟨167,[],none,[],[],false⟩) (args:=[.slice a b d,U e]) (by kernel_rfl) Bodies.nil (Eq.mp (by kernel_rfl) hvc)
def Tw:ByteArray:={ data:=#[48,49,50,51,52,53,54,55,56,57,97,98,99,100,101,102,103,104,105,106,107,108,109,110,111,112,113,114,115,116,117,118,119,120,121,122] }
def B0l(P:Program)(a:Int)(h:Heap)(K:Value->Heap->Prop):Prop:=
 Br (decide (a<(10:Int))) ((0<=B4 (a+1)/\B4 (a+1)<=((((Tw:ByteArray)).size:Nat):Int))/\(0<=a/\a<=(((B4 (a+1)).toNat:Nat):Int))/\K (.string (((Tw:ByteArray)).extract (a.toNat) ((B4 (a+1)).toNat))) h)
 ((0<=B4 ((B4 (a*(2:Int)))+2)/\B4 ((B4 (a*(2:Int)))+2)<=((((G8:ByteArray)).size:Nat):Int))/\(0<=B4 (a*(2:Int))/\B4 (a*(2:Int))<=(((B4 ((B4 (a*(2:Int)))+2)).toNat:Nat):Int))/\K (.string (((G8:ByteArray)).extract ((B4 (a*(2:Int))).toNat) ((B4 ((B4 (a*(2:Int)))+2)).toNat))) h)
theorem A6v(a:Int)(hvc:B0l Tryz.prog a h K):FCall Tryz.prog Ns #[I a] h K:=
 B8 Tryz.func221 (c:=C2 Tryz.f221) (by kernel_rfl) (rs:=[.tmp 2]) (by kernel_rfl) (fa:=⟨[],[],[],[],[]⟩)
  (cfg:=⟨15,[],none,[],[],false⟩) (args:=[I a]) (by kernel_rfl) Bodies.nil (Eq.mp (by kernel_rfl) hvc)
def Ss(P:Program)(b:Int)(h:Heap)(K:Value->Heap->Prop):Prop:=
 FCall P Nv #[U b] h (fun g i=>∃ (c:Int),g=I c/\FCall P Lz #[I c] i (fun j f=>∃ (a:Int),j=I a/\(0<=a/\a<(20:Int))/\∃ (d:Int),f.cell? (Addr.add (⟨2,0,none⟩) (a.toNat*1))=some (U d)/\FCall P A1h #[.bool (decide (b>=d))] f (fun k l=>∃ (e:Int),k=I e/\K (I (B4 (a+e))) l)))
theorem Vh(a:Int)(hvc:Ss Tryz.prog a h K):FCall Tryz.prog U7 #[U a] h K:=
 B8 Tryz.func222 (c:=C2 Tryz.f222) (by kernel_rfl) (rs:=[.tmp 2]) (by kernel_rfl) (fa:=⟨[],[],[],[],[]⟩)
  (cfg:=⟨15,[],none,[238,239,240],[],false⟩) (args:=[U a]) (by kernel_rfl) (B0 Tryz.call238 (B0 Tryz.call239 (B0 Tryz.call240 Bodies.nil))) (Eq.mp (by kernel_rfl) hvc)
def St(P:Program)(a:Int)(h:Heap)(K:Value->Heap->Prop):Prop:=
 K (I (Int.fdiv (B4 (a*(78913:Int))) (2^(min ((18:Int)).toNat 64)))) h
theorem Vi(a:Int)(hvc:St Tryz.prog a h K):FCall Tryz.prog Lz #[I a] h K:=
 B8 Tryz.func238 (c:=C2 Tryz.f238) (by kernel_rfl) (rs:=[.tmp 2]) (by kernel_rfl) (fa:=⟨[],[],[],[],[]⟩)
  (cfg:=⟨6,[],none,[],[],false⟩) (args:=[I a]) (by kernel_rfl) Bodies.nil (Eq.mp (by kernel_rfl) hvc)
def B0m(P:Program)(a:Bool)(h:Heap)(K:Value->Heap->Prop):Prop:=
 Br a (K (I 1) h)
 (K (I 0) h)
theorem A6w(a:Bool)(hvc:B0m Tryz.prog a h K):FCall Tryz.prog A1h #[.bool a] h K:=
 B8 Tryz.func240 (c:=C2 Tryz.f240) (by kernel_rfl) (rs:=[.tmp 2]) (by kernel_rfl) (fa:=⟨[],[],[],[],[]⟩)
  (cfg:=⟨4,[],none,[],[],false⟩) (args:=[.bool a]) (by kernel_rfl) Bodies.nil (Eq.mp (by kernel_rfl) hvc)
def Tc(P:Program)(c d:ByteArray)(h:Heap)(K:Value->Heap->Prop):Prop:=
 FCall P Md #[.string c,.string d] h (fun e f=>∃ (a:ByteArray) (b:Bool),e= .tuple #[.string a,.bool b]/\K (.tuple #[.string a,.bool b]) f)
theorem Vp(a b:ByteArray)(hvc:Tc Tryz.prog a b h K):FCall Tryz.prog Fc #[.string a,.string b] h K:=
 B8 Tryz.func194 (c:=C2 Tryz.f194) (by kernel_rfl) (rs:=[.tmp 4,.tmp 5]) (by kernel_rfl) (fa:=⟨[],[],[],[],[]⟩)
  (cfg:=⟨11,[],none,[219],[],false⟩) (args:=[.string a,.string b]) (by kernel_rfl) (B0 Tryz.call219 Bodies.nil) (Eq.mp (by kernel_rfl) hvc)
def Sw(P:Program)(a b:ByteArray)(h:Heap)(K:Value->Heap->Prop):Prop:=
 FCall P Ew #[.string a,.string b] h (fun e d=>∃ (c:Bool),e= .bool c/\Br (!c) (K (.tuple #[.string a,.bool false]) d)
 ((0<=((ByteArray.size b:Nat):Int)/\((ByteArray.size b:Nat):Int)<=(((a).size:Nat):Int))/\K (.tuple #[.string ((a).extract ((((ByteArray.size b:Nat):Int)).toNat) ((a).size)),.bool true]) d))
theorem Vl(a b:ByteArray)(hvc:Sw Tryz.prog a b h K):FCall Tryz.prog Md #[.string a,.string b] h K:=
 B8 Tryz.func219 (c:=C2 Tryz.f219) (by kernel_rfl) (rs:=[.tmp 4,.tmp 5]) (by kernel_rfl) (fa:=⟨[],[],[],[],[]⟩)
  (cfg:=⟨15,[],none,[236],[],false⟩) (args:=[.string a,.string b]) (by kernel_rfl) (B0 Tryz.call236 Bodies.nil) (Eq.mp (by kernel_rfl) hvc)
def Su(P:Program)(b a:ByteArray)(h:Heap)(K:Value->Heap->Prop):Prop:=
 Br (decide (((ByteArray.size b:Nat):Int)>=((ByteArray.size a:Nat):Int))) ((0<=((ByteArray.size a:Nat):Int)/\((ByteArray.size a:Nat):Int)<=(((b).size:Nat):Int))/\K (.bool (ByteArray.toList ((b).extract 0 ((((ByteArray.size a:Nat):Int)).toNat))==ByteArray.toList a)) h)
 (K (.bool false) h)
theorem Vj(a b:ByteArray)(hvc:Su Tryz.prog a b h K):FCall Tryz.prog Ew #[.string a,.string b] h K:=
 B8 Tryz.func236 (c:=C2 Tryz.f236) (by kernel_rfl) (rs:=[.tmp 4]) (by kernel_rfl) (fa:=⟨[],[],[],[],[]⟩)
  (cfg:=⟨18,[],none,[],[],false⟩) (args:=[.string a,.string b]) (by kernel_rfl) Bodies.nil (Eq.mp (by kernel_rfl) hvc)
end Go.Proofs.YthilnfgnpdeofaaGreatDoor
