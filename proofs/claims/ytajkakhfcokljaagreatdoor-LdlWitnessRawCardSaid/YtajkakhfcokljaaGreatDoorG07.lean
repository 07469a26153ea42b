/-
  Texts of this proof, merged by a program of ours.
-/
import Derived.Test.YtajkakhfcokljaaGreatDoorProg
import Derived.Test.YtajkakhfcokljaaGreatDoorG05
import Derived.Test.YtajkakhfcokljaaGreatDoorG06
namespace Go.Proofs.YtajkakhfcokljaaGreatDoor
open Go
set_option maxRecDepth 100000
set_option linter.unusedVariables false
variable {h:Heap} {K:Value->Heap->Prop}
abbrev Dy:Nat:=225
abbrev B1s:Nat:=157
abbrev Fs:Nat:=156
abbrev Dw:Nat:=238
abbrev B1j:Nat:=205
abbrev Mo:Nat:=204
abbrev O3:Nat:=236
abbrev Nx:Nat:=234
abbrev U9:Nat:=235
abbrev Mm:Nat:=253
abbrev A29:Nat:=255
abbrev Ft:Nat:=177
abbrev Mq:Nat:=215
abbrev Fp:Nat:=243
abbrev Oh:Nat:=272
def Qy(P:Program)(d:OA)(e f:Nat)(g:Int)(i:Int)(h:Heap)(K:Value->Heap->Prop):Prop:=
 FCall P Dw #[.slice d e f,U g,I i] h (fun j k=>∃ (a:OA) (b c:Nat),j= .slice a b c/\K (.slice a b c) k)
theorem Rv(a:OA)(b d:Nat)(e:Int)(f:Int)(hvc:Qy Tryz.prog a b d e f h K):FCall Tryz.prog Dy #[.slice a b d,U e,I f] h K:=
 B7 Tryz.func225 (c:=C2 Tryz.f225) (by kernel_rfl) (rs:=[.tmp 6]) (by kernel_rfl) (fa:=⟨[],[],[],[],[]⟩)
  (cfg:=⟨11,[],none,[238],[],false⟩) (args:=[.slice a b d,U e,I f]) (by kernel_rfl) (B0 Tryz.call238 Bodies.nil) (Eq.mp (by kernel_rfl) hvc)
def Tj(P:Program)(b:Int)(c:Int)(h:Heap)(K:Value->Heap->Prop):Prop:=
 FCall P Mo #[I b,I c] h (fun d e=>∃ (a:ByteArray),d= .string a/\K (.string a) e)
theorem Vy(a:Int)(b:Int)(hvc:Tj Tryz.prog a b h K):FCall Tryz.prog Fs #[I a,I b] h K:=
 B7 Tryz.func156 (c:=C2 Tryz.f156) (by kernel_rfl) (rs:=[.tmp 4]) (by kernel_rfl) (fa:=⟨[],[],[],[],[]⟩)
  (cfg:=⟨8,[],none,[204],[],false⟩) (args:=[I a,I b]) (by kernel_rfl) (B0 Tryz.call204 Bodies.nil) (Eq.mp (by kernel_rfl) hvc)
def Qt(P:Program)(c:OA)(d e:Nat)(b:Int)(g:Int)(h:Heap)(K:Value->Heap->Prop):Prop:=
 Br (g==(10:Int)) (Br (decide (b<(100:Int))) (FCall P Nx #[I (B4 b)] h (fun t u=>∃ (i:ByteArray),t= .string i/\wpH P (Builtin.append_ #[199,9] 199 #[.slice c d e,.string i]) (fun v w=>∃ (j:OA) (k l:Nat),v= .slice j k l/\K (.slice j k l) w) u))
 (wpH P (Instr.alloc 272 true (.tuple #[])) (fun x y=>∃ (f:Addr),x= .pointer (some f)/\FCall P U9 #[U b] y (fun z A=>∃ (a:Int),z=I a/\(0<=a/\a<=(24:Int))/\FCall P O3 #[.slice (J6 (some f) 24 0 1) ((a.toNat)-0) (24-0),U b] A (fun B C=>B= .tuple #[]/\(0<=a/\a<=(24:Int))/\wpH P (Builtin.append_ #[199,199] 199 #[.slice c d e,.slice (J6 (some f) 24 0 1) ((a.toNat)-0) (24-0)]) (fun D E=>∃ (m:OA) (n o:Nat),D= .slice m n o/\K (.slice m n o) E) C))) h))
 (FCall P 237 #[.slice c d e,U b,I g,.bool false,.bool true] h (fun F G=>∃ (p:OA) (q r:Nat) (s:ByteArray),F= .tuple #[.slice p q r,.string s]/\K (.slice p q r) G))
theorem Rs(a:OA)(b d:Nat)(e:Int)(f:Int)(hvc:Qt Tryz.prog a b d e f h K):FCall Tryz.prog Dw #[.slice a b d,U e,I f] h K:=
 B7 Tryz.func238 (c:=C2 Tryz.f238) (by kernel_rfl) (rs:=[.tmp 6]) (by kernel_rfl) (fa:=⟨[],[],[],[],[]⟩)
  (cfg:=⟨36,[],none,[234,235,236,237],[236],false⟩) (args:=[.slice a b d,U e,I f]) (by kernel_rfl) (B0 Tryz.call234 (B0 Tryz.call235 (B0 Tryz.call236 (B0 Tryz.call237 Bodies.nil)))) (Eq.mp (by kernel_rfl) hvc)
def Tc(P:Program)(a:Int)(g:Int)(h:Heap)(K:Value->Heap->Prop):Prop:=
 Br (g==(10:Int)) (∃ (e:List Value->Heap->Prop),(Br (decide ((0:Int)<=a)) (e [.bool (decide (a<(100:Int)))] h)
 (e [.bool false] h))/\
 ∀ (i:Bool),∀ f,e [.bool i] f->Br i (FCall P Nx #[I a] f (fun v w=>∃ (j:ByteArray),v= .string j/\K (.string j) w))
 (wpH P (Instr.alloc 272 true (.tuple #[])) (fun x p=>∃ (d:Addr),x= .pointer (some d)/\Br (decide (a<(0:Int))) (FCall P U9 #[U (B9 (0-(B9 a)))] p (fun y z=>∃ (b:Int),y=I b/\(0<=B4 ((1:Int)+b)/\B4 ((1:Int)+b)<=(24:Int))/\(0<=(1:Int)/\(1:Int)<=(((B4 ((1:Int)+b)).toNat:Nat):Int))/\FCall P O3 #[.slice (J6 (some d) 24 (((1:Int)).toNat) 1) (((B4 ((1:Int)+b)).toNat)-(((1:Int)).toNat)) (24-(((1:Int)).toNat)),U (B9 (0-(B9 a)))] z (fun A q=>A= .tuple #[]/\Br (decide (a<(0:Int))) ((0<=(0:Int)/\(0:Int)<(24:Int))/\wpH P (Instr.storeAt 5 (.pointer (some (d.add (((0:Int)).toNat*1)))) (Y (45:Int))) (fun _ B=>(0<=B4 ((1:Int)+b)/\B4 ((1:Int)+b)<=(24:Int))/\wpH P (convert 199 9 (.slice (J6 (some d) 24 0 1) (((B4 ((1:Int)+b)).toNat)-0) (24-0))) (fun C D=>∃ (k:ByteArray),C= .string k/\K (.string k) D) B) q)
 ((0<=B4 ((1:Int)+b)/\B4 ((1:Int)+b)<=(24:Int))/\(0<=(1:Int)/\(1:Int)<=(((B4 ((1:Int)+b)).toNat:Nat):Int))/\wpH P (convert 199 9 (.slice (J6 (some d) 24 (((1:Int)).toNat) 1) (((B4 ((1:Int)+b)).toNat)-(((1:Int)).toNat)) (24-(((1:Int)).toNat)))) (fun E F=>∃ (l:ByteArray),E= .string l/\K (.string l) F) q))))
 (FCall P U9 #[U (B9 a)] p (fun G H=>∃ (c:Int),G=I c/\(0<=B4 ((1:Int)+c)/\B4 ((1:Int)+c)<=(24:Int))/\(0<=(1:Int)/\(1:Int)<=(((B4 ((1:Int)+c)).toNat:Nat):Int))/\FCall P O3 #[.slice (J6 (some d) 24 (((1:Int)).toNat) 1) (((B4 ((1:Int)+c)).toNat)-(((1:Int)).toNat)) (24-(((1:Int)).toNat)),U (B9 a)] H (fun J r=>J= .tuple #[]/\Br (decide (a<(0:Int))) ((0<=(0:Int)/\(0:Int)<(24:Int))/\wpH P (Instr.storeAt 5 (.pointer (some (d.add (((0:Int)).toNat*1)))) (Y (45:Int))) (fun _ L=>(0<=B4 ((1:Int)+c)/\B4 ((1:Int)+c)<=(24:Int))/\wpH P (convert 199 9 (.slice (J6 (some d) 24 0 1) (((B4 ((1:Int)+c)).toNat)-0) (24-0))) (fun M N=>∃ (m:ByteArray),M= .string m/\K (.string m) N) L) r)
 ((0<=B4 ((1:Int)+c)/\B4 ((1:Int)+c)<=(24:Int))/\(0<=(1:Int)/\(1:Int)<=(((B4 ((1:Int)+c)).toNat:Nat):Int))/\wpH P (convert 199 9 (.slice (J6 (some d) 24 (((1:Int)).toNat) 1) (((B4 ((1:Int)+c)).toNat)-(((1:Int)).toNat)) (24-(((1:Int)).toNat)))) (fun O Q=>∃ (n:ByteArray),O= .string n/\K (.string n) Q) r))))) f))
 (FCall P 237 #[.slice none 0 0,U (B9 a),I g,.bool (decide (a<(0:Int))),.bool false] h (fun R S=>∃ (s:OA) (t u:Nat) (o:ByteArray),R= .tuple #[.slice s t u,.string o]/\K (.string o) S))
theorem Vs(a:Int)(b:Int)(hvc:Tc Tryz.prog a b h K):FCall Tryz.prog Mo #[I a,I b] h K:=
 B7 Tryz.func204 (c:=C2 Tryz.f204) (by kernel_rfl) (rs:=[.tmp 4]) (by kernel_rfl) (fa:=⟨[],[(3,⟨[17],[],[.bool false],⟨[12,13,14,15,16,17],[]⟩⟩)],[],[],[]⟩)
  (cfg:=⟨54,[],none,[234,235,236,237],[236],false⟩) (args:=[I a,I b]) (by kernel_rfl) (B0 Tryz.call234 (B0 Tryz.call235 (B0 Tryz.call236 (B0 Tryz.call237 Bodies.nil)))) (Eq.mp (by kernel_rfl) hvc)
def I7:ByteArray:={ data:=#[48,48,48,49,48,50,48,51,48,52,48,53,48,54,48,55,48,56,48,57,49,48,49,49,49,50,49,51,49,52,49,53,49,54,49,55,49,56,49,57,50,48,50,49,50,50,50,51,50,52,50,53,50,54,50,55,50,56,50,57,51,48,51,49,51,50,51,51,51,52,51,53,51,54,51,55,51,56,51,57,52,48,52,49,52,50,52,51,52,52,52,53,52,54,52,55,52,56,52,57,53,48,53,49,53,50,53,51,53,52,53,53,53,54,53,55,53,56,53,57,54,48,54,49,54,50,54,51,54,52,54,53,54,54,54,55,54,56,54,57,55,48,55,49,55,50,55,51,55,52,55,53,55,54,55,55,55,56,55,57,56,48,56,49,56,50,56,51,56,52,56,53,56,54,56,55,56,56,56,57,57,48,57,49,57,50,57,51,57,52,57,53,57,54,57,55,57,56,57,57] }
def Y4(P:Program)(c:OA)(d:Nat)(K:Value->Heap->Prop)(e:Int)(f:Int)(a:Heap):Prop:=
 Br (decide (e>(0:Int))) (∃ b,c=some b/\0<=(0:Int)/\(0:Int)<(d:Int)/\wpH P (Instr.storeAt 5 (.pointer (some (b.add (((0:Int)).toNat*1)))) (Y (wu8 (F3 ((48:Int)+f))))) (fun _ g=>K (.tuple #[]) g) a)
 (K (.tuple #[]) a)
def Y7(P:Program)(c:OA)(d:Nat)(K:Value->Heap->Prop)(a:Int)(b:Int)(f:Heap):Prop:=
 ∃ (e:List Value->Heap->Prop),(Br (decide (a>=(2:Int))) (∃ (g:UInt8),(0<=F3 ((F3 ((Int.tmod b (100:Int))*(2:Int)))+1)/\((I7:ByteArray))[(F3 ((F3 ((Int.tmod b (100:Int))*(2:Int)))+1)).toNat]? = some g)/\∃ (i:UInt8),(0<=F3 ((Int.tmod b (100:Int))*(2:Int))/\((I7:ByteArray))[(F3 ((Int.tmod b (100:Int))*(2:Int))).toNat]? = some i)/\∃ l,c=some l/\0<=B4 (a-1)/\B4 (a-1)<(d:Int)/\wpH P (Instr.storeAt 5 (.pointer (some (l.add ((B4 (a-1)).toNat*1)))) (Y ((g.toNat:Nat):Int))) (fun _ o=>∃ m,c=some m/\0<=B4 (a-2)/\B4 (a-2)<(d:Int)/\wpH P (Instr.storeAt 5 (.pointer (some (m.add ((B4 (a-2)).toNat*1)))) (Y ((i.toNat:Nat):Int))) (fun _ p=>e [I (B4 (a-2)),U32 (F3 (Int.tdiv b (100:Int)))] p) o) f)
 (e [I a,U32 b] f))/\
 ∀ (j:Int) (k:Int),∀ n,e [I j,U32 k] n->Y4 P c d K j k n
def Ki(P:Program)(d:OA)(c a2:Nat)(N:Int)(h:Heap)(K:Value->Heap->Prop):Prop:=
 ∃ (f:List Value->Heap->Prop) (i:List Value->Heap->Nat),f [U N,I (c:Int)] h/\
 ∀ (b:Int) (a:Int),∀ e,f [U b,I a] e->Br (decide (a>=(8:Int))) (∃ (j:UInt8),(0<=F3 ((F3 ((Int.tmod (Int.tmod (F3 (Int.tmod b (100000000:Int))) (10000:Int)) (100:Int))*(2:Int)))+1)/\((I7:ByteArray))[(F3 ((F3 ((Int.tmod (Int.tmod (F3 (Int.tmod b (100000000:Int))) (10000:Int)) (100:Int))*(2:Int)))+1)).toNat]? = some j)/\∃ (k:UInt8),(0<=F3 ((Int.tmod (Int.tmod (F3 (Int.tmod b (100000000:Int))) (10000:Int)) (100:Int))*(2:Int))/\((I7:ByteArray))[(F3 ((Int.tmod (Int.tmod (F3 (Int.tmod b (100000000:Int))) (10000:Int)) (100:Int))*(2:Int))).toNat]? = some k)/\∃ y,d=some y/\0<=B4 (a-1)/\B4 (a-1)<(c:Int)/\wpH P (Instr.storeAt 5 (.pointer (some (y.add ((B4 (a-1)).toNat*1)))) (Y ((j.toNat:Nat):Int))) (fun _ O=>∃ z,d=some z/\0<=B4 (a-2)/\B4 (a-2)<(c:Int)/\wpH P (Instr.storeAt 5 (.pointer (some (z.add ((B4 (a-2)).toNat*1)))) (Y ((k.toNat:Nat):Int))) (fun _ Q=>∃ (l:UInt8),(0<=F3 ((F3 ((F3 (Int.tdiv (Int.tmod (F3 (Int.tmod b (100000000:Int))) (10000:Int)) (100:Int)))*(2:Int)))+1)/\((I7:ByteArray))[(F3 ((F3 ((F3 (Int.tdiv (Int.tmod (F3 (Int.tmod b (100000000:Int))) (10000:Int)) (100:Int)))*(2:Int)))+1)).toNat]? = some l)/\∃ (m:UInt8),(0<=F3 ((F3 (Int.tdiv (Int.tmod (F3 (Int.tmod b (100000000:Int))) (10000:Int)) (100:Int)))*(2:Int))/\((I7:ByteArray))[(F3 ((F3 (Int.tdiv (Int.tmod (F3 (Int.tmod b (100000000:Int))) (10000:Int)) (100:Int)))*(2:Int))).toNat]? = some m)/\∃ A,d=some A/\0<=B4 (a-3)/\B4 (a-3)<(c:Int)/\wpH P (Instr.storeAt 5 (.pointer (some (A.add ((B4 (a-3)).toNat*1)))) (Y ((l.toNat:Nat):Int))) (fun _ R=>∃ B,d=some B/\0<=B4 (a-4)/\B4 (a-4)<(c:Int)/\wpH P (Instr.storeAt 5 (.pointer (some (B.add ((B4 (a-4)).toNat*1)))) (Y ((m.toNat:Nat):Int))) (fun _ S=>∃ (n:UInt8),(0<=F3 ((F3 ((Int.tmod (F3 (Int.tdiv (F3 (Int.tmod b (100000000:Int))) (10000:Int))) (100:Int))*(2:Int)))+1)/\((I7:ByteArray))[(F3 ((F3 ((Int.tmod (F3 (Int.tdiv (F3 (Int.tmod b (100000000:Int))) (10000:Int))) (100:Int))*(2:Int)))+1)).toNat]? = some n)/\∃ (o:UInt8),(0<=F3 ((Int.tmod (F3 (Int.tdiv (F3 (Int.tmod b (100000000:Int))) (10000:Int))) (100:Int))*(2:Int))/\((I7:ByteArray))[(F3 ((Int.tmod (F3 (Int.tdiv (F3 (Int.tmod b (100000000:Int))) (10000:Int))) (100:Int))*(2:Int))).toNat]? = some o)/\∃ C,d=some C/\0<=B4 (a-5)/\B4 (a-5)<(c:Int)/\wpH P (Instr.storeAt 5 (.pointer (some (C.add ((B4 (a-5)).toNat*1)))) (Y ((n.toNat:Nat):Int))) (fun _ T=>∃ D,d=some D/\0<=B4 (a-6)/\B4 (a-6)<(c:Int)/\wpH P (Instr.storeAt 5 (.pointer (some (D.add ((B4 (a-6)).toNat*1)))) (Y ((o.toNat:Nat):Int))) (fun _ V=>∃ (p:UInt8),(0<=F3 ((F3 ((F3 (Int.tdiv (F3 (Int.tdiv (F3 (Int.tmod b (100000000:Int))) (10000:Int))) (100:Int)))*(2:Int)))+1)/\((I7:ByteArray))[(F3 ((F3 ((F3 (Int.tdiv (F3 (Int.tdiv (F3 (Int.tmod b (100000000:Int))) (10000:Int))) (100:Int)))*(2:Int)))+1)).toNat]? = some p)/\∃ (q:UInt8),(0<=F3 ((F3 (Int.tdiv (F3 (Int.tdiv (F3 (Int.tmod b (100000000:Int))) (10000:Int))) (100:Int)))*(2:Int))/\((I7:ByteArray))[(F3 ((F3 (Int.tdiv (F3 (Int.tdiv (F3 (Int.tmod b (100000000:Int))) (10000:Int))) (100:Int)))*(2:Int))).toNat]? = some q)/\∃ E,d=some E/\0<=B4 (a-7)/\B4 (a-7)<(c:Int)/\wpH P (Instr.storeAt 5 (.pointer (some (E.add ((B4 (a-7)).toNat*1)))) (Y ((p.toNat:Nat):Int))) (fun _ W=>∃ F,d=some F/\0<=B4 (a-8)/\B4 (a-8)<(c:Int)/\wpH P (Instr.storeAt 5 (.pointer (some (F.add ((B4 (a-8)).toNat*1)))) (Y ((q.toNat:Nat):Int))) (fun _ x=>f [U (B9 (Int.tdiv b (100000000:Int))),I (B4 (a-8))] x/\i [U (B9 (Int.tdiv b (100000000:Int))),I (B4 (a-8))] x<i [U b,I a] e) W) V) T) S) R) Q) O) e)
 (∃ (g:List Value->Heap->Prop),(Br (decide (a>=(4:Int))) (∃ (r:UInt8),(0<=F3 ((F3 ((Int.tmod (Int.tmod (F3 b) (10000:Int)) (100:Int))*(2:Int)))+1)/\((I7:ByteArray))[(F3 ((F3 ((Int.tmod (Int.tmod (F3 b) (10000:Int)) (100:Int))*(2:Int)))+1)).toNat]? = some r)/\∃ (s:UInt8),(0<=F3 ((Int.tmod (Int.tmod (F3 b) (10000:Int)) (100:Int))*(2:Int))/\((I7:ByteArray))[(F3 ((Int.tmod (Int.tmod (F3 b) (10000:Int)) (100:Int))*(2:Int))).toNat]? = some s)/\∃ G,d=some G/\0<=B4 (a-1)/\B4 (a-1)<(c:Int)/\wpH P (Instr.storeAt 5 (.pointer (some (G.add ((B4 (a-1)).toNat*1)))) (Y ((r.toNat:Nat):Int))) (fun _ X=>∃ H,d=some H/\0<=B4 (a-2)/\B4 (a-2)<(c:Int)/\wpH P (Instr.storeAt 5 (.pointer (some (H.add ((B4 (a-2)).toNat*1)))) (Y ((s.toNat:Nat):Int))) (fun _ Z=>∃ (t:UInt8),(0<=F3 ((F3 ((F3 (Int.tdiv (Int.tmod (F3 b) (10000:Int)) (100:Int)))*(2:Int)))+1)/\((I7:ByteArray))[(F3 ((F3 ((F3 (Int.tdiv (Int.tmod (F3 b) (10000:Int)) (100:Int)))*(2:Int)))+1)).toNat]? = some t)/\∃ (u:UInt8),(0<=F3 ((F3 (Int.tdiv (Int.tmod (F3 b) (10000:Int)) (100:Int)))*(2:Int))/\((I7:ByteArray))[(F3 ((F3 (Int.tdiv (Int.tmod (F3 b) (10000:Int)) (100:Int)))*(2:Int))).toNat]? = some u)/\∃ J,d=some J/\0<=B4 (a-3)/\B4 (a-3)<(c:Int)/\wpH P (Instr.storeAt 5 (.pointer (some (J.add ((B4 (a-3)).toNat*1)))) (Y ((t.toNat:Nat):Int))) (fun _ a0=>∃ L,d=some L/\0<=B4 (a-4)/\B4 (a-4)<(c:Int)/\wpH P (Instr.storeAt 5 (.pointer (some (L.add ((B4 (a-4)).toNat*1)))) (Y ((u.toNat:Nat):Int))) (fun _ a1=>g [I (B4 (a-4)),U32 (F3 (Int.tdiv (F3 b) (10000:Int)))] a1) a0) Z) X) e)
 (g [I a,U32 (F3 b)] e))/\
 ∀ (v:Int) (w:Int),∀ M,g [I v,U32 w] M->Y7 P d c K v w M)
theorem Ns(a:OA)(b d:Nat)(e:Int)(hvc:Ki Tryz.prog a b d e h K):FCall Tryz.prog O3 #[.slice a b d,U e] h K:=
 B7 Tryz.func236 (c:=C2 Tryz.f236) (by kernel_rfl) (rs:=[]) (by kernel_rfl) (fa:=⟨[(1,⟨[1,4],[],[.int .u64 0,.int .i64 0],⟨([1]++Lrg 4 8++Lrg 19 77),[]⟩⟩)],[(20,⟨[4,12],[],[.int .i64 0,.int .u32 0],⟨([4,12,13,14,15]++Lrg 98 40),[]⟩⟩),(25,⟨[4,12],[],[.int .i64 0,.int .u32 0],⟨([4,12,16]++Lrg 138 22),[]⟩⟩)],[(7,((Lrg 0 15),[[],[],[1],[],[],[4],[],[6],[6,7],[],[9],[0,1,2,6,7,8],[0,1,2,6,7,8,11],(Lrg 0 13),(Lrg 0 14)])),(8,((Lrg 0 15),[[],[],[1],[],[],[4],[],[6],[6,7],[],[9],[0,1,2,6,7,8],[0,1,2,6,7,8,11],(Lrg 0 13),(Lrg 0 14)])),(9,((Lrg 0 15),[[],[],[1],[],[],[4],[],[6],[6,7],[],[9],[0,1,2,6,7,8],[0,1,2,6,7,8,11],(Lrg 0 13),(Lrg 0 14)])),(10,((Lrg 0 15),[[],[],[1],[],[],[4],[],[6],[6,7],[],[9],[0,1,2,6,7,8],[0,1,2,6,7,8,11],(Lrg 0 13),(Lrg 0 14)])),(17,((Lrg 0 15),[[],[],[1],[],[],[4],[],[6],[6,7],[],[9],[0,1,2,6,7,8],[0,1,2,6,7,8,11],(Lrg 0 13),(Lrg 0 14)])),(18,((Lrg 0 15),[[],[],[1],[],[],[4],[],[6],[6,7],[],[9],[0,1,2,6,7,8],[0,1,2,6,7,8,11],(Lrg 0 13),(Lrg 0 14)])),(23,((Lrg 0 15),[[],[],[1],[],[],[4],[],[6],[6,7],[],[9],[0,1,2,6,7,8],[0,1,2,6,7,8,11],(Lrg 0 13),(Lrg 0 14)]))],[],[]⟩)
  (cfg:=⟨167,[],none,[],[],false⟩) (args:=[.slice a b d,U e]) (by kernel_rfl) Bodies.nil (Eq.mp (by kernel_rfl) hvc)
def Ug:ByteArray:={ data:=#[48,49,50,51,52,53,54,55,56,57,97,98,99,100,101,102,103,104,105,106,107,108,109,110,111,112,113,114,115,116,117,118,119,120,121,122] }
def B28(P:Program)(a:Int)(h:Heap)(K:Value->Heap->Prop):Prop:=
 Br (decide (a<(10:Int))) ((0<=B4 (a+1)/\B4 (a+1)<=((((Ug:ByteArray)).size:Nat):Int))/\(0<=a/\a<=(((B4 (a+1)).toNat:Nat):Int))/\K (.string (((Ug:ByteArray)).extract (a.toNat) ((B4 (a+1)).toNat))) h)
 ((0<=B4 ((B4 (a*(2:Int)))+2)/\B4 ((B4 (a*(2:Int)))+2)<=((((I7:ByteArray)).size:Nat):Int))/\(0<=B4 (a*(2:Int))/\B4 (a*(2:Int))<=(((B4 ((B4 (a*(2:Int)))+2)).toNat:Nat):Int))/\K (.string (((I7:ByteArray)).extract ((B4 (a*(2:Int))).toNat) ((B4 ((B4 (a*(2:Int)))+2)).toNat))) h)
theorem A82(a:Int)(hvc:B28 Tryz.prog a h K):FCall Tryz.prog Nx #[I a] h K:=
 B7 Tryz.func234 (c:=C2 Tryz.f234) (by kernel_rfl) (rs:=[.tmp 2]) (by kernel_rfl) (fa:=⟨[],[],[],[],[]⟩)
  (cfg:=⟨15,[],none,[],[],false⟩) (args:=[I a]) (by kernel_rfl) Bodies.nil (Eq.mp (by kernel_rfl) hvc)
def Sw(P:Program)(b:Int)(h:Heap)(K:Value->Heap->Prop):Prop:=
 FCall P Ny #[U b] h (fun g i=>∃ (c:Int),g=I c/\FCall P Mm #[I c] i (fun j f=>∃ (a:Int),j=I a/\(0<=a/\a<(20:Int))/\∃ (d:Int),f.cell? (Addr.add (⟨2,0,none⟩) (a.toNat*1))=some (U d)/\FCall P A29 #[.bool (decide (b>=d))] f (fun k l=>∃ (e:Int),k=I e/\K (I (B4 (a+e))) l)))
theorem Vp(a:Int)(hvc:Sw Tryz.prog a h K):FCall Tryz.prog U9 #[U a] h K:=
 B7 Tryz.func235 (c:=C2 Tryz.f235) (by kernel_rfl) (rs:=[.tmp 2]) (by kernel_rfl) (fa:=⟨[],[],[],[],[]⟩)
  (cfg:=⟨15,[],none,[253,254,255],[],false⟩) (args:=[U a]) (by kernel_rfl) (B0 Tryz.call253 (B0 Tryz.call254 (B0 Tryz.call255 Bodies.nil))) (Eq.mp (by kernel_rfl) hvc)
def Sy(P:Program)(a:Int)(h:Heap)(K:Value->Heap->Prop):Prop:=
 K (I (Int.fdiv (B4 (a*(78913:Int))) (2^(min ((18:Int)).toNat 64)))) h
theorem Vq(a:Int)(hvc:Sy Tryz.prog a h K):FCall Tryz.prog Mm #[I a] h K:=
 B7 Tryz.func253 (c:=C2 Tryz.f253) (by kernel_rfl) (rs:=[.tmp 2]) (by kernel_rfl) (fa:=⟨[],[],[],[],[]⟩)
  (cfg:=⟨6,[],none,[],[],false⟩) (args:=[I a]) (by kernel_rfl) Bodies.nil (Eq.mp (by kernel_rfl) hvc)
def B29(P:Program)(a:Bool)(h:Heap)(K:Value->Heap->Prop):Prop:=
 Br a (K (I 1) h)
 (K (I 0) h)
theorem A83(a:Bool)(hvc:B29 Tryz.prog a h K):FCall Tryz.prog A29 #[.bool a] h K:=
 B7 Tryz.func255 (c:=C2 Tryz.f255) (by kernel_rfl) (rs:=[.tmp 2]) (by kernel_rfl) (fa:=⟨[],[],[],[],[]⟩)
  (cfg:=⟨4,[],none,[],[],false⟩) (args:=[.bool a]) (by kernel_rfl) Bodies.nil (Eq.mp (by kernel_rfl) hvc)
def Tk(P:Program)(c d:ByteArray)(h:Heap)(K:Value->Heap->Prop):Prop:=
 FCall P Mq #[.string c,.string d] h (fun e f=>∃ (a:ByteArray) (b:Bool),e= .tuple #[.string a,.bool b]/\K (.tuple #[.string a,.bool b]) f)
theorem Vz(a b:ByteArray)(hvc:Tk Tryz.prog a b h K):FCall Tryz.prog Ft #[.string a,.string b] h K:=
 B7 Tryz.func177 (c:=C2 Tryz.f177) (by kernel_rfl) (rs:=[.tmp 4,.tmp 5]) (by kernel_rfl) (fa:=⟨[],[],[],[],[]⟩)
  (cfg:=⟨11,[],none,[215],[],false⟩) (args:=[.string a,.string b]) (by kernel_rfl) (B0 Tryz.call215 Bodies.nil) (Eq.mp (by kernel_rfl) hvc)
def Td(P:Program)(a b:ByteArray)(h:Heap)(K:Value->Heap->Prop):Prop:=
 FCall P Fp #[.string a,.string b] h (fun e d=>∃ (c:Bool),e= .bool c/\Br (!c) (K (.tuple #[.string a,.bool false]) d)
 ((0<=((ByteArray.size b:Nat):Int)/\((ByteArray.size b:Nat):Int)<=(((a).size:Nat):Int))/\K (.tuple #[.string ((a).extract ((((ByteArray.size b:Nat):Int)).toNat) ((a).size)),.bool true]) d))
theorem Vt(a b:ByteArray)(hvc:Td Tryz.prog a b h K):FCall Tryz.prog Mq #[.string a,.string b] h K:=
 B7 Tryz.func215 (c:=C2 Tryz.f215) (by kernel_rfl) (rs:=[.tmp 4,.tmp 5]) (by kernel_rfl) (fa:=⟨[],[],[],[],[]⟩)
  (cfg:=⟨15,[],none,[243],[],false⟩) (args:=[.string a,.string b]) (by kernel_rfl) (B0 Tryz.call243 Bodies.nil) (Eq.mp (by kernel_rfl) hvc)
def Ta(P:Program)(b a:ByteArray)(h:Heap)(K:Value->Heap->Prop):Prop:=
 Br (decide (((ByteArray.size b:Nat):Int)>=((ByteArray.size a:Nat):Int))) ((0<=((ByteArray.size a:Nat):Int)/\((ByteArray.size a:Nat):Int)<=(((b).size:Nat):Int))/\K (.bool (ByteArray.toList ((b).extract 0 ((((ByteArray.size a:Nat):Int)).toNat))==ByteArray.toList a)) h)
 (K (.bool false) h)
theorem Vr(a b:ByteArray)(hvc:Ta Tryz.prog a b h K):FCall Tryz.prog Fp #[.string a,.string b] h K:=
 B7 Tryz.func243 (c:=C2 Tryz.f243) (by kernel_rfl) (rs:=[.tmp 4]) (by kernel_rfl) (fa:=⟨[],[],[],[],[]⟩)
  (cfg:=⟨18,[],none,[],[],false⟩) (args:=[.string a,.string b]) (by kernel_rfl) Bodies.nil (Eq.mp (by kernel_rfl) hvc)
end Go.Proofs.YtajkakhfcokljaaGreatDoor
