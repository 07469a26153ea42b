/- A part. -/
import Derived.Test.YtmbfcbbkbefgfaaGreatDoorG07
open Go.Proofs.Tryz
set_option linter.all false
open _root_.ByteArray renaming size->aF
open _root_.Go.Instr renaming storeAt->aD
open Int renaming tmod->aC,tdiv->aE
open _root_.Go renaming Program->aH
open _root_.Go.Proofs.YtmbfcbbkbefgfaaGreatDoor renaming FCall->aG,Heap->aI
namespace Go.Proofs.YtmbfcbbkbefgfaaGreatDoor
open Go
set_option maxRecDepth 100000
variable {h:aI} {K:VP}
abbrev Gq:Nat:=286
abbrev B9k:Nat:=253
abbrev Iq:Nat:=250
abbrev Gj:Nat:=310
abbrev B9g:Nat:=288
abbrev Rv:Nat:=285
abbrev S2:Nat:=308
abbrev Th:Nat:=306
abbrev Ba:Nat:=307
abbrev Ru:Nat:=323
abbrev A8a:Nat:=324
abbrev Ir:Nat:=228
abbrev Rw:Nat:=268
abbrev Ii:Nat:=293
abbrev Tu:Nat:=343
def Xb(P:aH)(d:OA)(e f:Nat)(g:Int)(i:Int)(h:aI)(K:VP):Prop:=
 aG P Gj #[Sl d e f,U g,I i] h (fun j k=>∃ a b c,j=Sl a b c/\K (Sl a b c) k)
def Yc a b c d e(hvc:Xb prog a b c d e h K):aG prog Gq #[Sl a b c,U d,I e] h K:=
 fnk func286 an0 [] [] hvc
def Zx(P:aH)(b:Int)(c:Int)(h:aI)(K:VP):Prop:=
 aG P Rv #[I b,I c] h (fun d e=>∃ (a:ByteArray),d= .string a/\K (.string a) e)
def A2e a b(hvc:Zx prog a b h K):aG prog Iq #[I a,I b] h K:=
 fnk func250 an0 [] [] hvc
def Ww(P:aH)(c:OA)(d e:Nat)(b:Int)(g:Int)(h:aI)(K:VP):Prop:=
 Br (g==(10:Int)) (Bd (b<(100:Int)) (aG P Th #[I (B7 b)] h (fun t u=>∃ (i:ByteArray),t= .string i/\wpH P (Builtin.append_ #[248,9] 248 #[Sl c d e,.string i]) (fun v w=>∃ m n o,v=Sl m n o/\K (Sl m n o) w) u))
 (wpH P (Instr.alloc 343 true (.tuple #[])) (fun x y=>∃ (f:Addr),x= .pointer (some f)/\aG P Ba #[U b] y (fun z A=>∃ a,z=I a/\(0<=a/\a<=(24:Int))/\aG P S2 #[.slice (H9 (some f) 24 0 1) ((a.toNat)-0) (24-0),U b] A (fun B C=>B= .tuple #[]/\(0<=a/\a<=(24:Int))/\wpH P (Builtin.append_ #[248,248] 248 #[Sl c d e,.slice (H9 (some f) 24 0 1) ((a.toNat)-0) (24-0)]) (fun D E=>∃ p q r,D=Sl p q r/\K (Sl p q r) E) C))) h))
 (aG P 309 #[Sl c d e,U b,I g,.bool false,.bool true] h (fun F G=>∃ (j:OA) (k l:Nat) (s:ByteArray),F= .tuple #[Sl j k l,.string s]/\K (Sl j k l) G))
def Xw a b c d e(hvc:Ww prog a b c d e h K):aG prog Gj #[Sl a b c,U d,I e] h K:=
 fnk func310 an0 [] [308] hvc
def Zl(P:aH)(a:Int)(g:Int)(h:aI)(K:VP):Prop:=
 Br (g==(10:Int)) (∃ (e:LP),(Bd ((0:Int)<=a) (e [.bool (decide (a<(100:Int)))] h)
 (e [.bool false] h))/\
 ∀ r f,e [.bool r] f->Br r (aG P Th #[I a] f (fun v w=>∃ (i:ByteArray),v= .string i/\K (.string i) w))
 (wpH P (Instr.alloc 343 true (.tuple #[])) (fun x o=>∃ (d:Addr),x= .pointer (some d)/\Bd (a<(0:Int)) (aG P Ba #[U (C3 (0-(C3 a)))] o (fun y z=>∃ b,y=I b/\(0<=B7 ((1:Int)+b)/\B7 ((1:Int)+b)<=(24:Int))/\(0<=(1:Int)/\(1:Int)<=(((B7 ((1:Int)+b)).toNat:Nat):Int))/\aG P S2 #[.slice (H9 (some d) 24 (((1:Int)).toNat) 1) (((B7 ((1:Int)+b)).toNat)-(((1:Int)).toNat)) (24-(((1:Int)).toNat)),U (C3 (0-(C3 a)))] z (fun A p=>A= .tuple #[]/\Bd (a<(0:Int)) ((0<=(0:Int)/\(0:Int)<(24:Int))/\wpH P (aD 5 (.pointer (some (d.add (((0:Int)).toNat*1)))) (Y (45:Int))) (fun _ B=>(0<=B7 ((1:Int)+b)/\B7 ((1:Int)+b)<=(24:Int))/\wpH P (convert 248 9 (.slice (H9 (some d) 24 0 1) (((B7 ((1:Int)+b)).toNat)-0) (24-0))) (fun C D=>∃ (j:ByteArray),C= .string j/\K (.string j) D) B) p)
 ((0<=B7 ((1:Int)+b)/\B7 ((1:Int)+b)<=(24:Int))/\(0<=(1:Int)/\(1:Int)<=(((B7 ((1:Int)+b)).toNat:Nat):Int))/\wpH P (convert 248 9 (.slice (H9 (some d) 24 (((1:Int)).toNat) 1) (((B7 ((1:Int)+b)).toNat)-(((1:Int)).toNat)) (24-(((1:Int)).toNat)))) (fun E F=>∃ (k:ByteArray),E= .string k/\K (.string k) F) p))))
 (aG P Ba #[U (C3 a)] o (fun G H=>∃ c,G=I c/\(0<=B7 ((1:Int)+c)/\B7 ((1:Int)+c)<=(24:Int))/\(0<=(1:Int)/\(1:Int)<=(((B7 ((1:Int)+c)).toNat:Nat):Int))/\aG P S2 #[.slice (H9 (some d) 24 (((1:Int)).toNat) 1) (((B7 ((1:Int)+c)).toNat)-(((1:Int)).toNat)) (24-(((1:Int)).toNat)),U (C3 a)] H (fun J q=>J= .tuple #[]/\Bd (a<(0:Int)) ((0<=(0:Int)/\(0:Int)<(24:Int))/\wpH P (aD 5 (.pointer (some (d.add (((0:Int)).toNat*1)))) (Y (45:Int))) (fun _ L=>(0<=B7 ((1:Int)+c)/\B7 ((1:Int)+c)<=(24:Int))/\wpH P (convert 248 9 (.slice (H9 (some d) 24 0 1) (((B7 ((1:Int)+c)).toNat)-0) (24-0))) (fun M N=>∃ (l:ByteArray),M= .string l/\K (.string l) N) L) q)
 ((0<=B7 ((1:Int)+c)/\B7 ((1:Int)+c)<=(24:Int))/\(0<=(1:Int)/\(1:Int)<=(((B7 ((1:Int)+c)).toNat:Nat):Int))/\wpH P (convert 248 9 (.slice (H9 (some d) 24 (((1:Int)).toNat) 1) (((B7 ((1:Int)+c)).toNat)-(((1:Int)).toNat)) (24-(((1:Int)).toNat)))) (fun O Q=>∃ (m:ByteArray),O= .string m/\K (.string m) Q) q))))) f))
 (aG P 309 #[Sl none 0 0,U (C3 a),I g,.bool (decide (a<(0:Int))),.bool false] h (fun R S=>∃ (s:OA) (t u:Nat) (n:ByteArray),R= .tuple #[Sl s t u,.string n]/\K (.string n) S))
def A24 a b(hvc:Zl prog a b h K):aG prog Rv #[I a,I b] h K:=
 fnk func285 { cuts:=[(3,⟨[17],[],[.bool false],⟨[12,13,14,15,16,17],[]⟩⟩)] } [] [308] hvc
def J9:ByteArray:={ data:=#[48,48,48,49,48,50,48,51,48,52,48,53,48,54,48,55,48,56,48,57,49,48,49,49,49,50,49,51,49,52,49,53,49,54,49,55,49,56,49,57,50,48,50,49,50,50,50,51,50,52,50,53,50,54,50,55,50,56,50,57,51,48,51,49,51,50,51,51,51,52,51,53,51,54,51,55,51,56,51,57,52,48,52,49,52,50,52,51,52,52,52,53,52,54,52,55,52,56,52,57,53,48,53,49,53,50,53,51,53,52,53,53,53,54,53,55,53,56,53,57,54,48,54,49,54,50,54,51,54,52,54,53,54,54,54,55,54,56,54,57,55,48,55,49,55,50,55,51,55,52,55,53,55,54,55,55,55,56,55,57,56,48,56,49,56,50,56,51,56,52,56,53,56,54,56,55,56,56,56,57,57,48,57,49,57,50,57,51,57,52,57,53,57,54,57,55,57,56,57,57] }
def Bt(P:aH)(c:OA)(d:Nat)(K:VP)(e:Int)(f:Int)(a:aI):Prop:=
 Bd (e>(0:Int)) (∃ b,Ax c b (0:Int) d<|wpH P (aD 5 (.pointer (some (b.add (((0:Int)).toNat*1)))) (Y (wu8 (G9 ((48:Int)+f))))) (fun _ g=>K (.tuple #[]) g) a)
 (K (.tuple #[]) a)
def Bu(P:aH)(c:OA)(d:Nat)(K:VP)(a:Int)(b:Int)(f:aI):Prop:=
 ∃ (e:LP),(Bd (a>=(2:Int)) (∃ (g:UInt8),(0<=G9 ((G9 ((aC b (100:Int))*(2:Int)))+1)/\((J9:ByteArray))[(G9 ((G9 ((aC b (100:Int))*(2:Int)))+1)).toNat]? = some g)/\∃ (i:UInt8),(0<=G9 ((aC b (100:Int))*(2:Int))/\((J9:ByteArray))[(G9 ((aC b (100:Int))*(2:Int))).toNat]? = some i)/\∃ j,Ax c j (B7 (a-1)) d<|wpH P (aD 5 (.pointer (some (j.add ((B7 (a-1)).toNat*1)))) (Y ((g.toNat:Nat):Int))) (fun _ o=>∃ k,Ax c k (B7 (a-2)) d<|wpH P (aD 5 (.pointer (some (k.add ((B7 (a-2)).toNat*1)))) (Y ((i.toNat:Nat):Int))) (fun _ p=>e [I (B7 (a-2)),U32 (G9 (aE b (100:Int)))] p) o) f)
 (e [I a,U32 b] f))/\
 ∀ l m n,e [I l,U32 m] n->Bt P c d K l m n
def Pl(P:aH)(d:OA)(c a2:Nat)(N:Int)(h:aI)(K:VP):Prop:=
 ∃ (f:LP) (i:LN),f [U N,I (c:Int)] h/\
 ∀ b a e,f [U b,I a] e->Bd (a>=(8:Int)) (∃ (j:UInt8),(0<=G9 ((G9 ((aC (aC (G9 (aC b (100000000:Int))) (10000:Int)) (100:Int))*(2:Int)))+1)/\((J9:ByteArray))[(G9 ((G9 ((aC (aC (G9 (aC b (100000000:Int))) (10000:Int)) (100:Int))*(2:Int)))+1)).toNat]? = some j)/\∃ (k:UInt8),(0<=G9 ((aC (aC (G9 (aC b (100000000:Int))) (10000:Int)) (100:Int))*(2:Int))/\((J9:ByteArray))[(G9 ((aC (aC (G9 (aC b (100000000:Int))) (10000:Int)) (100:Int))*(2:Int))).toNat]? = some k)/\∃ w,Ax d w (B7 (a-1)) c<|wpH P (aD 5 (.pointer (some (w.add ((B7 (a-1)).toNat*1)))) (Y ((j.toNat:Nat):Int))) (fun _ O=>∃ x,Ax d x (B7 (a-2)) c<|wpH P (aD 5 (.pointer (some (x.add ((B7 (a-2)).toNat*1)))) (Y ((k.toNat:Nat):Int))) (fun _ Q=>∃ (l:UInt8),(0<=G9 ((G9 ((G9 (aE (aC (G9 (aC b (100000000:Int))) (10000:Int)) (100:Int)))*(2:Int)))+1)/\((J9:ByteArray))[(G9 ((G9 ((G9 (aE (aC (G9 (aC b (100000000:Int))) (10000:Int)) (100:Int)))*(2:Int)))+1)).toNat]? = some l)/\∃ (m:UInt8),(0<=G9 ((G9 (aE (aC (G9 (aC b (100000000:Int))) (10000:Int)) (100:Int)))*(2:Int))/\((J9:ByteArray))[(G9 ((G9 (aE (aC (G9 (aC b (100000000:Int))) (10000:Int)) (100:Int)))*(2:Int))).toNat]? = some m)/\∃ y,Ax d y (B7 (a-3)) c<|wpH P (aD 5 (.pointer (some (y.add ((B7 (a-3)).toNat*1)))) (Y ((l.toNat:Nat):Int))) (fun _ R=>∃ z,Ax d z (B7 (a-4)) c<|wpH P (aD 5 (.pointer (some (z.add ((B7 (a-4)).toNat*1)))) (Y ((m.toNat:Nat):Int))) (fun _ S=>∃ (n:UInt8),(0<=G9 ((G9 ((aC (G9 (aE (G9 (aC b (100000000:Int))) (10000:Int))) (100:Int))*(2:Int)))+1)/\((J9:ByteArray))[(G9 ((G9 ((aC (G9 (aE (G9 (aC b (100000000:Int))) (10000:Int))) (100:Int))*(2:Int)))+1)).toNat]? = some n)/\∃ (o:UInt8),(0<=G9 ((aC (G9 (aE (G9 (aC b (100000000:Int))) (10000:Int))) (100:Int))*(2:Int))/\((J9:ByteArray))[(G9 ((aC (G9 (aE (G9 (aC b (100000000:Int))) (10000:Int))) (100:Int))*(2:Int))).toNat]? = some o)/\∃ A,Ax d A (B7 (a-5)) c<|wpH P (aD 5 (.pointer (some (A.add ((B7 (a-5)).toNat*1)))) (Y ((n.toNat:Nat):Int))) (fun _ T=>∃ B,Ax d B (B7 (a-6)) c<|wpH P (aD 5 (.pointer (some (B.add ((B7 (a-6)).toNat*1)))) (Y ((o.toNat:Nat):Int))) (fun _ V=>∃ (p:UInt8),(0<=G9 ((G9 ((G9 (aE (G9 (aE (G9 (aC b (100000000:Int))) (10000:Int))) (100:Int)))*(2:Int)))+1)/\((J9:ByteArray))[(G9 ((G9 ((G9 (aE (G9 (aE (G9 (aC b (100000000:Int))) (10000:Int))) (100:Int)))*(2:Int)))+1)).toNat]? = some p)/\∃ (q:UInt8),(0<=G9 ((G9 (aE (G9 (aE (G9 (aC b (100000000:Int))) (10000:Int))) (100:Int)))*(2:Int))/\((J9:ByteArray))[(G9 ((G9 (aE (G9 (aE (G9 (aC b (100000000:Int))) (10000:Int))) (100:Int)))*(2:Int))).toNat]? = some q)/\∃ C,Ax d C (B7 (a-7)) c<|wpH P (aD 5 (.pointer (some (C.add ((B7 (a-7)).toNat*1)))) (Y ((p.toNat:Nat):Int))) (fun _ W=>∃ D,Ax d D (B7 (a-8)) c<|wpH P (aD 5 (.pointer (some (D.add ((B7 (a-8)).toNat*1)))) (Y ((q.toNat:Nat):Int))) (fun _ v=>f [U (C3 (aE b (100000000:Int))),I (B7 (a-8))] v/\i [U (C3 (aE b (100000000:Int))),I (B7 (a-8))] v<i [U b,I a] e) W) V) T) S) R) Q) O) e)
 (∃ (g:LP),(Bd (a>=(4:Int)) (∃ (r:UInt8),(0<=G9 ((G9 ((aC (aC (G9 b) (10000:Int)) (100:Int))*(2:Int)))+1)/\((J9:ByteArray))[(G9 ((G9 ((aC (aC (G9 b) (10000:Int)) (100:Int))*(2:Int)))+1)).toNat]? = some r)/\∃ (s:UInt8),(0<=G9 ((aC (aC (G9 b) (10000:Int)) (100:Int))*(2:Int))/\((J9:ByteArray))[(G9 ((aC (aC (G9 b) (10000:Int)) (100:Int))*(2:Int))).toNat]? = some s)/\∃ E,Ax d E (B7 (a-1)) c<|wpH P (aD 5 (.pointer (some (E.add ((B7 (a-1)).toNat*1)))) (Y ((r.toNat:Nat):Int))) (fun _ X=>∃ F,Ax d F (B7 (a-2)) c<|wpH P (aD 5 (.pointer (some (F.add ((B7 (a-2)).toNat*1)))) (Y ((s.toNat:Nat):Int))) (fun _ Z=>∃ (t:UInt8),(0<=G9 ((G9 ((G9 (aE (aC (G9 b) (10000:Int)) (100:Int)))*(2:Int)))+1)/\((J9:ByteArray))[(G9 ((G9 ((G9 (aE (aC (G9 b) (10000:Int)) (100:Int)))*(2:Int)))+1)).toNat]? = some t)/\∃ (u:UInt8),(0<=G9 ((G9 (aE (aC (G9 b) (10000:Int)) (100:Int)))*(2:Int))/\((J9:ByteArray))[(G9 ((G9 (aE (aC (G9 b) (10000:Int)) (100:Int)))*(2:Int))).toNat]? = some u)/\∃ G,Ax d G (B7 (a-3)) c<|wpH P (aD 5 (.pointer (some (G.add ((B7 (a-3)).toNat*1)))) (Y ((t.toNat:Nat):Int))) (fun _ a0=>∃ H,Ax d H (B7 (a-4)) c<|wpH P (aD 5 (.pointer (some (H.add ((B7 (a-4)).toNat*1)))) (Y ((u.toNat:Nat):Int))) (fun _ a1=>g [I (B7 (a-4)),U32 (G9 (aE (G9 b) (10000:Int)))] a1) a0) Z) X) e)
 (g [I a,U32 (G9 b)] e))/\
 ∀ J L M,g [I J,U32 L] M->Bu P d c K J L M)
def Sw a b c d(hvc:Pl prog a b c d h K):aG prog S2 #[Sl a b c,U d] h K:=
 fnk func308 ⟨[(1,⟨[1,4],[],[U 0,I 0],⟨([1]++Lrg 4 8++Lrg 19 77),[]⟩⟩)],[(20,⟨[4,12],[],[I 0,.int .u32 0],⟨([4,12,13,14,15]++Lrg 98 40),[]⟩⟩),(25,⟨[4,12],[],[I 0,.int .u32 0],⟨([4,12,16]++Lrg 138 22),[]⟩⟩)],[],[],[]⟩ [] [] hvc
def A0o:ByteArray:={ data:=#[48,49,50,51,52,53,54,55,56,57,97,98,99,100,101,102,103,104,105,106,107,108,109,110,111,112,113,114,115,116,117,118,119,120,121,122] }
def C04(P:aH)(a:Int)(h:aI)(K:VP):Prop:=
 Bd (a<(10:Int)) ((0<=B7 (a+1)/\B7 (a+1)<=((((A0o:ByteArray)).size:Nat):Int))/\(0<=a/\a<=(((B7 (a+1)).toNat:Nat):Int))/\K (.string (((A0o:ByteArray)).extract (a.toNat) ((B7 (a+1)).toNat))) h)
 ((0<=B7 ((B7 (a*(2:Int)))+2)/\B7 ((B7 (a*(2:Int)))+2)<=((((J9:ByteArray)).size:Nat):Int))/\(0<=B7 (a*(2:Int))/\B7 (a*(2:Int))<=(((B7 ((B7 (a*(2:Int)))+2)).toNat:Nat):Int))/\K (.string (((J9:ByteArray)).extract ((B7 (a*(2:Int))).toNat) ((B7 ((B7 (a*(2:Int)))+2)).toNat))) h)
def B59 a(hvc:C04 prog a h K):aG prog Th #[I a] h K:=
 fnk func306 an0 [] [] hvc
def Zi(P:aH)(b:Int)(h:aI)(K:VP):Prop:=
 aG P Tl #[U b] h (fun g i=>∃ d,g=I d/\aG P Ru #[I d] i (fun j c=>∃ a,j=I a/\(0<=a/\a<(20:Int))/\∃ e,c.cell? (Addr.add (⟨3,0,none⟩) (a.toNat*1))=some (U e)/\aG P A8a #[.bool (decide (b>=e))] c (fun k l=>∃ f,k=I f/\K (I (B7 (a+f))) l)))
def A21 a(hvc:Zi prog a h K):aG prog Ba #[U a] h K:=
 fnk func307 an0 [] [] hvc
def Zj(P:aH)(a:Int)(h:aI)(K:VP):Prop:=
 K (I (Int.fdiv (B7 (a*(78913:Int))) (2^(min ((18:Int)).toNat 64)))) h
def A22 a(hvc:Zj prog a h K):aG prog Ru #[I a] h K:=
 fnk func323 an0 [] [] hvc
def C05(P:aH)(a:Bool)(h:aI)(K:VP):Prop:=
 Br a (K (I 1) h)
 (K (I 0) h)
def B5a a(hvc:C05 prog a h K):aG prog A8a #[.bool a] h K:=
 fnk func324 an0 [] [] hvc
def Zy(P:aH)(c d:ByteArray)(h:aI)(K:VP):Prop:=
 aG P Rw #[.string c,.string d] h (fun e f=>∃ (a:ByteArray) (b:Bool),e= .tuple #[.string a,.bool b]/\K (.tuple #[.string a,.bool b]) f)
def A2f a b(hvc:Zy prog a b h K):aG prog Ir #[.string a,.string b] h K:=
 fnk func228 an0 [] [] hvc
def Zm(P:aH)(a b:ByteArray)(h:aI)(K:VP):Prop:=
 aG P Ii #[.string a,.string b] h (fun e d=>∃ (c:Bool),e= .bool c/\Br (!c) (K (.tuple #[.string a,.bool false]) d)
 ((0<=((aF b:Nat):Int)/\((aF b:Nat):Int)<=(((a).size:Nat):Int))/\K (.tuple #[.string ((a).extract ((((aF b:Nat):Int)).toNat) ((a).size)),.bool true]) d))
def A25 a b(hvc:Zm prog a b h K):aG prog Rw #[.string a,.string b] h K:=
 fnk func268 an0 [] [] hvc
def Zk(P:aH)(b a:ByteArray)(h:aI)(K:VP):Prop:=
 Bd (((aF b:Nat):Int)>=((aF a:Nat):Int)) ((0<=((aF a:Nat):Int)/\((aF a:Nat):Int)<=(((b).size:Nat):Int))/\K (.bool (ByteArray.toList ((b).extract 0 ((((aF a:Nat):Int)).toNat))==a.toList)) h)
 (K (.bool false) h)
def A23 a b(hvc:Zk prog a b h K):aG prog Ii #[.string a,.string b] h K:=
 fnk func293 an0 [] [] hvc
