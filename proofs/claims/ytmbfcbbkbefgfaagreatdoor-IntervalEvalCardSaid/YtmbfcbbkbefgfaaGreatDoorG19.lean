/- A part. -/
import Derived.Test.YtmbfcbbkbefgfaaGreatDoorG18
open Go.Proofs.Tryz
set_option linter.all false
open _root_.Go.Builtin renaming append_->aJ
open _root_.ByteArray renaming size->aG
open _root_.Go.Instr renaming storeAt->aD
open Int renaming tmod->aC,tdiv->aE
open _root_.Go renaming Program->aH
open _root_.Go.Proofs.YtmbfcbbkbefgfaaGreatDoor renaming FCall->aF,Heap->aI
namespace Go.Proofs.YtmbfcbbkbefgfaaGreatDoor
open Go
set_option maxRecDepth 100000
variable {h:aI} {K:VP}
abbrev Ej:Nat:=286
abbrev Cb:Nat:=253
abbrev Ca:Nat:=250
abbrev S0:Nat:=310
abbrev Ov:Nat:=288
abbrev Ot:Nat:=285
abbrev N4:Nat:=308
abbrev Qd:Nat:=306
abbrev X5:Nat:=307
abbrev Oq:Nat:=323
abbrev A5g:Nat:=324
abbrev Gn:Nat:=228
abbrev Ou:Nat:=268
abbrev Ge:Nat:=293
abbrev Qn:Nat:=343
def Tw(P:aH)(d:OA)(e f:Nat)(g:Int)(i:Int)(h:aI)(K:VP):Prop:=
 aF P S0 #[Sl d e f,U g,I i] h (fun j k=>∃ a b c,j=Sl a b c/\K (Sl a b c) k)
def Us a b c d e(hvc:Tw prog a b c d e h K):aF prog Ej #[Sl a b c,U d,I e] h K:=
 fnk func286 an0 [] [] hvc
def Wy(P:aH)(d:OA)(e f:Nat)(g:Int)(i:Int)(h:aI)(K:VP):Prop:=
 aF P Ov #[Sl d e f,I g,I i] h (fun j k=>∃ a b c,j=Sl a b c/\K (Sl a b c) k)
def Zx a b c d e(hvc:Wy prog a b c d e h K):aF prog Cb #[Sl a b c,I d,I e] h K:=
 fnk func253 an0 [] [] hvc
def Ww(P:aH)(b:Int)(c:Int)(h:aI)(K:VP):Prop:=
 aF P Ot #[I b,I c] h (fun d e=>∃ (a:ByteArray),d= .string a/\K (.string a) e)
def Zu a b(hvc:Ww prog a b h K):aF prog Ca #[I a,I b] h K:=
 fnk func250 an0 [] [] hvc
def Tr(P:aH)(c:OA)(d e:Nat)(b:Int)(g:Int)(h:aI)(K:VP):Prop:=
 Br (g==10) (Bd (b<100) (aF P Qd #[I (B5 b)] h (fun t u=>∃ (i:ByteArray),t= .string i/\wpH P (aJ #[248,9] 248 #[Sl c d e,.string i]) (fun v w=>∃ m n o,v=Sl m n o/\K (Sl m n o) w) u))
 (wpH P (Instr.alloc 343 true (T0)) (fun x y=>∃ (f:Addr),x=Pt f/\aF P X5 #[U b] y (fun z A=>∃ a,z=I a/\(0<=a/\a<=(24:Int))/\aF P N4 #[.slice (J4 (some f) 24 0 1) ((a.toNat)-0) (24-0),U b] A (fun B C=>B=T0/\(0<=a/\a<=(24:Int))/\wpH P (aJ #[248,248] 248 #[Sl c d e,.slice (J4 (some f) 24 0 1) ((a.toNat)-0) (24-0)]) (fun D E=>∃ p q r,D=Sl p q r/\K (Sl p q r) E) C))) h))
 (aF P 309 #[Sl c d e,U b,I g,.bool false,.bool true] h (fun F G=>∃ (j:OA) (k l:Nat) (s:ByteArray),F= .tuple #[Sl j k l,.string s]/\K (Sl j k l) G))
def Um a b c d e(hvc:Tr prog a b c d e h K):aF prog S0 #[Sl a b c,U d,I e] h K:=
 fnk func310 an0 [] [308] hvc
def Wj(P:aH)(b:OA)(c d:Nat)(a:Int)(e:Int)(h:aI)(K:VP):Prop:=
 Bd (a<0) (wpH P (Instr.buildSlice 248 1 #[(0,Y (45:Int))]) (fun s t=>∃ f g i,s=Sl f g i/\wpH P (aJ #[248,248] 248 #[Sl b c d,Sl f g i]) (fun u v=>∃ j k l,u=Sl j k l/\aF P S0 #[Sl j k l,U (B8 (0-(B8 a))),I e] v (fun w x=>∃ m n o,w=Sl m n o/\K (Sl m n o) x)) t) h)
 (aF P S0 #[Sl b c d,U (B8 a),I e] h (fun y z=>∃ p q r,y=Sl p q r/\K (Sl p q r) z))
def Zl a b c d e(hvc:Wj prog a b c d e h K):aF prog Ov #[Sl a b c,I d,I e] h K:=
 fnk func288 an0 [] [] hvc
def Wg(P:aH)(a:Int)(g:Int)(h:aI)(K:VP):Prop:=
 Br (g==10) (∃ (e:LP),(Bd ((0:Int)<=a) (e [.bool (decide (a<100))] h)
 (e [.bool false] h))/\
 ∀ r f,e [.bool r] f->Br r (aF P Qd #[I a] f (fun v w=>∃ (i:ByteArray),v= .string i/\K (.string i) w))
 (wpH P (Instr.alloc 343 true (T0)) (fun x o=>∃ (d:Addr),x=Pt d/\Bd (a<0) (aF P X5 #[U (B8 (0-(B8 a)))] o (fun y z=>∃ b,y=I b/\(0<=B5 ((1:Int)+b)/\B5 ((1:Int)+b)<=(24:Int))/\(0<=(1:Int)/\(1:Int)<=(((B5 ((1:Int)+b)).toNat:Nat):Int))/\aF P N4 #[.slice (J4 (some d) 24 (((1:Int)).toNat) 1) (((B5 ((1:Int)+b)).toNat)-(((1:Int)).toNat)) (24-(((1:Int)).toNat)),U (B8 (0-(B8 a)))] z (fun A p=>A=T0/\Bd (a<0) ((0<=(0:Int)/\(0:Int)<(24:Int))/\wpH P (aD 5 (Pt (d.add (((0:Int)).toNat*1))) (Y (45:Int))) (fun _ B=>(0<=B5 ((1:Int)+b)/\B5 ((1:Int)+b)<=(24:Int))/\wpH P (convert 248 9 (.slice (J4 (some d) 24 0 1) (((B5 ((1:Int)+b)).toNat)-0) (24-0))) (fun C D=>∃ (j:ByteArray),C= .string j/\K (.string j) D) B) p)
 ((0<=B5 ((1:Int)+b)/\B5 ((1:Int)+b)<=(24:Int))/\(0<=(1:Int)/\(1:Int)<=(((B5 ((1:Int)+b)).toNat:Nat):Int))/\wpH P (convert 248 9 (.slice (J4 (some d) 24 (((1:Int)).toNat) 1) (((B5 ((1:Int)+b)).toNat)-(((1:Int)).toNat)) (24-(((1:Int)).toNat)))) (fun E F=>∃ (k:ByteArray),E= .string k/\K (.string k) F) p))))
 (aF P X5 #[U (B8 a)] o (fun G H=>∃ c,G=I c/\(0<=B5 ((1:Int)+c)/\B5 ((1:Int)+c)<=(24:Int))/\(0<=(1:Int)/\(1:Int)<=(((B5 ((1:Int)+c)).toNat:Nat):Int))/\aF P N4 #[.slice (J4 (some d) 24 (((1:Int)).toNat) 1) (((B5 ((1:Int)+c)).toNat)-(((1:Int)).toNat)) (24-(((1:Int)).toNat)),U (B8 a)] H (fun J q=>J=T0/\Bd (a<0) ((0<=(0:Int)/\(0:Int)<(24:Int))/\wpH P (aD 5 (Pt (d.add (((0:Int)).toNat*1))) (Y (45:Int))) (fun _ L=>(0<=B5 ((1:Int)+c)/\B5 ((1:Int)+c)<=(24:Int))/\wpH P (convert 248 9 (.slice (J4 (some d) 24 0 1) (((B5 ((1:Int)+c)).toNat)-0) (24-0))) (fun M N=>∃ (l:ByteArray),M= .string l/\K (.string l) N) L) q)
 ((0<=B5 ((1:Int)+c)/\B5 ((1:Int)+c)<=(24:Int))/\(0<=(1:Int)/\(1:Int)<=(((B5 ((1:Int)+c)).toNat:Nat):Int))/\wpH P (convert 248 9 (.slice (J4 (some d) 24 (((1:Int)).toNat) 1) (((B5 ((1:Int)+c)).toNat)-(((1:Int)).toNat)) (24-(((1:Int)).toNat)))) (fun O Q=>∃ (m:ByteArray),O= .string m/\K (.string m) Q) q))))) f))
 (aF P 309 #[Sl none 0 0,U (B8 a),I g,.bool (decide (a<0)),.bool false] h (fun R S=>∃ (s:OA) (t u:Nat) (n:ByteArray),R= .tuple #[Sl s t u,.string n]/\K (.string n) S))
def Zj a b(hvc:Wg prog a b h K):aF prog Ot #[I a,I b] h K:=
 fnk func285 { cuts:=[(3,⟨[17],[],[.bool false],⟨[12,13,14,15,16,17],[]⟩⟩)] } [] [308] hvc
def G9:ByteArray:={ data:=#[48,48,48,49,48,50,48,51,48,52,48,53,48,54,48,55,48,56,48,57,49,48,49,49,49,50,49,51,49,52,49,53,49,54,49,55,49,56,49,57,50,48,50,49,50,50,50,51,50,52,50,53,50,54,50,55,50,56,50,57,51,48,51,49,51,50,51,51,51,52,51,53,51,54,51,55,51,56,51,57,52,48,52,49,52,50,52,51,52,52,52,53,52,54,52,55,52,56,52,57,53,48,53,49,53,50,53,51,53,52,53,53,53,54,53,55,53,56,53,57,54,48,54,49,54,50,54,51,54,52,54,53,54,54,54,55,54,56,54,57,55,48,55,49,55,50,55,51,55,52,55,53,55,54,55,55,55,56,55,57,56,48,56,49,56,50,56,51,56,52,56,53,56,54,56,55,56,56,56,57,57,48,57,49,57,50,57,51,57,52,57,53,57,54,57,55,57,56,57,57] }
def Z5(P:aH)(c:OA)(d:Nat)(K:VP)(e:Int)(f:Int)(a:aI):Prop:=
 Bd (e>0) (∃ b,Ax c b (0:Int) d<|wpH P (aD 5 (Pt (b.add (((0:Int)).toNat*1))) (Y (wu8 (E9 ((48:Int)+f))))) (fun _ g=>K (T0) g) a)
 (K (T0) a)
def Z6(P:aH)(c:OA)(d:Nat)(K:VP)(a:Int)(b:Int)(f:aI):Prop:=
 ∃ (e:LP),(Bd (a>=2) (∃ (g:UInt8),(0<=E9 ((E9 ((aC b (100:Int))*(2:Int)))+1)/\((G9:ByteArray))[(E9 ((E9 ((aC b (100:Int))*(2:Int)))+1)).toNat]? = some g)/\∃ (i:UInt8),(0<=E9 ((aC b (100:Int))*(2:Int))/\((G9:ByteArray))[(E9 ((aC b (100:Int))*(2:Int))).toNat]? = some i)/\∃ j,Ax c j (B5 (a-1)) d<|wpH P (aD 5 (Pt (j.add ((B5 (a-1)).toNat*1))) (Y ((g.toNat:Nat):Int))) (fun _ o=>∃ k,Ax c k (B5 (a-2)) d<|wpH P (aD 5 (Pt (k.add ((B5 (a-2)).toNat*1))) (Y ((i.toNat:Nat):Int))) (fun _ p=>e [I (B5 (a-2)),U32 (E9 (aE b (100:Int)))] p) o) f)
 (e [I a,U32 b] f))/\
 ∀ l m n,e [I l,U32 m] n->Z5 P c d K l m n
def Ly(P:aH)(d:OA)(c a2:Nat)(N:Int)(h:aI)(K:VP):Prop:=
 ∃ (f:LP) (i:LN),f [U N,I (c:Int)] h/\
 ∀ b a e,f [U b,I a] e->Bd (a>=8) (∃ (j:UInt8),(0<=E9 ((E9 ((aC (aC (E9 (aC b (100000000:Int))) (10000:Int)) (100:Int))*(2:Int)))+1)/\((G9:ByteArray))[(E9 ((E9 ((aC (aC (E9 (aC b (100000000:Int))) (10000:Int)) (100:Int))*(2:Int)))+1)).toNat]? = some j)/\∃ (k:UInt8),(0<=E9 ((aC (aC (E9 (aC b (100000000:Int))) (10000:Int)) (100:Int))*(2:Int))/\((G9:ByteArray))[(E9 ((aC (aC (E9 (aC b (100000000:Int))) (10000:Int)) (100:Int))*(2:Int))).toNat]? = some k)/\∃ w,Ax d w (B5 (a-1)) c<|wpH P (aD 5 (Pt (w.add ((B5 (a-1)).toNat*1))) (Y ((j.toNat:Nat):Int))) (fun _ O=>∃ x,Ax d x (B5 (a-2)) c<|wpH P (aD 5 (Pt (x.add ((B5 (a-2)).toNat*1))) (Y ((k.toNat:Nat):Int))) (fun _ Q=>∃ (l:UInt8),(0<=E9 ((E9 ((E9 (aE (aC (E9 (aC b (100000000:Int))) (10000:Int)) (100:Int)))*(2:Int)))+1)/\((G9:ByteArray))[(E9 ((E9 ((E9 (aE (aC (E9 (aC b (100000000:Int))) (10000:Int)) (100:Int)))*(2:Int)))+1)).toNat]? = some l)/\∃ (m:UInt8),(0<=E9 ((E9 (aE (aC (E9 (aC b (100000000:Int))) (10000:Int)) (100:Int)))*(2:Int))/\((G9:ByteArray))[(E9 ((E9 (aE (aC (E9 (aC b (100000000:Int))) (10000:Int)) (100:Int)))*(2:Int))).toNat]? = some m)/\∃ y,Ax d y (B5 (a-3)) c<|wpH P (aD 5 (Pt (y.add ((B5 (a-3)).toNat*1))) (Y ((l.toNat:Nat):Int))) (fun _ R=>∃ z,Ax d z (B5 (a-4)) c<|wpH P (aD 5 (Pt (z.add ((B5 (a-4)).toNat*1))) (Y ((m.toNat:Nat):Int))) (fun _ S=>∃ (n:UInt8),(0<=E9 ((E9 ((aC (E9 (aE (E9 (aC b (100000000:Int))) (10000:Int))) (100:Int))*(2:Int)))+1)/\((G9:ByteArray))[(E9 ((E9 ((aC (E9 (aE (E9 (aC b (100000000:Int))) (10000:Int))) (100:Int))*(2:Int)))+1)).toNat]? = some n)/\∃ (o:UInt8),(0<=E9 ((aC (E9 (aE (E9 (aC b (100000000:Int))) (10000:Int))) (100:Int))*(2:Int))/\((G9:ByteArray))[(E9 ((aC (E9 (aE (E9 (aC b (100000000:Int))) (10000:Int))) (100:Int))*(2:Int))).toNat]? = some o)/\∃ A,Ax d A (B5 (a-5)) c<|wpH P (aD 5 (Pt (A.add ((B5 (a-5)).toNat*1))) (Y ((n.toNat:Nat):Int))) (fun _ T=>∃ B,Ax d B (B5 (a-6)) c<|wpH P (aD 5 (Pt (B.add ((B5 (a-6)).toNat*1))) (Y ((o.toNat:Nat):Int))) (fun _ V=>∃ (p:UInt8),(0<=E9 ((E9 ((E9 (aE (E9 (aE (E9 (aC b (100000000:Int))) (10000:Int))) (100:Int)))*(2:Int)))+1)/\((G9:ByteArray))[(E9 ((E9 ((E9 (aE (E9 (aE (E9 (aC b (100000000:Int))) (10000:Int))) (100:Int)))*(2:Int)))+1)).toNat]? = some p)/\∃ (q:UInt8),(0<=E9 ((E9 (aE (E9 (aE (E9 (aC b (100000000:Int))) (10000:Int))) (100:Int)))*(2:Int))/\((G9:ByteArray))[(E9 ((E9 (aE (E9 (aE (E9 (aC b (100000000:Int))) (10000:Int))) (100:Int)))*(2:Int))).toNat]? = some q)/\∃ C,Ax d C (B5 (a-7)) c<|wpH P (aD 5 (Pt (C.add ((B5 (a-7)).toNat*1))) (Y ((p.toNat:Nat):Int))) (fun _ W=>∃ D,Ax d D (B5 (a-8)) c<|wpH P (aD 5 (Pt (D.add ((B5 (a-8)).toNat*1))) (Y ((q.toNat:Nat):Int))) (fun _ v=>f [U (B8 (aE b (100000000:Int))),I (B5 (a-8))] v/\i [U (B8 (aE b (100000000:Int))),I (B5 (a-8))] v<i [U b,I a] e) W) V) T) S) R) Q) O) e)
 (∃ (g:LP),(Bd (a>=4) (∃ (r:UInt8),(0<=E9 ((E9 ((aC (aC (E9 b) (10000:Int)) (100:Int))*(2:Int)))+1)/\((G9:ByteArray))[(E9 ((E9 ((aC (aC (E9 b) (10000:Int)) (100:Int))*(2:Int)))+1)).toNat]? = some r)/\∃ (s:UInt8),(0<=E9 ((aC (aC (E9 b) (10000:Int)) (100:Int))*(2:Int))/\((G9:ByteArray))[(E9 ((aC (aC (E9 b) (10000:Int)) (100:Int))*(2:Int))).toNat]? = some s)/\∃ E,Ax d E (B5 (a-1)) c<|wpH P (aD 5 (Pt (E.add ((B5 (a-1)).toNat*1))) (Y ((r.toNat:Nat):Int))) (fun _ X=>∃ F,Ax d F (B5 (a-2)) c<|wpH P (aD 5 (Pt (F.add ((B5 (a-2)).toNat*1))) (Y ((s.toNat:Nat):Int))) (fun _ Z=>∃ (t:UInt8),(0<=E9 ((E9 ((E9 (aE (aC (E9 b) (10000:Int)) (100:Int)))*(2:Int)))+1)/\((G9:ByteArray))[(E9 ((E9 ((E9 (aE (aC (E9 b) (10000:Int)) (100:Int)))*(2:Int)))+1)).toNat]? = some t)/\∃ (u:UInt8),(0<=E9 ((E9 (aE (aC (E9 b) (10000:Int)) (100:Int)))*(2:Int))/\((G9:ByteArray))[(E9 ((E9 (aE (aC (E9 b) (10000:Int)) (100:Int)))*(2:Int))).toNat]? = some u)/\∃ G,Ax d G (B5 (a-3)) c<|wpH P (aD 5 (Pt (G.add ((B5 (a-3)).toNat*1))) (Y ((t.toNat:Nat):Int))) (fun _ a0=>∃ H,Ax d H (B5 (a-4)) c<|wpH P (aD 5 (Pt (H.add ((B5 (a-4)).toNat*1))) (Y ((u.toNat:Nat):Int))) (fun _ a1=>g [I (B5 (a-4)),U32 (E9 (aE (E9 b) (10000:Int)))] a1) a0) Z) X) e)
 (g [I a,U32 (E9 b)] e))/\
 ∀ J L M,g [I J,U32 L] M->Z6 P d c K J L M)
def Ps a b c d(hvc:Ly prog a b c d h K):aF prog N4 #[Sl a b c,U d] h K:=
 fnk func308 ⟨[(1,⟨[1,4],[],[U 0,I 0],⟨([1]++Lrg 4 8++Lrg 19 77),[]⟩⟩)],[(20,⟨[4,12],[],[I 0,.int .u32 0],⟨([4,12,13,14,15]++Lrg 98 40),[]⟩⟩),(25,⟨[4,12],[],[I 0,.int .u32 0],⟨([4,12,16]++Lrg 138 22),[]⟩⟩)],[],[],[]⟩ [] [] hvc
def Xu:ByteArray:={ data:=#[48,49,50,51,52,53,54,55,56,57,97,98,99,100,101,102,103,104,105,106,107,108,109,110,111,112,113,114,115,116,117,118,119,120,121,122] }
def B5z(P:aH)(a:Int)(h:aI)(K:VP):Prop:=
 Bd (a<10) ((0<=B5 (a+1)/\B5 (a+1)<=((((Xu:ByteArray)).size:Nat):Int))/\(0<=a/\a<=(((B5 (a+1)).toNat:Nat):Int))/\K (.string (((Xu:ByteArray)).extract (a.toNat) ((B5 (a+1)).toNat))) h)
 ((0<=B5 ((B5 (a*(2:Int)))+2)/\B5 ((B5 (a*(2:Int)))+2)<=((((G9:ByteArray)).size:Nat):Int))/\(0<=B5 (a*(2:Int))/\B5 (a*(2:Int))<=(((B5 ((B5 (a*(2:Int)))+2)).toNat:Nat):Int))/\K (.string (((G9:ByteArray)).extract ((B5 (a*(2:Int))).toNat) ((B5 ((B5 (a*(2:Int)))+2)).toNat))) h)
def B1d a(hvc:B5z prog a h K):aF prog Qd #[I a] h K:=
 fnk func306 an0 [] [] hvc
def Wd(P:aH)(b:Int)(h:aI)(K:VP):Prop:=
 aF P Lf #[U b] h (fun g i=>∃ d,g=I d/\aF P Oq #[I d] i (fun j c=>∃ a,j=I a/\(0<=a/\a<(20:Int))/\∃ e,c.cell? (Addr.add (⟨3,0,none⟩) (a.toNat*1))=some (U e)/\aF P A5g #[.bool (decide (b>=e))] c (fun k l=>∃ f,k=I f/\K (I (B5 (a+f))) l)))
def Zg a(hvc:Wd prog a h K):aF prog X5 #[U a] h K:=
 fnk func307 an0 [] [] hvc
def We(P:aH)(a:Int)(h:aI)(K:VP):Prop:=
 K (I (Int.fdiv (B5 (a*(78913:Int))) (2^(min ((18:Int)).toNat 64)))) h
def Zh a(hvc:We prog a h K):aF prog Oq #[I a] h K:=
 fnk func323 an0 [] [] hvc
def B60(P:aH)(a:Bool)(h:aI)(K:VP):Prop:=
 Br a (K (I 1) h)
 (K (I 0) h)
def B1e a(hvc:B60 prog a h K):aF prog A5g #[.bool a] h K:=
 fnk func324 an0 [] [] hvc
def Wx(P:aH)(c d:ByteArray)(h:aI)(K:VP):Prop:=
 aF P Ou #[.string c,.string d] h (fun e f=>∃ (a:ByteArray) (b:Bool),e= .tuple #[.string a,.bool b]/\K (.tuple #[.string a,.bool b]) f)
def Zw a b(hvc:Wx prog a b h K):aF prog Gn #[.string a,.string b] h K:=
 fnk func228 an0 [] [] hvc
def Wi(P:aH)(a b:ByteArray)(h:aI)(K:VP):Prop:=
 aF P Ge #[.string a,.string b] h (fun e d=>∃ (c:Bool),e= .bool c/\Br (!c) (K (.tuple #[.string a,.bool false]) d)
 ((0<=((aG b:Nat):Int)/\((aG b:Nat):Int)<=(((a).size:Nat):Int))/\K (.tuple #[.string ((a).extract ((((aG b:Nat):Int)).toNat) ((a).size)),.bool true]) d))
def Zk a b(hvc:Wi prog a b h K):aF prog Ou #[.string a,.string b] h K:=
 fnk func268 an0 [] [] hvc
def Wf(P:aH)(b a:ByteArray)(h:aI)(K:VP):Prop:=
 Bd (((aG b:Nat):Int)>=((aG a:Nat):Int)) ((0<=((aG a:Nat):Int)/\((aG a:Nat):Int)<=(((b).size:Nat):Int))/\K (.bool (ByteArray.toList ((b).extract 0 ((((aG a:Nat):Int)).toNat))==a.toList)) h)
 (K (.bool false) h)
def Zi a b(hvc:Wf prog a b h K):aF prog Ge #[.string a,.string b] h K:=
 fnk func293 an0 [] [] hvc
