/- A part. -/
import Derived.Test.YtmbfcbbkbefgfaaGreatDoorG18
open Go.Proofs.Tryz
set_option linter.all false
open _root_.Go.Builtin renaming append_->aJ
open _root_.ByteArray renaming size->aG
open _root_.Go.Instr renaming storeAt->aD
open Int renaming tmod->aC,tdiv->aE
open _root_.Go renaming Program->aH
open _root_.Go.Proofs.YtmbfcbbkbefgfaaGreatDoor renaming FCall->aF,Heap->aI
namespace Go.Proofs.YtmbfcbbkbefgfaaGreatDoor
open Go
set_option maxRecDepth 100000
variable {h:aI} {K:VP}
abbrev Ec:Nat:=286
abbrev Bs:Nat:=253
abbrev Bq:Nat:=250
abbrev T3:Nat:=310
abbrev Nw:Nat:=288
abbrev Nu:Nat:=285
abbrev O0:Nat:=308
abbrev Pe:Nat:=306
abbrev X4:Nat:=307
abbrev Nt:Nat:=323
abbrev A3v:Nat:=324
abbrev Ft:Nat:=228
abbrev Nv:Nat:=268
abbrev Fs:Nat:=293
abbrev Pp:Nat:=343
def Sn(P:aH)(d:OA)(e f:Nat)(g:Int)(i:Int)(h:aI)(K:VP):Prop:=
 aF P T3 #[Sl d e f,U g,I i] h (fun j k=>∃ a b c,j=Sl a b c/\K (Sl a b c) k)
def To a b c d e(hvc:Sn prog a b c d e h K):aF prog Ec #[Sl a b c,U d,I e] h K:=
 fnk func286 an0 [] [] hvc
def Vn(P:aH)(d:OA)(e f:Nat)(g:Int)(i:Int)(h:aI)(K:VP):Prop:=
 aF P Nw #[Sl d e f,I g,I i] h (fun j k=>∃ a b c,j=Sl a b c/\K (Sl a b c) k)
def Yl a b c d e(hvc:Vn prog a b c d e h K):aF prog Bs #[Sl a b c,I d,I e] h K:=
 fnk func253 an0 [] [] hvc
def Vl(P:aH)(b:Int)(c:Int)(h:aI)(K:VP):Prop:=
 aF P Nu #[I b,I c] h (fun d e=>∃ (a:ByteArray),d= .string a/\K (.string a) e)
def Yj a b(hvc:Vl prog a b h K):aF prog Bq #[I a,I b] h K:=
 fnk func250 an0 [] [] hvc
def Sh(P:aH)(c:OA)(d e:Nat)(b:Int)(g:Int)(h:aI)(K:VP):Prop:=
 Br (g==10) (Bd (b<100) (aF P Pe #[I (B4 b)] h (fun t u=>∃ (i:ByteArray),t= .string i/\wpH P (aJ #[248,9] 248 #[Sl c d e,.string i]) (fun v w=>∃ m n o,v=Sl m n o/\K (Sl m n o) w) u))
 (wpH P (Instr.alloc 343 true (T0)) (fun x y=>∃ (f:Addr),x=Pt f/\aF P X4 #[U b] y (fun z A=>∃ a,z=I a/\(0<=a/\a<=(24:Int))/\aF P O0 #[.slice (J6 (some f) 24 0 1) ((a.toNat)-0) (24-0),U b] A (fun B C=>B=T0/\(0<=a/\a<=(24:Int))/\wpH P (aJ #[248,248] 248 #[Sl c d e,.slice (J6 (some f) 24 0 1) ((a.toNat)-0) (24-0)]) (fun D E=>∃ p q r,D=Sl p q r/\K (Sl p q r) E) C))) h))
 (aF P 309 #[Sl c d e,U b,I g,.bool false,.bool true] h (fun F G=>∃ (j:OA) (k l:Nat) (s:ByteArray),F= .tuple #[Sl j k l,.string s]/\K (Sl j k l) G))
def Tj a b c d e(hvc:Sh prog a b c d e h K):aF prog T3 #[Sl a b c,U d,I e] h K:=
 fnk func310 an0 [] [308] hvc
def Vd(P:aH)(b:OA)(c d:Nat)(a:Int)(e:Int)(h:aI)(K:VP):Prop:=
 Bd (a<0) (wpH P (Instr.buildSlice 248 1 #[(0,Y (45:Int))]) (fun s t=>∃ f g i,s=Sl f g i/\wpH P (aJ #[248,248] 248 #[Sl b c d,Sl f g i]) (fun u v=>∃ j k l,u=Sl j k l/\aF P T3 #[Sl j k l,U (C0 (0-(C0 a))),I e] v (fun w x=>∃ m n o,w=Sl m n o/\K (Sl m n o) x)) t) h)
 (aF P T3 #[Sl b c d,U (C0 a),I e] h (fun y z=>∃ p q r,y=Sl p q r/\K (Sl p q r) z))
def Yc a b c d e(hvc:Vd prog a b c d e h K):aF prog Nw #[Sl a b c,I d,I e] h K:=
 fnk func288 an0 [] [] hvc
def Vb(P:aH)(a:Int)(g:Int)(h:aI)(K:VP):Prop:=
 Br (g==10) (∃ (e:LP),(Bd ((0:Int)<=a) (e [.bool (decide (a<100))] h)
 (e [.bool false] h))/\
 ∀ r f,e [.bool r] f->Br r (aF P Pe #[I a] f (fun v w=>∃ (i:ByteArray),v= .string i/\K (.string i) w))
 (wpH P (Instr.alloc 343 true (T0)) (fun x o=>∃ (d:Addr),x=Pt d/\Bd (a<0) (aF P X4 #[U (C0 (0-(C0 a)))] o (fun y z=>∃ b,y=I b/\(0<=B4 ((1:Int)+b)/\B4 ((1:Int)+b)<=(24:Int))/\(0<=(1:Int)/\(1:Int)<=(((B4 ((1:Int)+b)).toNat:Nat):Int))/\aF P O0 #[.slice (J6 (some d) 24 (((1:Int)).toNat) 1) (((B4 ((1:Int)+b)).toNat)-(((1:Int)).toNat)) (24-(((1:Int)).toNat)),U (C0 (0-(C0 a)))] z (fun A p=>A=T0/\Bd (a<0) ((0<=(0:Int)/\(0:Int)<(24:Int))/\wpH P (aD 5 (Pt (d.add (((0:Int)).toNat*1))) (Y (45:Int))) (fun _ B=>(0<=B4 ((1:Int)+b)/\B4 ((1:Int)+b)<=(24:Int))/\wpH P (convert 248 9 (.slice (J6 (some d) 24 0 1) (((B4 ((1:Int)+b)).toNat)-0) (24-0))) (fun C D=>∃ (j:ByteArray),C= .string j/\K (.string j) D) B) p)
 ((0<=B4 ((1:Int)+b)/\B4 ((1:Int)+b)<=(24:Int))/\(0<=(1:Int)/\(1:Int)<=(((B4 ((1:Int)+b)).toNat:Nat):Int))/\wpH P (convert 248 9 (.slice (J6 (some d) 24 (((1:Int)).toNat) 1) (((B4 ((1:Int)+b)).toNat)-(((1:Int)).toNat)) (24-(((1:Int)).toNat)))) (fun E F=>∃ (k:ByteArray),E= .string k/\K (.string k) F) p))))
 (aF P X4 #[U (C0 a)] o (fun G H=>∃ c,G=I c/\(0<=B4 ((1:Int)+c)/\B4 ((1:Int)+c)<=(24:Int))/\(0<=(1:Int)/\(1:Int)<=(((B4 ((1:Int)+c)).toNat:Nat):Int))/\aF P O0 #[.slice (J6 (some d) 24 (((1:Int)).toNat) 1) (((B4 ((1:Int)+c)).toNat)-(((1:Int)).toNat)) (24-(((1:Int)).toNat)),U (C0 a)] H (fun J q=>J=T0/\Bd (a<0) ((0<=(0:Int)/\(0:Int)<(24:Int))/\wpH P (aD 5 (Pt (d.add (((0:Int)).toNat*1))) (Y (45:Int))) (fun _ L=>(0<=B4 ((1:Int)+c)/\B4 ((1:Int)+c)<=(24:Int))/\wpH P (convert 248 9 (.slice (J6 (some d) 24 0 1) (((B4 ((1:Int)+c)).toNat)-0) (24-0))) (fun M N=>∃ (l:ByteArray),M= .string l/\K (.string l) N) L) q)
 ((0<=B4 ((1:Int)+c)/\B4 ((1:Int)+c)<=(24:Int))/\(0<=(1:Int)/\(1:Int)<=(((B4 ((1:Int)+c)).toNat:Nat):Int))/\wpH P (convert 248 9 (.slice (J6 (some d) 24 (((1:Int)).toNat) 1) (((B4 ((1:Int)+c)).toNat)-(((1:Int)).toNat)) (24-(((1:Int)).toNat)))) (fun O Q=>∃ (m:ByteArray),O= .string m/\K (.string m) Q) q))))) f))
 (aF P 309 #[Sl none 0 0,U (C0 a),I g,.bool (decide (a<0)),.bool false] h (fun R S=>∃ (s:OA) (t u:Nat) (n:ByteArray),R= .tuple #[Sl s t u,.string n]/\K (.string n) S))
def Ya a b(hvc:Vb prog a b h K):aF prog Nu #[I a,I b] h K:=
 fnk func285 { cuts:=[(3,⟨[17],[],[.bool false],⟨[12,13,14,15,16,17],[]⟩⟩)] } [] [308] hvc
def G3:ByteArray:={ data:=#[48,48,48,49,48,50,48,51,48,52,48,53,48,54,48,55,48,56,48,57,49,48,49,49,49,50,49,51,49,52,49,53,49,54,49,55,49,56,49,57,50,48,50,49,50,50,50,51,50,52,50,53,50,54,50,55,50,56,50,57,51,48,51,49,51,50,51,51,51,52,51,53,51,54,51,55,51,56,51,57,52,48,52,49,52,50,52,51,52,52,52,53,52,54,52,55,52,56,52,57,53,48,53,49,53,50,53,51,53,52,53,53,53,54,53,55,53,56,53,57,54,48,54,49,54,50,54,51,54,52,54,53,54,54,54,55,54,56,54,57,55,48,55,49,55,50,55,51,55,52,55,53,55,54,55,55,55,56,55,57,56,48,56,49,56,50,56,51,56,52,56,53,56,54,56,55,56,56,56,57,57,48,57,49,57,50,57,51,57,52,57,53,57,54,57,55,57,56,57,57] }
def Y9(P:aH)(c:OA)(d:Nat)(K:VP)(e:Int)(f:Int)(a:aI):Prop:=
 Bd (e>0) (∃ b,Ax c b (0:Int) d<|wpH P (aD 5 (Pt (b.add (((0:Int)).toNat*1))) (Y (wu8 (H4 ((48:Int)+f))))) (fun _ g=>K (T0) g) a)
 (K (T0) a)
def Z1(P:aH)(c:OA)(d:Nat)(K:VP)(a:Int)(b:Int)(f:aI):Prop:=
 ∃ (e:LP),(Bd (a>=2) (∃ (g:UInt8),(0<=H4 ((H4 ((aC b (100:Int))*(2:Int)))+1)/\((G3:ByteArray))[(H4 ((H4 ((aC b (100:Int))*(2:Int)))+1)).toNat]? = some g)/\∃ (i:UInt8),(0<=H4 ((aC b (100:Int))*(2:Int))/\((G3:ByteArray))[(H4 ((aC b (100:Int))*(2:Int))).toNat]? = some i)/\∃ j,Ax c j (B4 (a-1)) d<|wpH P (aD 5 (Pt (j.add ((B4 (a-1)).toNat*1))) (Y ((g.toNat:Nat):Int))) (fun _ o=>∃ k,Ax c k (B4 (a-2)) d<|wpH P (aD 5 (Pt (k.add ((B4 (a-2)).toNat*1))) (Y ((i.toNat:Nat):Int))) (fun _ p=>e [I (B4 (a-2)),U32 (H4 (aE b (100:Int)))] p) o) f)
 (e [I a,U32 b] f))/\
 ∀ l m n,e [I l,U32 m] n->Y9 P c d K l m n
def Ld(P:aH)(d:OA)(c a2:Nat)(N:Int)(h:aI)(K:VP):Prop:=
 ∃ (f:LP) (i:LN),f [U N,I (c:Int)] h/\
 ∀ b a e,f [U b,I a] e->Bd (a>=8) (∃ (j:UInt8),(0<=H4 ((H4 ((aC (aC (H4 (aC b (100000000:Int))) (10000:Int)) (100:Int))*(2:Int)))+1)/\((G3:ByteArray))[(H4 ((H4 ((aC (aC (H4 (aC b (100000000:Int))) (10000:Int)) (100:Int))*(2:Int)))+1)).toNat]? = some j)/\∃ (k:UInt8),(0<=H4 ((aC (aC (H4 (aC b (100000000:Int))) (10000:Int)) (100:Int))*(2:Int))/\((G3:ByteArray))[(H4 ((aC (aC (H4 (aC b (100000000:Int))) (10000:Int)) (100:Int))*(2:Int))).toNat]? = some k)/\∃ w,Ax d w (B4 (a-1)) c<|wpH P (aD 5 (Pt (w.add ((B4 (a-1)).toNat*1))) (Y ((j.toNat:Nat):Int))) (fun _ O=>∃ x,Ax d x (B4 (a-2)) c<|wpH P (aD 5 (Pt (x.add ((B4 (a-2)).toNat*1))) (Y ((k.toNat:Nat):Int))) (fun _ Q=>∃ (l:UInt8),(0<=H4 ((H4 ((H4 (aE (aC (H4 (aC b (100000000:Int))) (10000:Int)) (100:Int)))*(2:Int)))+1)/\((G3:ByteArray))[(H4 ((H4 ((H4 (aE (aC (H4 (aC b (100000000:Int))) (10000:Int)) (100:Int)))*(2:Int)))+1)).toNat]? = some l)/\∃ (m:UInt8),(0<=H4 ((H4 (aE (aC (H4 (aC b (100000000:Int))) (10000:Int)) (100:Int)))*(2:Int))/\((G3:ByteArray))[(H4 ((H4 (aE (aC (H4 (aC b (100000000:Int))) (10000:Int)) (100:Int)))*(2:Int))).toNat]? = some m)/\∃ y,Ax d y (B4 (a-3)) c<|wpH P (aD 5 (Pt (y.add ((B4 (a-3)).toNat*1))) (Y ((l.toNat:Nat):Int))) (fun _ R=>∃ z,Ax d z (B4 (a-4)) c<|wpH P (aD 5 (Pt (z.add ((B4 (a-4)).toNat*1))) (Y ((m.toNat:Nat):Int))) (fun _ S=>∃ (n:UInt8),(0<=H4 ((H4 ((aC (H4 (aE (H4 (aC b (100000000:Int))) (10000:Int))) (100:Int))*(2:Int)))+1)/\((G3:ByteArray))[(H4 ((H4 ((aC (H4 (aE (H4 (aC b (100000000:Int))) (10000:Int))) (100:Int))*(2:Int)))+1)).toNat]? = some n)/\∃ (o:UInt8),(0<=H4 ((aC (H4 (aE (H4 (aC b (100000000:Int))) (10000:Int))) (100:Int))*(2:Int))/\((G3:ByteArray))[(H4 ((aC (H4 (aE (H4 (aC b (100000000:Int))) (10000:Int))) (100:Int))*(2:Int))).toNat]? = some o)/\∃ A,Ax d A (B4 (a-5)) c<|wpH P (aD 5 (Pt (A.add ((B4 (a-5)).toNat*1))) (Y ((n.toNat:Nat):Int))) (fun _ T=>∃ B,Ax d B (B4 (a-6)) c<|wpH P (aD 5 (Pt (B.add ((B4 (a-6)).toNat*1))) (Y ((o.toNat:Nat):Int))) (fun _ V=>∃ (p:UInt8),(0<=H4 ((H4 ((H4 (aE (H4 (aE (H4 (aC b (100000000:Int))) (10000:Int))) (100:Int)))*(2:Int)))+1)/\((G3:ByteArray))[(H4 ((H4 ((H4 (aE (H4 (aE (H4 (aC b (100000000:Int))) (10000:Int))) (100:Int)))*(2:Int)))+1)).toNat]? = some p)/\∃ (q:UInt8),(0<=H4 ((H4 (aE (H4 (aE (H4 (aC b (100000000:Int))) (10000:Int))) (100:Int)))*(2:Int))/\((G3:ByteArray))[(H4 ((H4 (aE (H4 (aE (H4 (aC b (100000000:Int))) (10000:Int))) (100:Int)))*(2:Int))).toNat]? = some q)/\∃ C,Ax d C (B4 (a-7)) c<|wpH P (aD 5 (Pt (C.add ((B4 (a-7)).toNat*1))) (Y ((p.toNat:Nat):Int))) (fun _ W=>∃ D,Ax d D (B4 (a-8)) c<|wpH P (aD 5 (Pt (D.add ((B4 (a-8)).toNat*1))) (Y ((q.toNat:Nat):Int))) (fun _ v=>f [U (C0 (aE b (100000000:Int))),I (B4 (a-8))] v/\i [U (C0 (aE b (100000000:Int))),I (B4 (a-8))] v<i [U b,I a] e) W) V) T) S) R) Q) O) e)
 (∃ (g:LP),(Bd (a>=4) (∃ (r:UInt8),(0<=H4 ((H4 ((aC (aC (H4 b) (10000:Int)) (100:Int))*(2:Int)))+1)/\((G3:ByteArray))[(H4 ((H4 ((aC (aC (H4 b) (10000:Int)) (100:Int))*(2:Int)))+1)).toNat]? = some r)/\∃ (s:UInt8),(0<=H4 ((aC (aC (H4 b) (10000:Int)) (100:Int))*(2:Int))/\((G3:ByteArray))[(H4 ((aC (aC (H4 b) (10000:Int)) (100:Int))*(2:Int))).toNat]? = some s)/\∃ E,Ax d E (B4 (a-1)) c<|wpH P (aD 5 (Pt (E.add ((B4 (a-1)).toNat*1))) (Y ((r.toNat:Nat):Int))) (fun _ X=>∃ F,Ax d F (B4 (a-2)) c<|wpH P (aD 5 (Pt (F.add ((B4 (a-2)).toNat*1))) (Y ((s.toNat:Nat):Int))) (fun _ Z=>∃ (t:UInt8),(0<=H4 ((H4 ((H4 (aE (aC (H4 b) (10000:Int)) (100:Int)))*(2:Int)))+1)/\((G3:ByteArray))[(H4 ((H4 ((H4 (aE (aC (H4 b) (10000:Int)) (100:Int)))*(2:Int)))+1)).toNat]? = some t)/\∃ (u:UInt8),(0<=H4 ((H4 (aE (aC (H4 b) (10000:Int)) (100:Int)))*(2:Int))/\((G3:ByteArray))[(H4 ((H4 (aE (aC (H4 b) (10000:Int)) (100:Int)))*(2:Int))).toNat]? = some u)/\∃ G,Ax d G (B4 (a-3)) c<|wpH P (aD 5 (Pt (G.add ((B4 (a-3)).toNat*1))) (Y ((t.toNat:Nat):Int))) (fun _ a0=>∃ H,Ax d H (B4 (a-4)) c<|wpH P (aD 5 (Pt (H.add ((B4 (a-4)).toNat*1))) (Y ((u.toNat:Nat):Int))) (fun _ a1=>g [I (B4 (a-4)),U32 (H4 (aE (H4 b) (10000:Int)))] a1) a0) Z) X) e)
 (g [I a,U32 (H4 b)] e))/\
 ∀ J L M,g [I J,U32 L] M->Z1 P d c K J L M)
def Ox a b c d(hvc:Ld prog a b c d h K):aF prog O0 #[Sl a b c,U d] h K:=
 fnk func308 ⟨[(1,⟨[1,4],[],[U 0,I 0],⟨([1]++Lrg 4 8++Lrg 19 77),[]⟩⟩)],[(20,⟨[4,12],[],[I 0,.int .u32 0],⟨([4,12,13,14,15]++Lrg 98 40),[]⟩⟩),(25,⟨[4,12],[],[I 0,.int .u32 0],⟨([4,12,16]++Lrg 138 22),[]⟩⟩)],[],[],[]⟩ [] [] hvc
def Wo:ByteArray:={ data:=#[48,49,50,51,52,53,54,55,56,57,97,98,99,100,101,102,103,104,105,106,107,108,109,110,111,112,113,114,115,116,117,118,119,120,121,122] }
def B41(P:aH)(a:Int)(h:aI)(K:VP):Prop:=
 Bd (a<10) ((0<=B4 (a+1)/\B4 (a+1)<=((((Wo:ByteArray)).size:Nat):Int))/\(0<=a/\a<=(((B4 (a+1)).toNat:Nat):Int))/\K (.string (((Wo:ByteArray)).extract (a.toNat) ((B4 (a+1)).toNat))) h)
 ((0<=B4 ((B4 (a*(2:Int)))+2)/\B4 ((B4 (a*(2:Int)))+2)<=((((G3:ByteArray)).size:Nat):Int))/\(0<=B4 (a*(2:Int))/\B4 (a*(2:Int))<=(((B4 ((B4 (a*(2:Int)))+2)).toNat:Nat):Int))/\K (.string (((G3:ByteArray)).extract ((B4 (a*(2:Int))).toNat) ((B4 ((B4 (a*(2:Int)))+2)).toNat))) h)
def A9s a(hvc:B41 prog a h K):aF prog Pe #[I a] h K:=
 fnk func306 an0 [] [] hvc
def Uy(P:aH)(b:Int)(h:aI)(K:VP):Prop:=
 aF P Kk #[U b] h (fun g i=>∃ d,g=I d/\aF P Nt #[I d] i (fun j c=>∃ a,j=I a/\(0<=a/\a<(20:Int))/\∃ e,c.cell? (Addr.add (⟨3,0,none⟩) (a.toNat*1))=some (U e)/\aF P A3v #[.bool (decide (b>=e))] c (fun k l=>∃ f,k=I f/\K (I (B4 (a+f))) l)))
def Xx a(hvc:Uy prog a h K):aF prog X4 #[U a] h K:=
 fnk func307 an0 [] [] hvc
def Uz(P:aH)(a:Int)(h:aI)(K:VP):Prop:=
 K (I (Int.fdiv (B4 (a*(78913:Int))) (2^(min ((18:Int)).toNat 64)))) h
def Xy a(hvc:Uz prog a h K):aF prog Nt #[I a] h K:=
 fnk func323 an0 [] [] hvc
def B42(P:aH)(a:Bool)(h:aI)(K:VP):Prop:=
 Br a (K (I 1) h)
 (K (I 0) h)
def A9t a(hvc:B42 prog a h K):aF prog A3v #[.bool a] h K:=
 fnk func324 an0 [] [] hvc
def Vm(P:aH)(c d:ByteArray)(h:aI)(K:VP):Prop:=
 aF P Nv #[.string c,.string d] h (fun e f=>∃ (a:ByteArray) (b:Bool),e= .tuple #[.string a,.bool b]/\K (.tuple #[.string a,.bool b]) f)
def Yk a b(hvc:Vm prog a b h K):aF prog Ft #[.string a,.string b] h K:=
 fnk func228 an0 [] [] hvc
def Vc(P:aH)(a b:ByteArray)(h:aI)(K:VP):Prop:=
 aF P Fs #[.string a,.string b] h (fun e d=>∃ (c:Bool),e= .bool c/\Br (!c) (K (.tuple #[.string a,.bool false]) d)
 ((0<=((aG b:Nat):Int)/\((aG b:Nat):Int)<=(((a).size:Nat):Int))/\K (.tuple #[.string ((a).extract ((((aG b:Nat):Int)).toNat) ((a).size)),.bool true]) d))
def Yb a b(hvc:Vc prog a b h K):aF prog Nv #[.string a,.string b] h K:=
 fnk func268 an0 [] [] hvc
def Va(P:aH)(b a:ByteArray)(h:aI)(K:VP):Prop:=
 Bd (((aG b:Nat):Int)>=((aG a:Nat):Int)) ((0<=((aG a:Nat):Int)/\((aG a:Nat):Int)<=(((b).size:Nat):Int))/\K (.bool (ByteArray.toList ((b).extract 0 ((((aG a:Nat):Int)).toNat))==a.toList)) h)
 (K (.bool false) h)
def Xz a b(hvc:Va prog a b h K):aF prog Fs #[.string a,.string b] h K:=
 fnk func293 an0 [] [] hvc
