/-
  Texts of this proof, merged by a program of ours.
-/
import Derived.Test.YtajkakhfcokljaaGreatDoorProg
import Derived.Test.YtajkakhfcokljaaGreatDoorG05
import Derived.Test.YtajkakhfcokljaaGreatDoorG06
import Derived.Test.YtajkakhfcokljaaGreatDoorG07
open Go.Proofs.Tryz
set_option linter.all false
open _root_.ByteArray renaming size->C37
open _root_.Go.Instr renaming storeAt->C35
open Int renaming tmod->C34,tdiv->C36
namespace Go.Proofs.YtajkakhfcokljaaGreatDoor
open Go
set_option maxRecDepth 100000
variable {h:Heap} {K:VP}
abbrev Eh:Nat:=225
abbrev B4o:Nat:=157
abbrev Gi:Nat:=156
abbrev Ec:Nat:=238
abbrev B4i:Nat:=205
abbrev Oo:Nat:=204
abbrev P6:Nat:=236
abbrev Qa:Nat:=234
abbrev Y2:Nat:=235
abbrev On:Nat:=253
abbrev A4p:Nat:=255
abbrev Gj:Nat:=177
abbrev Oq:Nat:=215
abbrev Gb:Nat:=243
abbrev Qo:Nat:=272
def Tp(P:Program)(d:OA)(e f:Nat)(g:Int)(i:Int)(h:Heap)(K:VP):Prop:=
 FCall P Ec #[.slice d e f,U g,I i] h (fun j k=>∃ (a:OA) (b c:Nat),j= .slice a b c/\K (.slice a b c) k)
theorem Uq a b c d e(hvc:Tp prog a b c d e h K):FCall prog Eh #[.slice a b c,U d,I e] h K:=
 C8 bod func225 [.tmp 6] an0 11 [] [238] [] (by kernel_rfl) hvc
def Wd(P:Program)(b:Int)(c:Int)(h:Heap)(K:VP):Prop:=
 FCall P Oo #[I b,I c] h (fun d e=>∃ (a:ByteArray),d= .string a/\K (.string a) e)
theorem Ze a b(hvc:Wd prog a b h K):FCall prog Gi #[I a,I b] h K:=
 C8 bod func156 [.tmp 4] an0 8 [] [204] [] (by kernel_rfl) hvc
def Th(P:Program)(c:OA)(d e:Nat)(b:Int)(g:Int)(h:Heap)(K:VP):Prop:=
 Br (g==(10:Int)) (Br (decide (b<(100:Int))) (FCall P Qa #[I (B5 b)] h (fun t u=>∃ (i:ByteArray),t= .string i/\wpH P (Builtin.append_ #[199,9] 199 #[.slice c d e,.string i]) (fun v w=>∃ (j:OA) (k l:Nat),v= .slice j k l/\K (.slice j k l) w) u))
 (wpH P (Instr.alloc 272 true (.tuple #[])) (fun x y=>∃ (f:Addr),x= .pointer (some f)/\FCall P Y2 #[U b] y (fun z A=>∃ a,z=I a/\(0<=a/\a<=(24:Int))/\FCall P P6 #[.slice (K0 (some f) 24 0 1) ((a.toNat)-0) (24-0),U b] A (fun B C=>B= .tuple #[]/\(0<=a/\a<=(24:Int))/\wpH P (Builtin.append_ #[199,199] 199 #[.slice c d e,.slice (K0 (some f) 24 0 1) ((a.toNat)-0) (24-0)]) (fun D E=>∃ (m:OA) (n o:Nat),D= .slice m n o/\K (.slice m n o) E) C))) h))
 (FCall P 237 #[.slice c d e,U b,I g,.bool false,.bool true] h (fun F G=>∃ (p:OA) (q r:Nat) (s:ByteArray),F= .tuple #[.slice p q r,.string s]/\K (.slice p q r) G))
theorem Uk a b c d e(hvc:Th prog a b c d e h K):FCall prog Ec #[.slice a b c,U d,I e] h K:=
 C8 bod func238 [.tmp 6] an0 36 [] [234,235,236,237] [236] (by kernel_rfl) hvc
def Vt(P:Program)(a:Int)(g:Int)(h:Heap)(K:VP):Prop:=
 Br (g==(10:Int)) (∃ (e:LP),(Br (decide ((0:Int)<=a)) (e [.bool (decide (a<(100:Int)))] h)
 (e [.bool false] h))/\
 ∀ r f,e [.bool r] f->Br r (FCall P Qa #[I a] f (fun v w=>∃ (i:ByteArray),v= .string i/\K (.string i) w))
 (wpH P (Instr.alloc 272 true (.tuple #[])) (fun x o=>∃ (d:Addr),x= .pointer (some d)/\Br (decide (a<(0:Int))) (FCall P Y2 #[U (C0 (0-(C0 a)))] o (fun y z=>∃ b,y=I b/\(0<=B5 ((1:Int)+b)/\B5 ((1:Int)+b)<=(24:Int))/\(0<=(1:Int)/\(1:Int)<=(((B5 ((1:Int)+b)).toNat:Nat):Int))/\FCall P P6 #[.slice (K0 (some d) 24 (((1:Int)).toNat) 1) (((B5 ((1:Int)+b)).toNat)-(((1:Int)).toNat)) (24-(((1:Int)).toNat)),U (C0 (0-(C0 a)))] z (fun A p=>A= .tuple #[]/\Br (decide (a<(0:Int))) ((0<=(0:Int)/\(0:Int)<(24:Int))/\wpH P (C35 5 (.pointer (some (d.add (((0:Int)).toNat*1)))) (Y (45:Int))) (fun _ B=>(0<=B5 ((1:Int)+b)/\B5 ((1:Int)+b)<=(24:Int))/\wpH P (convert 199 9 (.slice (K0 (some d) 24 0 1) (((B5 ((1:Int)+b)).toNat)-0) (24-0))) (fun C D=>∃ (j:ByteArray),C= .string j/\K (.string j) D) B) p)
 ((0<=B5 ((1:Int)+b)/\B5 ((1:Int)+b)<=(24:Int))/\(0<=(1:Int)/\(1:Int)<=(((B5 ((1:Int)+b)).toNat:Nat):Int))/\wpH P (convert 199 9 (.slice (K0 (some d) 24 (((1:Int)).toNat) 1) (((B5 ((1:Int)+b)).toNat)-(((1:Int)).toNat)) (24-(((1:Int)).toNat)))) (fun E F=>∃ (k:ByteArray),E= .string k/\K (.string k) F) p))))
 (FCall P Y2 #[U (C0 a)] o (fun G H=>∃ c,G=I c/\(0<=B5 ((1:Int)+c)/\B5 ((1:Int)+c)<=(24:Int))/\(0<=(1:Int)/\(1:Int)<=(((B5 ((1:Int)+c)).toNat:Nat):Int))/\FCall P P6 #[.slice (K0 (some d) 24 (((1:Int)).toNat) 1) (((B5 ((1:Int)+c)).toNat)-(((1:Int)).toNat)) (24-(((1:Int)).toNat)),U (C0 a)] H (fun J q=>J= .tuple #[]/\Br (decide (a<(0:Int))) ((0<=(0:Int)/\(0:Int)<(24:Int))/\wpH P (C35 5 (.pointer (some (d.add (((0:Int)).toNat*1)))) (Y (45:Int))) (fun _ L=>(0<=B5 ((1:Int)+c)/\B5 ((1:Int)+c)<=(24:Int))/\wpH P (convert 199 9 (.slice (K0 (some d) 24 0 1) (((B5 ((1:Int)+c)).toNat)-0) (24-0))) (fun M N=>∃ (l:ByteArray),M= .string l/\K (.string l) N) L) q)
 ((0<=B5 ((1:Int)+c)/\B5 ((1:Int)+c)<=(24:Int))/\(0<=(1:Int)/\(1:Int)<=(((B5 ((1:Int)+c)).toNat:Nat):Int))/\wpH P (convert 199 9 (.slice (K0 (some d) 24 (((1:Int)).toNat) 1) (((B5 ((1:Int)+c)).toNat)-(((1:Int)).toNat)) (24-(((1:Int)).toNat)))) (fun O Q=>∃ (m:ByteArray),O= .string m/\K (.string m) Q) q))))) f))
 (FCall P 237 #[.slice none 0 0,U (C0 a),I g,.bool (decide (a<(0:Int))),.bool false] h (fun R S=>∃ (s:OA) (t u:Nat) (n:ByteArray),R= .tuple #[.slice s t u,.string n]/\K (.string n) S))
theorem Yu a b(hvc:Vt prog a b h K):FCall prog Oo #[I a,I b] h K:=
 C8 bod func204 [.tmp 4] { cuts:=[(3,⟨[17],[],[.bool false],⟨[12,13,14,15,16,17],[]⟩⟩)] } 54 [] [234,235,236,237] [236] (by kernel_rfl) hvc
def I3:ByteArray:={ data:=#[48,48,48,49,48,50,48,51,48,52,48,53,48,54,48,55,48,56,48,57,49,48,49,49,49,50,49,51,49,52,49,53,49,54,49,55,49,56,49,57,50,48,50,49,50,50,50,51,50,52,50,53,50,54,50,55,50,56,50,57,51,48,51,49,51,50,51,51,51,52,51,53,51,54,51,55,51,56,51,57,52,48,52,49,52,50,52,51,52,52,52,53,52,54,52,55,52,56,52,57,53,48,53,49,53,50,53,51,53,52,53,53,53,54,53,55,53,56,53,57,54,48,54,49,54,50,54,51,54,52,54,53,54,54,54,55,54,56,54,57,55,48,55,49,55,50,55,51,55,52,55,53,55,54,55,55,55,56,55,57,56,48,56,49,56,50,56,51,56,52,56,53,56,54,56,55,56,56,56,57,57,48,57,49,57,50,57,51,57,52,57,53,57,54,57,55,57,56,57,57] }
def Aa(P:Program)(c:OA)(d:Nat)(K:VP)(e:Int)(f:Int)(a:Heap):Prop:=
 Br (decide (e>(0:Int))) (∃ b,c=some b/\0<=(0:Int)/\(0:Int)<(d:Int)/\wpH P (C35 5 (.pointer (some (b.add (((0:Int)).toNat*1)))) (Y (wu8 (F4 ((48:Int)+f))))) (fun _ g=>K (.tuple #[]) g) a)
 (K (.tuple #[]) a)
def Ab(P:Program)(c:OA)(d:Nat)(K:VP)(a:Int)(b:Int)(f:Heap):Prop:=
 ∃ (e:LP),(Br (decide (a>=(2:Int))) (∃ (g:UInt8),(0<=F4 ((F4 ((C34 b (100:Int))*(2:Int)))+1)/\((I3:ByteArray))[(F4 ((F4 ((C34 b (100:Int))*(2:Int)))+1)).toNat]? = some g)/\∃ (i:UInt8),(0<=F4 ((C34 b (100:Int))*(2:Int))/\((I3:ByteArray))[(F4 ((C34 b (100:Int))*(2:Int))).toNat]? = some i)/\∃ j,c=some j/\0<=B5 (a-1)/\B5 (a-1)<(d:Int)/\wpH P (C35 5 (.pointer (some (j.add ((B5 (a-1)).toNat*1)))) (Y ((g.toNat:Nat):Int))) (fun _ o=>∃ k,c=some k/\0<=B5 (a-2)/\B5 (a-2)<(d:Int)/\wpH P (C35 5 (.pointer (some (k.add ((B5 (a-2)).toNat*1)))) (Y ((i.toNat:Nat):Int))) (fun _ p=>e [I (B5 (a-2)),U32 (F4 (C36 b (100:Int)))] p) o) f)
 (e [I a,U32 b] f))/\
 ∀ l m n,e [I l,U32 m] n->Aa P c d K l m n
def Mc(P:Program)(d:OA)(c a2:Nat)(N:Int)(h:Heap)(K:VP):Prop:=
 ∃ (f:LP) (i:LN),f [U N,I (c:Int)] h/\
 ∀ b a e,f [U b,I a] e->Br (decide (a>=(8:Int))) (∃ (j:UInt8),(0<=F4 ((F4 ((C34 (C34 (F4 (C34 b (100000000:Int))) (10000:Int)) (100:Int))*(2:Int)))+1)/\((I3:ByteArray))[(F4 ((F4 ((C34 (C34 (F4 (C34 b (100000000:Int))) (10000:Int)) (100:Int))*(2:Int)))+1)).toNat]? = some j)/\∃ (k:UInt8),(0<=F4 ((C34 (C34 (F4 (C34 b (100000000:Int))) (10000:Int)) (100:Int))*(2:Int))/\((I3:ByteArray))[(F4 ((C34 (C34 (F4 (C34 b (100000000:Int))) (10000:Int)) (100:Int))*(2:Int))).toNat]? = some k)/\∃ w,d=some w/\0<=B5 (a-1)/\B5 (a-1)<(c:Int)/\wpH P (C35 5 (.pointer (some (w.add ((B5 (a-1)).toNat*1)))) (Y ((j.toNat:Nat):Int))) (fun _ O=>∃ x,d=some x/\0<=B5 (a-2)/\B5 (a-2)<(c:Int)/\wpH P (C35 5 (.pointer (some (x.add ((B5 (a-2)).toNat*1)))) (Y ((k.toNat:Nat):Int))) (fun _ Q=>∃ (l:UInt8),(0<=F4 ((F4 ((F4 (C36 (C34 (F4 (C34 b (100000000:Int))) (10000:Int)) (100:Int)))*(2:Int)))+1)/\((I3:ByteArray))[(F4 ((F4 ((F4 (C36 (C34 (F4 (C34 b (100000000:Int))) (10000:Int)) (100:Int)))*(2:Int)))+1)).toNat]? = some l)/\∃ (m:UInt8),(0<=F4 ((F4 (C36 (C34 (F4 (C34 b (100000000:Int))) (10000:Int)) (100:Int)))*(2:Int))/\((I3:ByteArray))[(F4 ((F4 (C36 (C34 (F4 (C34 b (100000000:Int))) (10000:Int)) (100:Int)))*(2:Int))).toNat]? = some m)/\∃ y,d=some y/\0<=B5 (a-3)/\B5 (a-3)<(c:Int)/\wpH P (C35 5 (.pointer (some (y.add ((B5 (a-3)).toNat*1)))) (Y ((l.toNat:Nat):Int))) (fun _ R=>∃ z,d=some z/\0<=B5 (a-4)/\B5 (a-4)<(c:Int)/\wpH P (C35 5 (.pointer (some (z.add ((B5 (a-4)).toNat*1)))) (Y ((m.toNat:Nat):Int))) (fun _ S=>∃ (n:UInt8),(0<=F4 ((F4 ((C34 (F4 (C36 (F4 (C34 b (100000000:Int))) (10000:Int))) (100:Int))*(2:Int)))+1)/\((I3:ByteArray))[(F4 ((F4 ((C34 (F4 (C36 (F4 (C34 b (100000000:Int))) (10000:Int))) (100:Int))*(2:Int)))+1)).toNat]? = some n)/\∃ (o:UInt8),(0<=F4 ((C34 (F4 (C36 (F4 (C34 b (100000000:Int))) (10000:Int))) (100:Int))*(2:Int))/\((I3:ByteArray))[(F4 ((C34 (F4 (C36 (F4 (C34 b (100000000:Int))) (10000:Int))) (100:Int))*(2:Int))).toNat]? = some o)/\∃ A,d=some A/\0<=B5 (a-5)/\B5 (a-5)<(c:Int)/\wpH P (C35 5 (.pointer (some (A.add ((B5 (a-5)).toNat*1)))) (Y ((n.toNat:Nat):Int))) (fun _ T=>∃ B,d=some B/\0<=B5 (a-6)/\B5 (a-6)<(c:Int)/\wpH P (C35 5 (.pointer (some (B.add ((B5 (a-6)).toNat*1)))) (Y ((o.toNat:Nat):Int))) (fun _ V=>∃ (p:UInt8),(0<=F4 ((F4 ((F4 (C36 (F4 (C36 (F4 (C34 b (100000000:Int))) (10000:Int))) (100:Int)))*(2:Int)))+1)/\((I3:ByteArray))[(F4 ((F4 ((F4 (C36 (F4 (C36 (F4 (C34 b (100000000:Int))) (10000:Int))) (100:Int)))*(2:Int)))+1)).toNat]? = some p)/\∃ (q:UInt8),(0<=F4 ((F4 (C36 (F4 (C36 (F4 (C34 b (100000000:Int))) (10000:Int))) (100:Int)))*(2:Int))/\((I3:ByteArray))[(F4 ((F4 (C36 (F4 (C36 (F4 (C34 b (100000000:Int))) (10000:Int))) (100:Int)))*(2:Int))).toNat]? = some q)/\∃ C,d=some C/\0<=B5 (a-7)/\B5 (a-7)<(c:Int)/\wpH P (C35 5 (.pointer (some (C.add ((B5 (a-7)).toNat*1)))) (Y ((p.toNat:Nat):Int))) (fun _ W=>∃ D,d=some D/\0<=B5 (a-8)/\B5 (a-8)<(c:Int)/\wpH P (C35 5 (.pointer (some (D.add ((B5 (a-8)).toNat*1)))) (Y ((q.toNat:Nat):Int))) (fun _ v=>f [U (C0 (C36 b (100000000:Int))),I (B5 (a-8))] v/\i [U (C0 (C36 b (100000000:Int))),I (B5 (a-8))] v<i [U b,I a] e) W) V) T) S) R) Q) O) e)
 (∃ (g:LP),(Br (decide (a>=(4:Int))) (∃ (r:UInt8),(0<=F4 ((F4 ((C34 (C34 (F4 b) (10000:Int)) (100:Int))*(2:Int)))+1)/\((I3:ByteArray))[(F4 ((F4 ((C34 (C34 (F4 b) (10000:Int)) (100:Int))*(2:Int)))+1)).toNat]? = some r)/\∃ (s:UInt8),(0<=F4 ((C34 (C34 (F4 b) (10000:Int)) (100:Int))*(2:Int))/\((I3:ByteArray))[(F4 ((C34 (C34 (F4 b) (10000:Int)) (100:Int))*(2:Int))).toNat]? = some s)/\∃ E,d=some E/\0<=B5 (a-1)/\B5 (a-1)<(c:Int)/\wpH P (C35 5 (.pointer (some (E.add ((B5 (a-1)).toNat*1)))) (Y ((r.toNat:Nat):Int))) (fun _ X=>∃ F,d=some F/\0<=B5 (a-2)/\B5 (a-2)<(c:Int)/\wpH P (C35 5 (.pointer (some (F.add ((B5 (a-2)).toNat*1)))) (Y ((s.toNat:Nat):Int))) (fun _ Z=>∃ (t:UInt8),(0<=F4 ((F4 ((F4 (C36 (C34 (F4 b) (10000:Int)) (100:Int)))*(2:Int)))+1)/\((I3:ByteArray))[(F4 ((F4 ((F4 (C36 (C34 (F4 b) (10000:Int)) (100:Int)))*(2:Int)))+1)).toNat]? = some t)/\∃ (u:UInt8),(0<=F4 ((F4 (C36 (C34 (F4 b) (10000:Int)) (100:Int)))*(2:Int))/\((I3:ByteArray))[(F4 ((F4 (C36 (C34 (F4 b) (10000:Int)) (100:Int)))*(2:Int))).toNat]? = some u)/\∃ G,d=some G/\0<=B5 (a-3)/\B5 (a-3)<(c:Int)/\wpH P (C35 5 (.pointer (some (G.add ((B5 (a-3)).toNat*1)))) (Y ((t.toNat:Nat):Int))) (fun _ a0=>∃ H,d=some H/\0<=B5 (a-4)/\B5 (a-4)<(c:Int)/\wpH P (C35 5 (.pointer (some (H.add ((B5 (a-4)).toNat*1)))) (Y ((u.toNat:Nat):Int))) (fun _ a1=>g [I (B5 (a-4)),U32 (F4 (C36 (F4 b) (10000:Int)))] a1) a0) Z) X) e)
 (g [I a,U32 (F4 b)] e))/\
 ∀ J L M,g [I J,U32 L] M->Ab P d c K J L M)
theorem Pt a b c d(hvc:Mc prog a b c d h K):FCall prog P6 #[.slice a b c,U d] h K:=
 C8 bod func236 [] ⟨[(1,⟨[1,4],[],[.int .u64 0,.int .i64 0],⟨([1]++Lrg 4 8++Lrg 19 77),[]⟩⟩)],[(20,⟨[4,12],[],[.int .i64 0,.int .u32 0],⟨([4,12,13,14,15]++Lrg 98 40),[]⟩⟩),(25,⟨[4,12],[],[.int .i64 0,.int .u32 0],⟨([4,12,16]++Lrg 138 22),[]⟩⟩)],[],[],[]⟩ 167 [] [] [] (by kernel_rfl) hvc
def Xb:ByteArray:={ data:=#[48,49,50,51,52,53,54,55,56,57,97,98,99,100,101,102,103,104,105,106,107,108,109,110,111,112,113,114,115,116,117,118,119,120,121,122] }
def B58(P:Program)(a:Int)(h:Heap)(K:VP):Prop:=
 Br (decide (a<(10:Int))) ((0<=B5 (a+1)/\B5 (a+1)<=((((Xb:ByteArray)).size:Nat):Int))/\(0<=a/\a<=(((B5 (a+1)).toNat:Nat):Int))/\K (.string (((Xb:ByteArray)).extract (a.toNat) ((B5 (a+1)).toNat))) h)
 ((0<=B5 ((B5 (a*(2:Int)))+2)/\B5 ((B5 (a*(2:Int)))+2)<=((((I3:ByteArray)).size:Nat):Int))/\(0<=B5 (a*(2:Int))/\B5 (a*(2:Int))<=(((B5 ((B5 (a*(2:Int)))+2)).toNat:Nat):Int))/\K (.string (((I3:ByteArray)).extract ((B5 (a*(2:Int))).toNat) ((B5 ((B5 (a*(2:Int)))+2)).toNat))) h)
theorem B0o a(hvc:B58 prog a h K):FCall prog Qa #[I a] h K:=
 C8 bod func234 [.tmp 2] an0 15 [] [] [] (by kernel_rfl) hvc
def Vq(P:Program)(b:Int)(h:Heap)(K:VP):Prop:=
 FCall P Qf #[U b] h (fun g i=>∃ d,g=I d/\FCall P On #[I d] i (fun j c=>∃ a,j=I a/\(0<=a/\a<(20:Int))/\∃ e,c.cell? (Addr.add (⟨2,0,none⟩) (a.toNat*1))=some (U e)/\FCall P A4p #[.bool (decide (b>=e))] c (fun k l=>∃ f,k=I f/\K (I (B5 (a+f))) l)))
theorem Yr a(hvc:Vq prog a h K):FCall prog Y2 #[U a] h K:=
 C8 bod func235 [.tmp 2] an0 15 [] [253,254,255] [] (by kernel_rfl) hvc
def Vr(P:Program)(a:Int)(h:Heap)(K:VP):Prop:=
 K (I (Int.fdiv (B5 (a*(78913:Int))) (2^(min ((18:Int)).toNat 64)))) h
theorem Ys a(hvc:Vr prog a h K):FCall prog On #[I a] h K:=
 C8 bod func253 [.tmp 2] an0 6 [] [] [] (by kernel_rfl) hvc
def B59(P:Program)(a:Bool)(h:Heap)(K:VP):Prop:=
 Br a (K (I 1) h)
 (K (I 0) h)
theorem B0p a(hvc:B59 prog a h K):FCall prog A4p #[.bool a] h K:=
 C8 bod func255 [.tmp 2] an0 4 [] [] [] (by kernel_rfl) hvc
def We(P:Program)(c d:ByteArray)(h:Heap)(K:VP):Prop:=
 FCall P Oq #[.string c,.string d] h (fun e f=>∃ (a:ByteArray) (b:Bool),e= .tuple #[.string a,.bool b]/\K (.tuple #[.string a,.bool b]) f)
theorem Zf a b(hvc:We prog a b h K):FCall prog Gj #[.string a,.string b] h K:=
 C8 bod func177 [.tmp 4,.tmp 5] an0 11 [] [215] [] (by kernel_rfl) hvc
def Vu(P:Program)(a b:ByteArray)(h:Heap)(K:VP):Prop:=
 FCall P Gb #[.string a,.string b] h (fun e d=>∃ (c:Bool),e= .bool c/\Br (!c) (K (.tuple #[.string a,.bool false]) d)
 ((0<=((C37 b:Nat):Int)/\((C37 b:Nat):Int)<=(((a).size:Nat):Int))/\K (.tuple #[.string ((a).extract ((((C37 b:Nat):Int)).toNat) ((a).size)),.bool true]) d))
theorem Yv a b(hvc:Vu prog a b h K):FCall prog Oq #[.string a,.string b] h K:=
 C8 bod func215 [.tmp 4,.tmp 5] an0 15 [] [243] [] (by kernel_rfl) hvc
def Vs(P:Program)(b a:ByteArray)(h:Heap)(K:VP):Prop:=
 Br (decide (((C37 b:Nat):Int)>=((C37 a:Nat):Int))) ((0<=((C37 a:Nat):Int)/\((C37 a:Nat):Int)<=(((b).size:Nat):Int))/\K (.bool (ByteArray.toList ((b).extract 0 ((((C37 a:Nat):Int)).toNat))==ByteArray.toList a)) h)
 (K (.bool false) h)
theorem Yt a b(hvc:Vs prog a b h K):FCall prog Gb #[.string a,.string b] h K:=
 C8 bod func243 [.tmp 4] an0 18 [] [] [] (by kernel_rfl) hvc
end Go.Proofs.YtajkakhfcokljaaGreatDoor
