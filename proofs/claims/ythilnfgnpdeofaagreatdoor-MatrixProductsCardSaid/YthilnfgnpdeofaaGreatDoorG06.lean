/-
  Texts of this proof, merged by a program of ours: VcI.
-/
import Derived.Test.YthilnfgnpdeofaaGreatDoorProg
import Derived.Test.YthilnfgnpdeofaaGreatDoorG05
/-
 Written by wip/tools/vcgen.py: what is asked of each function's body;each equation is checked by the kernel.
-/
namespace Go.Proofs.YthilnfgnpdeofaaGreatDoor
open Go
set_option maxRecDepth 100000
set_option linter.unusedVariables false
variable {h:Heap} {K:Value->Heap->Prop}
abbrev f_WTrim:Nat:=188
abbrev f_WFromWord:Nat:=158
abbrev f_WCompareWords:Nat:=189
abbrev f_WAddInto:Nat:=216
abbrev f_WSubtractFrom:Nat:=214
abbrev f_WAddWords:Nat:=199
abbrev f_WSubtractWords:Nat:=200
abbrev f_WShiftLeft:Nat:=243
abbrev f_WShiftRight:Nat:=248
abbrev f_WAddProduct:Nat:=210
abbrev f_WSubtractProduct:Nat:=251
abbrev f_WMultiplyWords:Nat:=191
abbrev f_WMultiplyLong:Nat:=215
abbrev f_WDivideWord:Nat:=249
abbrev f_WRemainderWord:Nat:=171
abbrev f_WDivideWords:Nat:=204
abbrev f_WDivideSimple:Nat:=228
abbrev f_WEstimate:Nat:=250
abbrev f_WLowWords:Nat:=244
abbrev f_WHighWords:Nat:=245
abbrev f_WJoin:Nat:=247
abbrev f_WDivideBlocks:Nat:=227
abbrev f_WDivideHalves:Nat:=246
abbrev f_WDivideThirds:Nat:=253
abbrev f_WGcdWord:Nat:=208
abbrev f_WGcdWords:Nat:=177
abbrev f_WSimulate:Nat:=206
abbrev f_WMultiplyAdd:Nat:=229
abbrev f_WSigned:Nat:=142
abbrev f_WNew:Nat:=100
abbrev f_WParse:Nat:=163
abbrev f_WParseWords:Nat:=196
abbrev f_WParseSplit:Nat:=220
abbrev f_WParseSimple:Nat:=237
abbrev f_WAppendWords:Nat:=192
abbrev f_WAppendSplit:Nat:=218
abbrev f_WAppendSimple:Nat:=235
abbrev f_WAccumulate:Nat:=187
abbrev f_WCopyDifference:Nat:=190
abbrev f_ZInt64:Nat:=153
abbrev f_ZAppend:Nat:=156
abbrev f_ZString:Nat:=155
abbrev f_ZSign:Nat:=137
abbrev f_ZIsZero:Nat:=135
abbrev f_ZIsOne:Nat:=138
abbrev f_ZEqual:Nat:=175
abbrev f_ZNeg:Nat:=77
abbrev f_ZAdd:Nat:=166
abbrev f_ZMul:Nat:=152
abbrev f_ZQuoRem:Nat:=178
abbrev f_ZQuo:Nat:=136
abbrev f_ZModWord:Nat:=125
abbrev f_ZGCD:Nat:=134
abbrev f_ZLCM:Nat:=176
abbrev f_ZBitLen:Nat:=271
abbrev f_SAdd:Nat:=273
abbrev f_SAddProduct:Nat:=150
abbrev f_SSubProduct:Nat:=160
abbrev f_SValue:Nat:=151
abbrev f_WApply:Nat:=207
abbrev f_BDiv64:Nat:=203
abbrev f_BMul64:Nat:=198
abbrev f_BLeadingZeros64:Nat:=226
abbrev f_BTrailingZeros64:Nat:=231
abbrev f_BLen64:Nat:=239
abbrev f_BAdd64:Nat:=211
abbrev f_BSub64:Nat:=230
abbrev f_BMul:Nat:=165
abbrev f_WClone:Nat:=205
abbrev f_WRepeat:Nat:=254
abbrev f_CmpInt:Nat:=212
abbrev f_IsNaNInt:Nat:=233
abbrev f_CmpUint64:Nat:=213
abbrev f_IsNaNUint64:Nat:=234
abbrev ty_tU64s:Nat:=92
abbrev ty_tU64s_e:Nat:=157
theorem tU64s:SliceT Tryz.prog ty_tU64s ty_tU64s_e (U 0) 1 8:=⟨by kernel_rfl,by kernel_rfl,rfl,by decide⟩
theorem tU64s_one:Tryz.prog.cellsOf ty_tU64s_e=1/\(Tryz.prog.info? ty_tU64s_e).isSome=true:=⟨by kernel_rfl,by kernel_rfl⟩
abbrev ty_tU64ss:Nat:=163
abbrev ty_tU64ss_e:Nat:=92
theorem tU64ss:SliceT Tryz.prog ty_tU64ss ty_tU64ss_e (.slice none 0 0) 1 24:=⟨by kernel_rfl,by kernel_rfl,rfl,by decide⟩
def WTrim(P:Program)(d:OA)(f c:Nat)(h:Heap)(K:Value->Heap->Prop):Prop:=
 ∃ (e:List Value->Heap->Prop) (g:List Value->Heap->Nat),e [I (f:Int)] h/\
 ∀ (a:Int),∀ b,e [I a] b->Br (decide (a>(0:Int))) (∃ j,d=some j/\0<=wi64 (a-1)/\wi64 (a-1)<(f:Int)/\∃ (i:Int),b.cell? (j.add ((wi64 (a-1)).toNat*1))=some (U i)/\Br (i==(0:Int)) (e [I (wi64 (a-1))] b/\g [I (wi64 (a-1))] b<g [I a] b)
 ((0<=a/\a<=(c:Int))/\K (.slice (cutA d c 0 1) ((a.toNat)-0) (c-0)) b))
 ((0<=a/\a<=(c:Int))/\K (.slice (cutA d c 0 1) ((a.toNat)-0) (c-0)) b)
theorem WTrim_ok(a:OA)(b d:Nat)(hvc:WTrim Tryz.prog a b d h K):FCall Tryz.prog f_WTrim #[.slice a b d] h K:=
 fn_sound Tryz.func188 (c:=codeOf Tryz.f188) (by kernel_rfl) (rs:=[.tmp 2]) (by kernel_rfl) (fa:={ loops:=[(2,{ slots:=[3],owns:=[],zs:=[.int .i64 0],lim:={ slots:=([3]++List.range' 6 12),keys:=[] } })],cuts:=[],orders:=[] })
  (cfg:={ n:=21,own:=[],lim:=none,fns:=[],wr:=[] }) (args:=[.slice a b d]) (by kernel_rfl) Bodies.nil (Eq.mp (by kernel_rfl:WTrim Tryz.prog a b d h K=_) hvc)
def WFromWord(P:Program)(a:Int)(h:Heap)(K:Value->Heap->Prop):Prop:=
 Br (a==(0:Int)) (K (.slice none 0 0) h)
 (wpH P (Instr.buildSlice 92 1 #[(0,U a)]) (fun e f=>∃ (b:OA) (c d:Nat),e= .slice b c d/\K (.slice b c d) f) h)
theorem WFromWord_ok(a:Int)(hvc:WFromWord Tryz.prog a h K):FCall Tryz.prog f_WFromWord #[U a] h K:=
 fn_sound Tryz.func158 (c:=codeOf Tryz.f158) (by kernel_rfl) (rs:=[.tmp 2]) (by kernel_rfl) (fa:={ loops:=[],cuts:=[],orders:=[] })
  (cfg:={ n:=7,own:=[],lim:=none,fns:=[],wr:=[] }) (args:=[U a]) (by kernel_rfl) Bodies.nil (Eq.mp (by kernel_rfl:WFromWord Tryz.prog a h K=_) hvc)
def WCompareWords(P:Program)(f:OA)(c x:Nat)(g:OA)(d y:Nat)(h:Heap)(K:Value->Heap->Prop):Prop:=
 Br ((c:Int) != (d:Int)) (FCall P f_CmpInt #[I (c:Int),I (d:Int)] h (fun u v=>∃ (i:Int),u=I i/\K (I i) v))
 (∃ (e:List Value->Heap->Prop) (j:List Value->Heap->Nat),e [I (wi64 ((c:Int)-1))] h/\
 ∀ (a:Int),∀ b,e [I a] b->Br (decide (a>=(0:Int))) (∃ q,f=some q/\0<=a/\a<(c:Int)/\∃ (k:Int),b.cell? (q.add (a.toNat*1))=some (U k)/\∃ r,g=some r/\0<=a/\a<(d:Int)/\∃ (l:Int),b.cell? (r.add (a.toNat*1))=some (U l)/\Br (k != l) (∃ s,f=some s/\0<=a/\a<(c:Int)/\∃ (m:Int),b.cell? (s.add (a.toNat*1))=some (U m)/\∃ t,g=some t/\0<=a/\a<(d:Int)/\∃ (n:Int),b.cell? (t.add (a.toNat*1))=some (U n)/\FCall P f_CmpUint64 #[U m,U n] b (fun w p=>∃ (o:Int),w=I o/\Heap.le b p/\K (I o) p))
 (e [I (wi64 (a-1))] b/\j [I (wi64 (a-1))] b<j [I a] b))
 (K (I 0) b))
theorem WCompareWords_ok(a:OA)(b d:Nat)(e:OA)(f g:Nat)(hvc:WCompareWords Tryz.prog a b d e f g h K):FCall Tryz.prog f_WCompareWords #[.slice a b d,.slice e f g] h K:=
 fn_sound Tryz.func189 (c:=codeOf Tryz.f189) (by kernel_rfl) (rs:=[.tmp 4]) (by kernel_rfl) (fa:={ loops:=[(4,{ slots:=[5],owns:=[],zs:=[.int .i64 0],lim:={ slots:=([4,5]++List.range' 19 22),keys:=[] } })],cuts:=[],orders:=[(6,((List.range' 0 9),[[],[],[0,1],[0,1,2],[],[],[4,5],[4,5,6],(List.range' 0 8)])),(7,((List.range' 0 10),[[],[],[0,1],[0,1,2],[],[],[4,5],[4,5,6],(List.range' 0 8),(List.range' 0 9)]))] })
  (cfg:={ n:=41,own:=[],lim:=none,fns:=[212,213],wr:=[] }) (args:=[.slice a b d,.slice e f g]) (by kernel_rfl) (Bodies.cons Tryz.call212 (Bodies.cons Tryz.call213 Bodies.nil)) (Eq.mp (by kernel_rfl:WCompareWords Tryz.prog a b d e f g h K=_) hvc)
def WAddInto(P:Program)(f:OA)(e H:Nat)(C:OA)(j J:Nat)(h:Heap)(K:Value->Heap->Prop):Prop:=
 ∃ (k:List Value->Heap->Prop) (o:List Value->Heap->Nat),k [U 0,I 0] h/\
 ∀ (g:Int) (a:Int),∀ c,k [U g,I a] c->Br (decide (a<(j:Int))) (∃ x,C=some x/\0<=a/\a<(j:Int)/\∃ (p:Int),c.cell? (x.add (a.toNat*1))=some (U p)/\∃ y,f=some y/\0<=a/\a<(e:Int)/\∃ (q:Int),c.cell? (y.add (a.toNat*1))=some (U q)/\ECall P f_BAdd64 #[U q,U p,U g] c (fun D E=>∃ (r:Int) (l:Int),D= .tuple #[U r,U l]/\∃ z,f=some z/\0<=a/\a<(e:Int)/\wpH P (Instr.storeAt 157 (.pointer (some (z.add (a.toNat*1)))) (U r)) (fun _ v=>k [U l,I (wi64 (a+1))] v/\o [U l,I (wi64 (a+1))] v<o [U g,I a] c) E))
 (∃ (m:List Value->Heap->Prop) (s:List Value->Heap->Nat),m [U g,I (j:Int)] c/\
 ∀ (i:Int) (b:Int),∀ d,m [U i,I b] d->Br (i != (0:Int)) (Br (decide (b<(e:Int))) (∃ A,f=some A/\0<=b/\b<(e:Int)/\∃ (t:Int),d.cell? (A.add (b.toNat*1))=some (U t)/\ECall P f_BAdd64 #[U t,U 0,U i] d (fun F G=>∃ (u:Int) (n:Int),F= .tuple #[U u,U n]/\∃ B,f=some B/\0<=b/\b<(e:Int)/\wpH P (Instr.storeAt 157 (.pointer (some (B.add (b.toNat*1)))) (U u)) (fun _ w=>m [U n,I (wi64 (b+1))] w/\s [U n,I (wi64 (b+1))] w<s [U i,I b] d) G))
 (K (.tuple #[]) d))
 (K (.tuple #[]) d))
theorem WAddInto_ok(a:OA)(b d:Nat)(e:OA)(f g:Nat)(hvc:WAddInto Tryz.prog a b d e f g h K):FCall Tryz.prog f_WAddInto #[.slice a b d,.slice e f g] h K:=
 fn_sound Tryz.func216 (c:=codeOf Tryz.f216) (by kernel_rfl) (rs:=[]) (by kernel_rfl) (fa:={ loops:=[(2,{ slots:=[4,10],owns:=[],zs:=[.int .u64 0,.int .i64 0],lim:={ slots:=([4,5,6]++List.range' 10 19),keys:=[] } }),(7,{ slots:=[4,7],owns:=[],zs:=[.int .u64 0,.int .i64 0],lim:={ slots:=([4,7]++List.range' 31 22),keys:=[] } })],cuts:=[],orders:=[] })
  (cfg:={ n:=53,own:=[],lim:=none,fns:=[],wr:=[] }) (args:=[.slice a b d,.slice e f g]) (by kernel_rfl) Bodies.nil (Eq.mp (by kernel_rfl:WAddInto Tryz.prog a b d e f g h K=_) hvc)
def WSubtractFrom(P:Program)(f:OA)(e H:Nat)(C:OA)(j J:Nat)(h:Heap)(K:Value->Heap->Prop):Prop:=
 ∃ (k:List Value->Heap->Prop) (o:List Value->Heap->Nat),k [U 0,I 0] h/\
 ∀ (g:Int) (a:Int),∀ c,k [U g,I a] c->Br (decide (a<(j:Int))) (∃ x,C=some x/\0<=a/\a<(j:Int)/\∃ (p:Int),c.cell? (x.add (a.toNat*1))=some (U p)/\∃ y,f=some y/\0<=a/\a<(e:Int)/\∃ (q:Int),c.cell? (y.add (a.toNat*1))=some (U q)/\ECall P f_BSub64 #[U q,U p,U g] c (fun D E=>∃ (r:Int) (l:Int),D= .tuple #[U r,U l]/\∃ z,f=some z/\0<=a/\a<(e:Int)/\wpH P (Instr.storeAt 157 (.pointer (some (z.add (a.toNat*1)))) (U r)) (fun _ v=>k [U l,I (wi64 (a+1))] v/\o [U l,I (wi64 (a+1))] v<o [U g,I a] c) E))
 (∃ (m:List Value->Heap->Prop) (s:List Value->Heap->Nat),m [U g,I (j:Int)] c/\
 ∀ (i:Int) (b:Int),∀ d,m [U i,I b] d->Br (i != (0:Int)) (Br (decide (b<(e:Int))) (∃ A,f=some A/\0<=b/\b<(e:Int)/\∃ (t:Int),d.cell? (A.add (b.toNat*1))=some (U t)/\ECall P f_BSub64 #[U t,U 0,U i] d (fun F G=>∃ (u:Int) (n:Int),F= .tuple #[U u,U n]/\∃ B,f=some B/\0<=b/\b<(e:Int)/\wpH P (Instr.storeAt 157 (.pointer (some (B.add (b.toNat*1)))) (U u)) (fun _ w=>m [U n,I (wi64 (b+1))] w/\s [U n,I (wi64 (b+1))] w<s [U i,I b] d) G))
 (K (.tuple #[]) d))
 (K (.tuple #[]) d))
theorem WSubtractFrom_ok(a:OA)(b d:Nat)(e:OA)(f g:Nat)(hvc:WSubtractFrom Tryz.prog a b d e f g h K):FCall Tryz.prog f_WSubtractFrom #[.slice a b d,.slice e f g] h K:=
 fn_sound Tryz.func214 (c:=codeOf Tryz.f214) (by kernel_rfl) (rs:=[]) (by kernel_rfl) (fa:={ loops:=[(2,{ slots:=[4,10],owns:=[],zs:=[.int .u64 0,.int .i64 0],lim:={ slots:=([4,5,6]++List.range' 10 19),keys:=[] } }),(7,{ slots:=[4,7],owns:=[],zs:=[.int .u64 0,.int .i64 0],lim:={ slots:=([4,7]++List.range' 31 22),keys:=[] } })],cuts:=[],orders:=[] })
  (cfg:={ n:=53,own:=[],lim:=none,fns:=[],wr:=[] }) (args:=[.slice a b d,.slice e f g]) (by kernel_rfl) Bodies.nil (Eq.mp (by kernel_rfl:WSubtractFrom Tryz.prog a b d e f g h K=_) hvc)
def WAddWords(P:Program)(m:OA)(e n:Nat)(o:OA)(f p:Nat)(h:Heap)(K:Value->Heap->Prop):Prop:=
 ∃ (g:List Value->Heap->Prop),(Br (decide ((e:Int)<(f:Int))) (g [.slice o f p,.slice m e n] h)
 (g [.slice m e n,.slice o f p] h))/\
 ∀ (i:OA) (a j:Nat) (q:OA) (k r:Nat),∀ l,g [.slice i a j,.slice q k r] l->Br ((k:Int)==(0:Int)) (K (.slice i a j) l)
 (wpH P (Instr.makeSlice 92 (I (wi64 ((a:Int)+1))) (I (wi64 ((a:Int)+1)))) (fun w x=>∃ (b:OA) (c d:Nat),w= .slice b c d/\wpH P (Builtin.copy_ #[92,92] 3 #[.slice b c d,.slice i a j]) (fun y z=>∃ (v:Int),y=I v/\FCall P f_WAddInto #[.slice b c d,.slice q k r] z (fun A B=>A= .tuple #[]/\FCall P f_WTrim #[.slice b c d] B (fun C D=>∃ (s:OA) (t u:Nat),C= .slice s t u/\K (.slice s t u) D))) x) l)
theorem WAddWords_ok(a:OA)(b d:Nat)(e:OA)(f g:Nat)(hvc:WAddWords Tryz.prog a b d e f g h K):FCall Tryz.prog f_WAddWords #[.slice a b d,.slice e f g] h K:=
 fn_sound Tryz.func199 (c:=codeOf Tryz.f199) (by kernel_rfl) (rs:=[.tmp 4]) (by kernel_rfl) (fa:={ loops:=[],cuts:=[(3,{ slots:=[0,1],owns:=[],zs:=[.slice none 0 0,.slice none 0 0],lim:={ slots:=[0,1,6,7,8,9,10,11,12],keys:=[] } })],orders:=[] })
  (cfg:={ n:=29,own:=[],lim:=none,fns:=[188,216],wr:=[216] }) (args:=[.slice a b d,.slice e f g]) (by kernel_rfl) (Bodies.cons Tryz.call188 (Bodies.cons Tryz.call216 Bodies.nil)) (Eq.mp (by kernel_rfl:WAddWords Tryz.prog a b d e f g h K=_) hvc)
def WSubtractWords(P:Program)(d:OA)(e f:Nat)(l:OA)(g m:Nat)(h:Heap)(K:Value->Heap->Prop):Prop:=
 Br ((g:Int)==(0:Int)) (K (.slice d e f) h)
 (FCall P f_WClone #[.slice d e f] h (fun n o=>∃ (a:OA) (b c:Nat),n= .slice a b c/\FCall P f_WSubtractFrom #[.slice a b c,.slice l g m] o (fun p q=>p= .tuple #[]/\FCall P f_WTrim #[.slice a b c] q (fun r s=>∃ (i:OA) (j k:Nat),r= .slice i j k/\K (.slice i j k) s))))
theorem WSubtractWords_ok(a:OA)(b d:Nat)(e:OA)(f g:Nat)(hvc:WSubtractWords Tryz.prog a b d e f g h K):FCall Tryz.prog f_WSubtractWords #[.slice a b d,.slice e f g] h K:=
 fn_sound Tryz.func200 (c:=codeOf Tryz.f200) (by kernel_rfl) (rs:=[.tmp 4]) (by kernel_rfl) (fa:={ loops:=[],cuts:=[],orders:=[] })
  (cfg:={ n:=17,own:=[],lim:=none,fns:=[188,205,214],wr:=[214] }) (args:=[.slice a b d,.slice e f g]) (by kernel_rfl) (Bodies.cons Tryz.call188 (Bodies.cons Tryz.call205 (Bodies.cons Tryz.call214 Bodies.nil))) (Eq.mp (by kernel_rfl:WSubtractWords Tryz.prog a b d e f g h K=_) hvc)
def WShiftLeft(P:Program)(g:OA)(c k:Nat)(b:Int)(h:Heap)(K:Value->Heap->Prop):Prop:=
 Br ((c:Int)==(0:Int)) (K (.slice g c k) h)
 (Br (b==(0:Int)) (K (.slice g c k) h)
 (wpH P (Instr.makeSlice 92 (I (wi64 ((wi64 ((c:Int)+(wi64 (wu64 (Int.tdiv b (64:Int))))))+1))) (I (wi64 ((wi64 ((c:Int)+(wi64 (wu64 (Int.tdiv b (64:Int))))))+1)))) (fun w x=>∃ (e:OA) (f l:Nat),w= .slice e f l/\∃ (i:List Value->Heap->Prop) (m:List Value->Heap->Nat),i [I 0] x/\
 ∀ (a:Int),∀ d,i [I a] d->Br (decide (a<(c:Int))) (∃ s,g=some s/\0<=a/\a<(c:Int)/\∃ (j:Int),d.cell? (s.add (a.toNat*1))=some (U j)/\∃ t,e=some t/\0<=wi64 (a+(wi64 (wu64 (Int.tdiv b (64:Int)))))/\wi64 (a+(wi64 (wu64 (Int.tdiv b (64:Int)))))<(f:Int)/\∃ (n:Int),d.cell? (t.add ((wi64 (a+(wi64 (wu64 (Int.tdiv b (64:Int)))))).toNat*1))=some (U n)/\Br (decide (Int.tmod b (64:Int)<0)) False
 (∃ u,e=some u/\0<=wi64 (a+(wi64 (wu64 (Int.tdiv b (64:Int)))))/\wi64 (a+(wi64 (wu64 (Int.tdiv b (64:Int)))))<(f:Int)/\wpH P (Instr.storeAt 157 (.pointer (some (u.add ((wi64 (a+(wi64 (wu64 (Int.tdiv b (64:Int)))))).toNat*1)))) (U (bor .u64 n (wu64 (j*2^(min (Int.tmod b (64:Int)).toNat 64)))))) (fun _ y=>Br (decide (wu64 ((64:Int)-(Int.tmod b (64:Int)))<0)) False
 (∃ v,e=some v/\0<=wi64 ((wi64 (a+(wi64 (wu64 (Int.tdiv b (64:Int))))))+1)/\wi64 ((wi64 (a+(wi64 (wu64 (Int.tdiv b (64:Int))))))+1)<(f:Int)/\wpH P (Instr.storeAt 157 (.pointer (some (v.add ((wi64 ((wi64 (a+(wi64 (wu64 (Int.tdiv b (64:Int))))))+1)).toNat*1)))) (U (Int.fdiv j (2^(min (wu64 ((64:Int)-(Int.tmod b (64:Int)))).toNat 64))))) (fun _ r=>i [I (wi64 (a+1))] r/\m [I (wi64 (a+1))] r<m [I a] d) y)) d))
 (FCall P f_WTrim #[.slice e f l] d (fun z A=>∃ (o:OA) (p q:Nat),z= .slice o p q/\K (.slice o p q) A))) h))
theorem WShiftLeft_ok(b:OA)(d e:Nat)(a:Int)(hvc:WShiftLeft Tryz.prog b d e a h K):FCall Tryz.prog f_WShiftLeft #[.slice b d e,U a] h K:=
 fn_sound Tryz.func243 (c:=codeOf Tryz.f243) (by kernel_rfl) (rs:=[.tmp 4]) (by kernel_rfl) (fa:={ loops:=[(6,{ slots:=[31],owns:=[],zs:=[.int .i64 0],lim:={ slots:=([8,9]++List.range' 31 27),keys:=[] } })],cuts:=[],orders:=[] })
  (cfg:={ n:=60,own:=[],lim:=none,fns:=[188],wr:=[] }) (args:=[.slice b d e,U a]) (by kernel_rfl) (Bodies.cons Tryz.call188 Bodies.nil) (Eq.mp (by kernel_rfl:WShiftLeft Tryz.prog b d e a h K=_) hvc)
def WShiftRight(P:Program)(k:OA)(c C:Nat)(b:Int)(h:Heap)(K:Value->Heap->Prop):Prop:=
 Br (decide ((wu64 (Int.tdiv b (64:Int)))>=(wu64 (c:Int)))) (K (.slice none 0 0) h)
 (wpH P (Instr.makeSlice 92 (I (wi64 ((c:Int)-(wi64 (wu64 (Int.tdiv b (64:Int))))))) (I (wi64 ((c:Int)-(wi64 (wu64 (Int.tdiv b (64:Int)))))))) (fun y z=>∃ (f:OA) (d l:Nat),y= .slice f d l/\∃ (i:List Value->Heap->Prop) (j:List Value->Heap->Nat),i [I 0] z/\
 ∀ (a:Int),∀ e,i [I a] e->Br (decide (a<(d:Int))) (∃ t,k=some t/\0<=wi64 (a+(wi64 (wu64 (Int.tdiv b (64:Int)))))/\wi64 (a+(wi64 (wu64 (Int.tdiv b (64:Int)))))<(c:Int)/\∃ (m:Int),e.cell? (t.add ((wi64 (a+(wi64 (wu64 (Int.tdiv b (64:Int)))))).toNat*1))=some (U m)/\Br (decide (Int.tmod b (64:Int)<0)) False
 (∃ u,f=some u/\0<=a/\a<(d:Int)/\wpH P (Instr.storeAt 157 (.pointer (some (u.add (a.toNat*1)))) (U (Int.fdiv m (2^(min (Int.tmod b (64:Int)).toNat 64))))) (fun _ g=>Br (decide ((wi64 ((wi64 (a+(wi64 (wu64 (Int.tdiv b (64:Int))))))+1))<(c:Int))) (∃ v,f=some v/\0<=a/\a<(d:Int)/\∃ (n:Int),g.cell? (v.add (a.toNat*1))=some (U n)/\∃ w,k=some w/\0<=wi64 ((wi64 (a+(wi64 (wu64 (Int.tdiv b (64:Int))))))+1)/\wi64 ((wi64 (a+(wi64 (wu64 (Int.tdiv b (64:Int))))))+1)<(c:Int)/\∃ (o:Int),g.cell? (w.add ((wi64 ((wi64 (a+(wi64 (wu64 (Int.tdiv b (64:Int))))))+1)).toNat*1))=some (U o)/\Br (decide (wu64 ((64:Int)-(Int.tmod b (64:Int)))<0)) False
 (∃ x,f=some x/\0<=a/\a<(d:Int)/\wpH P (Instr.storeAt 157 (.pointer (some (x.add (a.toNat*1)))) (U (bor .u64 n (wu64 (o*2^(min (wu64 ((64:Int)-(Int.tmod b (64:Int)))).toNat 64)))))) (fun _ s=>i [I (wi64 (a+1))] s/\j [I (wi64 (a+1))] s<j [I a] e) g))
 (i [I (wi64 (a+1))] g/\j [I (wi64 (a+1))] g<j [I a] e)) e))
 (FCall P f_WTrim #[.slice f d l] e (fun A B=>∃ (p:OA) (q r:Nat),A= .slice p q r/\K (.slice p q r) B))) h)
theorem WShiftRight_ok(b:OA)(d e:Nat)(a:Int)(hvc:WShiftRight Tryz.prog b d e a h K):FCall Tryz.prog f_WShiftRight #[.slice b d e,U a] h K:=
 fn_sound Tryz.func248 (c:=codeOf Tryz.f248) (by kernel_rfl) (rs:=[.tmp 4]) (by kernel_rfl) (fa:={ loops:=[(6,{ slots:=[27],owns:=[],zs:=[.int .i64 0],lim:={ slots:=([8]++List.range' 27 38),keys:=[] } })],cuts:=[],orders:=[(10,((List.range' 0 17),[[],[],[0,1],[0,1,2],[],[],[],[5,6],[5,6,7],[4,5,6,7,8],[4,5,6,7,8,9],[],[11],(List.range' 4 9),(List.range' 0 14),(List.range' 0 15),(List.range' 0 16)]))] })
  (cfg:={ n:=67,own:=[],lim:=none,fns:=[188],wr:=[] }) (args:=[.slice b d e,U a]) (by kernel_rfl) (Bodies.cons Tryz.call188 Bodies.nil) (Eq.mp (by kernel_rfl:WShiftRight Tryz.prog b d e a h K=_) hvc)
def WAddProduct(P:Program)(i:OA)(j D:Nat)(w:OA)(k E:Nat)(x:Int)(h:Heap)(K:Value->Heap->Prop):Prop:=
 ∃ (d:List Value->Heap->Prop) (l:List Value->Heap->Nat),d [U 0,I 0] h/\
 ∀ (c:Int) (a:Int),∀ b,d [U c,I a] b->Br (decide (a<(k:Int))) (∃ t,w=some t/\0<=a/\a<(k:Int)/\∃ (m:Int),b.cell? (t.add (a.toNat*1))=some (U m)/\FCall P f_BMul64 #[U m,U x] b (fun y z=>∃ (e:Int) (n:Int),y= .tuple #[U e,U n]/\ECall P f_BAdd64 #[U n,U c,U 0] z (fun A r=>∃ (o:Int) (f:Int),A= .tuple #[U o,U f]/\∃ u,i=some u/\0<=a/\a<(j:Int)/\∃ (p:Int),r.cell? (u.add (a.toNat*1))=some (U p)/\ECall P f_BAdd64 #[U p,U o,U 0] r (fun B C=>∃ (q:Int) (g:Int),B= .tuple #[U q,U g]/\∃ v,i=some v/\0<=a/\a<(j:Int)/\wpH P (Instr.storeAt 157 (.pointer (some (v.add (a.toNat*1)))) (U q)) (fun _ s=>d [U (wu64 ((wu64 (e+f))+g)),I (wi64 (a+1))] s/\l [U (wu64 ((wu64 (e+f))+g)),I (wi64 (a+1))] s<l [U c,I a] b) C))))
 (K (U c) b)
theorem WAddProduct_ok(a:OA)(b d:Nat)(e:OA)(f g:Nat)(i:Int)(hvc:WAddProduct Tryz.prog a b d e f g i h K):FCall Tryz.prog f_WAddProduct #[.slice a b d,.slice e f g,U i] h K:=
 fn_sound Tryz.func210 (c:=codeOf Tryz.f210) (by kernel_rfl) (rs:=[.tmp 6]) (by kernel_rfl) (fa:={ loops:=[(3,{ slots:=[7,16],owns:=[],zs:=[.int .u64 0,.int .i64 0],lim:={ slots:=([7,8,9,10,11,12,13]++List.range' 16 36),keys:=[] } })],cuts:=[],orders:=[] })
  (cfg:={ n:=53,own:=[],lim:=none,fns:=[198],wr:=[] }) (args:=[.slice a b d,.slice e f g,U i]) (by kernel_rfl) (Bodies.cons Tryz.call198 Bodies.nil) (Eq.mp (by kernel_rfl:WAddProduct Tryz.prog a b d e f g i h K=_) hvc)
def WSubtractProduct(P:Program)(i:OA)(j D:Nat)(w:OA)(k E:Nat)(x:Int)(h:Heap)(K:Value->Heap->Prop):Prop:=
 ∃ (d:List Value->Heap->Prop) (l:List Value->Heap->Nat),d [U 0,I 0] h/\
 ∀ (c:Int) (a:Int),∀ b,d [U c,I a] b->Br (decide (a<(k:Int))) (∃ t,w=some t/\0<=a/\a<(k:Int)/\∃ (m:Int),b.cell? (t.add (a.toNat*1))=some (U m)/\FCall P f_BMul64 #[U m,U x] b (fun y z=>∃ (e:Int) (n:Int),y= .tuple #[U e,U n]/\ECall P f_BAdd64 #[U n,U c,U 0] z (fun A r=>∃ (o:Int) (f:Int),A= .tuple #[U o,U f]/\∃ u,i=some u/\0<=a/\a<(j:Int)/\∃ (p:Int),r.cell? (u.add (a.toNat*1))=some (U p)/\ECall P f_BSub64 #[U p,U o,U 0] r (fun B C=>∃ (q:Int) (g:Int),B= .tuple #[U q,U g]/\∃ v,i=some v/\0<=a/\a<(j:Int)/\wpH P (Instr.storeAt 157 (.pointer (some (v.add (a.toNat*1)))) (U q)) (fun _ s=>d [U (wu64 ((wu64 (e+f))+g)),I (wi64 (a+1))] s/\l [U (wu64 ((wu64 (e+f))+g)),I (wi64 (a+1))] s<l [U c,I a] b) C))))
 (K (U c) b)
theorem WSubtractProduct_ok(a:OA)(b d:Nat)(e:OA)(f g:Nat)(i:Int)(hvc:WSubtractProduct Tryz.prog a b d e f g i h K):FCall Tryz.prog f_WSubtractProduct #[.slice a b d,.slice e f g,U i] h K:=
 fn_sound Tryz.func251 (c:=codeOf Tryz.f251) (by kernel_rfl) (rs:=[.tmp 6]) (by kernel_rfl) (fa:={ loops:=[(3,{ slots:=[7,16],owns:=[],zs:=[.int .u64 0,.int .i64 0],lim:={ slots:=([7,8,9,10,11,12,13]++List.range' 16 36),keys:=[] } })],cuts:=[],orders:=[] })
  (cfg:={ n:=53,own:=[],lim:=none,fns:=[198],wr:=[] }) (args:=[.slice a b d,.slice e f g,U i]) (by kernel_rfl) (Bodies.cons Tryz.call198 Bodies.nil) (Eq.mp (by kernel_rfl:WSubtractProduct Tryz.prog a b d e f g i h K=_) hvc)
def WMultiplyWordsL11(P:Program)(K:Value->Heap->Prop)(s:OA)(b t:Nat)(u:OA)(g:Nat)(e:OA)(i d:Nat)(v:Heap):Prop:=
 ∃ (f:List Value->Heap->Prop) (j:List Value->Heap->Nat),f [I 0] v/\
 ∀ (a:Int),∀ c,f [I a] c->Br (decide (a<(g:Int))) (∃ q,u=some q/\0<=a/\a<(g:Int)/\∃ (k:Int),c.cell? (q.add (a.toNat*1))=some (U k)/\(0<=wi64 (a+(b:Int))/\wi64 (a+(b:Int))<=(d:Int))/\(0<=a/\a<=(((wi64 (a+(b:Int))).toNat:Nat):Int))/\FCall P f_WAddProduct #[.slice (cutA e d (a.toNat) 1) (((wi64 (a+(b:Int))).toNat)-(a.toNat)) (d-(a.toNat)),.slice s b t,U k] c (fun w x=>∃ (l:Int),w=U l/\∃ r,e=some r/\0<=wi64 (a+(b:Int))/\wi64 (a+(b:Int))<(i:Int)/\wpH P (Instr.storeAt 157 (.pointer (some (r.add ((wi64 (a+(b:Int))).toNat*1)))) (U l)) (fun _ p=>f [I (wi64 (a+1))] p/\j [I (wi64 (a+1))] p<j [I a] c) x))
 (FCall P f_WTrim #[.slice e i d] c (fun y z=>∃ (m:OA) (n o:Nat),y= .slice m n o/\K (.slice m n o) z))
def WMultiplyWords(P:Program)(D:OA)(m E:Nat)(F:OA)(n G:Nat)(h:Heap)(K:Value->Heap->Prop):Prop:=
 ∃ (o:List Value->Heap->Prop),(Br (decide ((m:Int)<(n:Int))) (o [.slice F n G,.slice D m E] h)
 (o [.slice D m E,.slice F n G] h))/\
 ∀ (e:OA) (a c:Nat) (f:OA) (b d:Nat),∀ l,o [.slice e a c,.slice f b d] l->Br ((b:Int)==(0:Int)) (K (.slice none 0 0) l)
 (∃ (p:List Value->Heap->Prop),(Br ((b:Int)==(1:Int)) (∃ b3,f=some b3/\0<=(0:Int)/\(0:Int)<(b:Int)/\∃ (H:Int),l.cell? (b3.add (((0:Int)).toNat*1))=some (U H)/\p [.bool (H==(1:Int))] l)
 (p [.bool false] l))/\
 ∀ (J:Bool),∀ j,p [.bool J] j->Br J (K (.slice e a c) j)
 (Br (decide ((b:Int)<(40:Int))) (wpH P (Instr.makeSlice 92 (I (wi64 ((a:Int)+(b:Int)))) (I (wi64 ((a:Int)+(b:Int))))) (fun b6 b7=>∃ (L:OA) (M N:Nat),b6= .slice L M N/\WMultiplyWordsL11 P K e a c f b L M N b7) j)
 (Br (decide ((b:Int)<=(wi64 (Int.tdiv (wi64 ((a:Int)+1)) (2:Int))))) (FCall P f_WMultiplyLong #[.slice e a c,.slice f b d] j (fun b8 b9=>∃ (O:OA) (Q R:Nat),b8= .slice O Q R/\K (.slice O Q R) b9))
 ((0<=wi64 (Int.tdiv (wi64 ((a:Int)+1)) (2:Int))/\wi64 (Int.tdiv (wi64 ((a:Int)+1)) (2:Int))<=(c:Int))/\(0<=wi64 (Int.tdiv (wi64 ((a:Int)+1)) (2:Int))/\wi64 (Int.tdiv (wi64 ((a:Int)+1)) (2:Int))<=(a:Int))/\FCall P f_WTrim #[.slice (cutA e c 0 1) (((wi64 (Int.tdiv (wi64 ((a:Int)+1)) (2:Int))).toNat)-0) (c-0)] j (fun c0 C=>∃ (q:OA) (r s:Nat),c0= .slice q r s/\Heap.le j C/\(0<=wi64 (Int.tdiv (wi64 ((a:Int)+1)) (2:Int))/\wi64 (Int.tdiv (wi64 ((a:Int)+1)) (2:Int))<=(d:Int))/\(0<=wi64 (Int.tdiv (wi64 ((a:Int)+1)) (2:Int))/\wi64 (Int.tdiv (wi64 ((a:Int)+1)) (2:Int))<=(b:Int))/\FCall P f_WTrim #[.slice (cutA f d 0 1) (((wi64 (Int.tdiv (wi64 ((a:Int)+1)) (2:Int))).toNat)-0) (d-0)] C (fun c1 b2=>∃ (t:OA) (u v:Nat),c1= .slice t u v/\Heap.le C b2/\FCall P f_WMultiplyWords #[.slice q r s,.slice t u v] b2 (fun c2 c3=>∃ (w:OA) (x y:Nat),c2= .slice w x y/\FCall P f_WMultiplyWords #[.slice (cutA e c ((wi64 (Int.tdiv (wi64 ((a:Int)+1)) (2:Int))).toNat) 1) (a-((wi64 (Int.tdiv (wi64 ((a:Int)+1)) (2:Int))).toNat)) (c-((wi64 (Int.tdiv (wi64 ((a:Int)+1)) (2:Int))).toNat)),.slice (cutA f d ((wi64 (Int.tdiv (wi64 ((a:Int)+1)) (2:Int))).toNat) 1) (b-((wi64 (Int.tdiv (wi64 ((a:Int)+1)) (2:Int))).toNat)) (d-((wi64 (Int.tdiv (wi64 ((a:Int)+1)) (2:Int))).toNat))] c3 (fun c4 c5=>∃ (z:OA) (A B:Nat),c4= .slice z A B/\FCall P f_WAddWords #[.slice q r s,.slice (cutA e c ((wi64 (Int.tdiv (wi64 ((a:Int)+1)) (2:Int))).toNat) 1) (a-((wi64 (Int.tdiv (wi64 ((a:Int)+1)) (2:Int))).toNat)) (c-((wi64 (Int.tdiv (wi64 ((a:Int)+1)) (2:Int))).toNat))] c5 (fun c6 c7=>∃ (S:OA) (T V:Nat),c6= .slice S T V/\FCall P f_WAddWords #[.slice t u v,.slice (cutA f d ((wi64 (Int.tdiv (wi64 ((a:Int)+1)) (2:Int))).toNat) 1) (b-((wi64 (Int.tdiv (wi64 ((a:Int)+1)) (2:Int))).toNat)) (d-((wi64 (Int.tdiv (wi64 ((a:Int)+1)) (2:Int))).toNat))] c7 (fun c8 c9=>∃ (W:OA) (X Z:Nat),c8= .slice W X Z/\FCall P f_WMultiplyWords #[.slice S T V,.slice W X Z] c9 (fun d0 d1=>∃ (a0:OA) (a1 a2:Nat),d0= .slice a0 a1 a2/\FCall P f_WSubtractWords #[.slice a0 a1 a2,.slice w x y] d1 (fun d2 d3=>∃ (a3:OA) (a4 a5:Nat),d2= .slice a3 a4 a5/\FCall P f_WSubtractWords #[.slice a3 a4 a5,.slice z A B] d3 (fun d4 d5=>∃ (a6:OA) (a7 a8:Nat),d4= .slice a6 a7 a8/\wpH P (Instr.makeSlice 92 (I (wi64 ((a:Int)+(b:Int)))) (I (wi64 ((a:Int)+(b:Int))))) (fun d6 d7=>∃ (k:OA) (g i:Nat),d6= .slice k g i/\wpH P (Builtin.copy_ #[92,92] 3 #[.slice k g i,.slice w x y]) (fun d8 d9=>∃ (b4:Int),d8=I b4/\(0<=wi64 ((2:Int)*(wi64 (Int.tdiv (wi64 ((a:Int)+1)) (2:Int))))/\wi64 ((2:Int)*(wi64 (Int.tdiv (wi64 ((a:Int)+1)) (2:Int))))<=(g:Int))/\wpH P (Builtin.copy_ #[92,92] 3 #[.slice (cutA k i ((wi64 ((2:Int)*(wi64 (Int.tdiv (wi64 ((a:Int)+1)) (2:Int))))).toNat) 1) (g-((wi64 ((2:Int)*(wi64 (Int.tdiv (wi64 ((a:Int)+1)) (2:Int))))).toNat)) (i-((wi64 ((2:Int)*(wi64 (Int.tdiv (wi64 ((a:Int)+1)) (2:Int))))).toNat)),.slice z A B]) (fun e0 e1=>∃ (b5:Int),e0=I b5/\(0<=wi64 (Int.tdiv (wi64 ((a:Int)+1)) (2:Int))/\wi64 (Int.tdiv (wi64 ((a:Int)+1)) (2:Int))<=(g:Int))/\FCall P f_WAddInto #[.slice (cutA k i ((wi64 (Int.tdiv (wi64 ((a:Int)+1)) (2:Int))).toNat) 1) (g-((wi64 (Int.tdiv (wi64 ((a:Int)+1)) (2:Int))).toNat)) (i-((wi64 (Int.tdiv (wi64 ((a:Int)+1)) (2:Int))).toNat)),.slice a6 a7 a8] e1 (fun e2 e3=>e2= .tuple #[]/\FCall P f_WTrim #[.slice k g i] e3 (fun e4 e5=>∃ (a9:OA) (b0 b1:Nat),e4= .slice a9 b0 b1/\K (.slice a9 b0 b1) e5))) d9) d7) d5)))))))))))))
theorem WMultiplyWords_ok(a:OA)(b d:Nat)(e:OA)(f g:Nat)(hvc:WMultiplyWords Tryz.prog a b d e f g h K):FCall Tryz.prog f_WMultiplyWords #[.slice a b d,.slice e f g] h K:=
 fn_sound Tryz.func191 (c:=codeOf Tryz.f191) (by kernel_rfl) (rs:=[.tmp 4]) (by kernel_rfl) (fa:={ loops:=[(11,{ slots:=[55],owns:=[],zs:=[.int .i64 0],lim:={ slots:=([7,8]++List.range' 55 22),keys:=[] } })],cuts:=[(3,{ slots:=[0,1],owns:=[],zs:=[.slice none 0 0,.slice none 0 0],lim:={ slots:=[0,1,17,18,19,20,21,22,23],keys:=[] } }),(7,{ slots:=[32],owns:=[],zs:=[.bool false],lim:={ slots:=(List.range' 32 10),keys:=[] } })],orders:=[(18,([0,1,2,4,5,6,3,7,8],[[],[],[0,1],[0,1,2],[],[],[4,5],[0,1,2,3],(List.range' 0 8)])),(19,([0,1,2,4,5,6,3,7,8],[[],[],[0,1],[0,1,2],[],[],[4,5],[0,1,2,3],(List.range' 0 8)]))] })
  (cfg:={ n:=141,own:=[],lim:=none,fns:=[188,191,199,200,210,215,216],wr:=[210,216] }) (args:=[.slice a b d,.slice e f g]) (by kernel_rfl) (Bodies.cons Tryz.call188 (Bodies.cons Tryz.call191 (Bodies.cons Tryz.call199 (Bodies.cons Tryz.call200 (Bodies.cons Tryz.call210 (Bodies.cons Tryz.call215 (Bodies.cons Tryz.call216 Bodies.nil))))))) (Eq.mp (by kernel_rfl:WMultiplyWords Tryz.prog a b d e f g h K=_) hvc)
def WMultiplyLong(P:Program)(x:OA)(c g:Nat)(y:OA)(b z:Nat)(h:Heap)(K:Value->Heap->Prop):Prop:=
 wpH P (Instr.makeSlice 92 (I (wi64 ((c:Int)+(b:Int)))) (I (wi64 ((c:Int)+(b:Int))))) (fun A B=>∃ (i:OA) (e f:Nat),A= .slice i e f/\∃ (j:List Value->Heap->Prop) (l:List Value->Heap->Nat),j [I 0] B/\
 ∀ (a:Int),∀ d,j [I a] d->Br (decide (a<(c:Int))) ((0<=a/\a<=(e:Int))/\(0<=(if (c:Int)<(wi64 (a+(b:Int))) then (c:Int) else wi64 (a+(b:Int)))/\(if (c:Int)<(wi64 (a+(b:Int))) then (c:Int) else wi64 (a+(b:Int)))<=(g:Int))/\(0<=a/\a<=((((if (c:Int)<(wi64 (a+(b:Int))) then (c:Int) else wi64 (a+(b:Int)))).toNat:Nat):Int))/\FCall P f_WTrim #[.slice (cutA x g (a.toNat) 1) ((((if (c:Int)<(wi64 (a+(b:Int))) then (c:Int) else wi64 (a+(b:Int)))).toNat)-(a.toNat)) (g-(a.toNat))] d (fun C k=>∃ (m:OA) (n o:Nat),C= .slice m n o/\Heap.le d k/\FCall P f_WMultiplyWords #[.slice m n o,.slice y b z] k (fun D v=>∃ (p:OA) (q r:Nat),D= .slice p q r/\Heap.le k v/\FCall P f_WAddInto #[.slice (cutA i f (a.toNat) 1) (e-(a.toNat)) (f-(a.toNat)),.slice p q r] v (fun E w=>E= .tuple #[]/\j [I (wi64 (a+(b:Int)))] w/\l [I (wi64 (a+(b:Int)))] w<l [I a] d))))
 (FCall P f_WTrim #[.slice i e f] d (fun F G=>∃ (s:OA) (t u:Nat),F= .slice s t u/\K (.slice s t u) G))) h
theorem WMultiplyLong_ok(a:OA)(b d:Nat)(e:OA)(f g:Nat)(hvc:WMultiplyLong Tryz.prog a b d e f g h K):FCall Tryz.prog f_WMultiplyLong #[.slice a b d,.slice e f g] h K:=
 fn_sound Tryz.func215 (c:=codeOf Tryz.f215) (by kernel_rfl) (rs:=[.tmp 4]) (by kernel_rfl) (fa:={ loops:=[(3,{ slots:=[6],owns:=[],zs:=[.int .i64 0],lim:={ slots:=([6,7]++List.range' 14 26),keys:=[] } })],cuts:=[],orders:=[(6,([0,1,2,3,4,5,6,8,7,9,10],[[],[],[0,1],[],[],[],[3,4,5],[3,4,5,6],[],[3,4,5,6,7,8],(List.range' 0 10)]))] })
  (cfg:={ n:=42,own:=[],lim:=none,fns:=[188,191,216],wr:=[216] }) (args:=[.slice a b d,.slice e f g]) (by kernel_rfl) (Bodies.cons Tryz.call188 (Bodies.cons Tryz.call191 (Bodies.cons Tryz.call216 Bodies.nil))) (Eq.mp (by kernel_rfl:WMultiplyLong Tryz.prog a b d e f g h K=_) hvc)
def WDivideWord(P:Program)(t:OA)(c B:Nat)(u:Int)(h:Heap)(K:Value->Heap->Prop):Prop:=
 wpH P (Instr.makeSlice 92 (I (c:Int)) (I (c:Int))) (fun v w=>∃ (e:OA) (f j:Nat),v= .slice e f j/\∃ (g:List Value->Heap->Prop) (k:List Value->Heap->Nat),g [U 0,I (wi64 ((c:Int)-1))] w/\
 ∀ (d:Int) (a:Int),∀ b,g [U d,I a] b->Br (decide (a>=(0:Int))) (∃ r,t=some r/\0<=a/\a<(c:Int)/\∃ (l:Int),b.cell? (r.add (a.toNat*1))=some (U l)/\FCall P f_BDiv64 #[U d,U l,U u] b (fun x y=>∃ (m:Int) (i:Int),x= .tuple #[U m,U i]/\∃ s,e=some s/\0<=a/\a<(f:Int)/\wpH P (Instr.storeAt 157 (.pointer (some (s.add (a.toNat*1)))) (U m)) (fun _ q=>g [U i,I (wi64 (a-1))] q/\k [U i,I (wi64 (a-1))] q<k [U d,I a] b) y))
 (FCall P f_WTrim #[.slice e f j] b (fun z A=>∃ (n:OA) (o p:Nat),z= .slice n o p/\K (.tuple #[.slice n o p,U d]) A))) h
theorem WDivideWord_ok(a:OA)(b d:Nat)(e:Int)(hvc:WDivideWord Tryz.prog a b d e h K):FCall Tryz.prog f_WDivideWord #[.slice a b d,U e] h K:=
 fn_sound Tryz.func249 (c:=codeOf Tryz.f249) (by kernel_rfl) (rs:=[.tmp 4,.tmp 5]) (by kernel_rfl) (fa:={ loops:=[(4,{ slots:=[7,8],owns:=[],zs:=[.int .u64 0,.int .i64 0],lim:={ slots:=([7,8]++List.range' 15 17),keys:=[] } })],cuts:=[],orders:=[] })
  (cfg:={ n:=35,own:=[],lim:=none,fns:=[188,203],wr:=[] }) (args:=[.slice a b d,U e]) (by kernel_rfl) (Bodies.cons Tryz.call188 (Bodies.cons Tryz.call203 Bodies.nil)) (Eq.mp (by kernel_rfl:WDivideWord Tryz.prog a b d e h K=_) hvc)
def WRemainderWord(P:Program)(l:OA)(f p:Nat)(m:Int)(h:Heap)(K:Value->Heap->Prop):Prop:=
 ∃ (d:List Value->Heap->Prop) (g:List Value->Heap->Nat),d [U 0,I (wi64 ((f:Int)-1))] h/\
 ∀ (c:Int) (a:Int),∀ b,d [U c,I a] b->Br (decide (a>=(0:Int))) (∃ k,l=some k/\0<=a/\a<(f:Int)/\∃ (i:Int),b.cell? (k.add (a.toNat*1))=some (U i)/\FCall P f_BDiv64 #[U c,U i,U m] b (fun o j=>∃ (n:Int) (e:Int),o= .tuple #[U n,U e]/\d [U e,I (wi64 (a-1))] j/\g [U e,I (wi64 (a-1))] j<g [U c,I a] b))
 (K (U c) b)
theorem WRemainderWord_ok(a:OA)(b d:Nat)(e:Int)(hvc:WRemainderWord Tryz.prog a b d e h K):FCall Tryz.prog f_WRemainderWord #[.slice a b d,U e] h K:=
 fn_sound Tryz.func171 (c:=codeOf Tryz.f171) (by kernel_rfl) (rs:=[.tmp 4]) (by kernel_rfl) (fa:={ loops:=[(3,{ slots:=[5,6],owns:=[],zs:=[.int .u64 0,.int .i64 0],lim:={ slots:=([5,6]++List.range' 10 14),keys:=[] } })],cuts:=[],orders:=[] })
  (cfg:={ n:=25,own:=[],lim:=none,fns:=[203],wr:=[] }) (args:=[.slice a b d,U e]) (by kernel_rfl) (Bodies.cons Tryz.call203 Bodies.nil) (Eq.mp (by kernel_rfl:WRemainderWord Tryz.prog a b d e h K=_) hvc)
def WDivideWords(P:Program)(c:OA)(b d:Nat)(e:OA)(a f:Nat)(h:Heap)(K:Value->Heap->Prop):Prop:=
 Br (decide ((a:Int)>=(80:Int))) (Br (decide ((wi64 ((b:Int)-(a:Int)))>=(80:Int))) (FCall P f_WDivideBlocks #[.slice c b d,.slice e a f] h (fun z A=>∃ (g:OA) (i j:Nat) (k:OA) (l m:Nat),z= .tuple #[.slice g i j,.slice k l m]/\K (.tuple #[.slice g i j,.slice k l m]) A))
 (FCall P f_WDivideSimple #[.slice c b d,.slice e a f] h (fun B C=>∃ (n:OA) (o p:Nat) (q:OA) (r s:Nat),B= .tuple #[.slice n o p,.slice q r s]/\K (.tuple #[.slice n o p,.slice q r s]) C)))
 (FCall P f_WDivideSimple #[.slice c b d,.slice e a f] h (fun D E=>∃ (t:OA) (u v:Nat) (w:OA) (x y:Nat),D= .tuple #[.slice t u v,.slice w x y]/\K (.tuple #[.slice t u v,.slice w x y]) E))
theorem WDivideWords_ok(a:OA)(b d:Nat)(e:OA)(f g:Nat)(hvc:WDivideWords Tryz.prog a b d e f g h K):FCall Tryz.prog f_WDivideWords #[.slice a b d,.slice e f g] h K:=
 fn_sound Tryz.func204 (c:=codeOf Tryz.f204) (by kernel_rfl) (rs:=[.tmp 4,.tmp 5]) (by kernel_rfl) (fa:={ loops:=[],cuts:=[],orders:=[] })
  (cfg:={ n:=27,own:=[],lim:=none,fns:=[227,228],wr:=[] }) (args:=[.slice a b d,.slice e f g]) (by kernel_rfl) (Bodies.cons Tryz.call227 (Bodies.cons Tryz.call228 Bodies.nil)) (Eq.mp (by kernel_rfl:WDivideWords Tryz.prog a b d e f g h K=_) hvc)
def WDivideSimpleL23(P:Program)(d:Nat)(w:OA)(k:Nat)(e:OA)(f:Nat)(b:Int)(x:Int)(y:List Value->Heap->Prop)(z:Heap):Prop:=
 ∃ (i:List Value->Heap->Prop) (l:List Value->Heap->Nat),i [U 0,I 0] z/\
 ∀ (g:Int) (a:Int),∀ c,i [U g,I a] c->Br (decide (a<(k:Int))) (∃ r,w=some r/\0<=a/\a<(k:Int)/\∃ (m:Int),c.cell? (r.add (a.toNat*1))=some (U m)/\∃ s,e=some s/\0<=wi64 (b+a)/\wi64 (b+a)<(f:Int)/\∃ (n:Int),c.cell? (s.add ((wi64 (b+a)).toNat*1))=some (U n)/\ECall P f_BAdd64 #[U n,U m,U g] c (fun A B=>∃ (o:Int) (j:Int),A= .tuple #[U o,U j]/\∃ t,e=some t/\0<=wi64 (b+a)/\wi64 (b+a)<(f:Int)/\wpH P (Instr.storeAt 157 (.pointer (some (t.add ((wi64 (b+a)).toNat*1)))) (U o)) (fun _ q=>i [U j,I (wi64 (a+1))] q/\l [U j,I (wi64 (a+1))] q<l [U g,I a] c) B))
 (∃ u,e=some u/\0<=wi64 (b+(d:Int))/\wi64 (b+(d:Int))<(f:Int)/\∃ (p:Int),c.cell? (u.add ((wi64 (b+(d:Int))).toNat*1))=some (U p)/\∃ v,e=some v/\0<=wi64 (b+(d:Int))/\wi64 (b+(d:Int))<(f:Int)/\wpH P (Instr.storeAt 157 (.pointer (some (v.add ((wi64 (b+(d:Int))).toNat*1)))) (U (wu64 (p+g)))) (fun _ C=>y [U (wu64 (x-1))] C) c)
def WDivideSimpleB13(P:Program)(b:Nat)(K:Value->Heap->Prop)(J:Int)(g:OA)(i n:Nat)(d:OA)(e c:Nat)(o:OA)(p L:Nat)(M:List Value->Heap->Prop)(q:List Value->Heap->Nat)(a:Int)(j:Heap):Prop:=
 Br (decide (a>=(0:Int))) ((0<=wi64 ((wi64 (a+(b:Int)))+1)/\wi64 ((wi64 (a+(b:Int)))+1)<=(c:Int))/\(0<=a/\a<=(((wi64 ((wi64 (a+(b:Int)))+1)).toNat:Nat):Int))/\FCall P f_WEstimate #[.slice (cutA d c (a.toNat) 1) (((wi64 ((wi64 (a+(b:Int)))+1)).toNat)-(a.toNat)) (c-(a.toNat)),.slice g i n] j (fun N O=>∃ (f:Int),N=U f/\(0<=wi64 (a+(b:Int))/\wi64 (a+(b:Int))<=(c:Int))/\(0<=a/\a<=(((wi64 (a+(b:Int))).toNat:Nat):Int))/\FCall P f_WSubtractProduct #[.slice (cutA d c (a.toNat) 1) (((wi64 (a+(b:Int))).toNat)-(a.toNat)) (c-(a.toNat)),.slice g i n,U f] O (fun Q B=>∃ (k:Int),Q=U k/\∃ E,d=some E/\0<=wi64 (a+(b:Int))/\wi64 (a+(b:Int))<(e:Int)/\∃ (l:Int),B.cell? (E.add ((wi64 (a+(b:Int))).toNat*1))=some (U l)/\∃ F,d=some F/\0<=wi64 (a+(b:Int))/\wi64 (a+(b:Int))<(e:Int)/\wpH P (Instr.storeAt 157 (.pointer (some (F.add ((wi64 (a+(b:Int))).toNat*1)))) (U (wu64 (l-k)))) (fun _ C=>∃ (m:List Value->Heap->Prop),(Br (decide (l<k)) (WDivideSimpleL23 P b g i d e a f m C)
 (m [U f] C))/\
 ∀ (r:Int),∀ G,m [U r] G->∃ H,o=some H/\0<=a/\a<(p:Int)/\wpH P (Instr.storeAt 157 (.pointer (some (H.add (a.toNat*1)))) (U r)) (fun _ D=>M [I (wi64 (a-1))] D/\q [I (wi64 (a-1))] D<q [I a] j) G) B)))
 (FCall P f_WTrim #[.slice o p L] j (fun R S=>∃ (s:OA) (t u:Nat),R= .slice s t u/\FCall P f_WTrim #[.slice d e c] S (fun T V=>∃ (v:OA) (w x:Nat),T= .slice v w x/\FCall P f_WShiftRight #[.slice v w x,U (wu64 J)] V (fun W X=>∃ (y:OA) (z A:Nat),W= .slice y z A/\K (.tuple #[.slice s t u,.slice y z A]) X))))
def WDivideSimpleL13(P:Program)(e b:Nat)(K:Value->Heap->Prop)(f:Int)(g:OA)(i j:Nat)(k:OA)(l m:Nat)(n:OA)(o p:Nat)(q:Heap):Prop:=
 ∃ (a:List Value->Heap->Prop) (r:List Value->Heap->Nat),a [I (wi64 ((e:Int)-(b:Int)))] q/\
 ∀ (c:Int),∀ d,a [I c] d->WDivideSimpleB13 P b K f g i j k l m n o p a r c d
def WDivideSimple(P:Program)(d:OA)(b e:Nat)(f:OA)(a l:Nat)(h:Heap)(K:Value->Heap->Prop):Prop:=
 FCall P f_WCompareWords #[.slice d b e,.slice f a l] h (fun J c=>∃ (m:Int),J=I m/\Br (decide (m<(0:Int))) (K (.tuple #[.slice none 0 0,.slice d b e]) c)
 (Br ((a:Int)==(1:Int)) (∃ F,f=some F/\0<=(0:Int)/\(0:Int)<(a:Int)/\∃ (n:Int),c.cell? (F.add (((0:Int)).toNat*1))=some (U n)/\FCall P f_WDivideWord #[.slice d b e,U n] c (fun L M=>∃ (o:OA) (p q:Nat) (r:Int),L= .tuple #[.slice o p q,U r]/\FCall P f_WFromWord #[U r] M (fun N O=>∃ (s:OA) (t u:Nat),N= .slice s t u/\K (.tuple #[.slice o p q,.slice s t u]) O)))
 (∃ G,f=some G/\0<=wi64 ((a:Int)-1)/\wi64 ((a:Int)-1)<(a:Int)/\∃ (v:Int),c.cell? (G.add ((wi64 ((a:Int)-1)).toNat*1))=some (U v)/\FCall P f_BLeadingZeros64 #[U v] c (fun Q R=>∃ (g:Int),Q=I g/\FCall P f_WShiftLeft #[.slice f a l,U (wu64 g)] R (fun S T=>∃ (w:OA) (x y:Nat),S= .slice w x y/\wpH P (Instr.makeSlice 92 (I (wi64 ((b:Int)+1))) (I (wi64 ((b:Int)+1)))) (fun V W=>∃ (i:OA) (j k:Nat),V= .slice i j k/\FCall P f_WShiftLeft #[.slice d b e,U (wu64 g)] W (fun X Z=>∃ (z:OA) (A B:Nat),X= .slice z A B/\wpH P (Builtin.copy_ #[92,92] 3 #[.slice i j k,.slice z A B]) (fun a0 a1=>∃ (H:Int),a0=I H/\wpH P (Instr.makeSlice 92 (I (wi64 ((wi64 ((b:Int)-(a:Int)))+1))) (I (wi64 ((wi64 ((b:Int)-(a:Int)))+1)))) (fun a2 a3=>∃ (C:OA) (D E:Nat),a2= .slice C D E/\WDivideSimpleL13 P b a K g w x y i j k C D E a3) a1) Z)) T)))))
theorem WDivideSimple_ok(a:OA)(b d:Nat)(e:OA)(f g:Nat)(hvc:WDivideSimple Tryz.prog a b d e f g h K):FCall Tryz.prog f_WDivideSimple #[.slice a b d,.slice e f g] h K:=
 fn_sound Tryz.func228 (c:=codeOf Tryz.f228) (by kernel_rfl) (rs:=[.tmp 4,.tmp 5]) (by kernel_rfl) (fa:={ loops:=[(13,{ slots:=[13],owns:=[],zs:=[.int .i64 0],lim:={ slots:=([13,14,15,16,17,18,19]++List.range' 72 79),keys:=[] } }),(23,{ slots:=[17,115],owns:=[],zs:=[.int .u64 0,.int .i64 0],lim:={ slots:=([17,18,19]++List.range' 115 23),keys:=[] } })],cuts:=[(28,{ slots:=[14],owns:=[],zs:=[.int .u64 0],lim:={ slots:=([14,17,18,19]++List.range' 108 39),keys:=[] } })],orders:=[] })
  (cfg:={ n:=157,own:=[],lim:=none,fns:=[158,188,189,226,243,248,249,250,251],wr:=[251] }) (args:=[.slice a b d,.slice e f g]) (by kernel_rfl) (Bodies.cons Tryz.call158 (Bodies.cons Tryz.call188 (Bodies.cons Tryz.call189 (Bodies.cons Tryz.call226 (Bodies.cons Tryz.call243 (Bodies.cons Tryz.call248 (Bodies.cons Tryz.call249 (Bodies.cons Tryz.call250 (Bodies.cons Tryz.call251 Bodies.nil))))))))) (Eq.mp (by kernel_rfl:WDivideSimple Tryz.prog a b d e f g h K=_) hvc)
def WEstimate(P:Program)(f:OA)(g E:Nat)(m:OA)(a F:Nat)(h:Heap)(K:Value->Heap->Prop):Prop:=
 ∃ w,m=some w/\0<=wi64 ((a:Int)-1)/\wi64 ((a:Int)-1)<(a:Int)/\∃ (c:Int),h.cell? (w.add ((wi64 ((a:Int)-1)).toNat*1))=some (U c)/\∃ x,m=some x/\0<=wi64 ((a:Int)-2)/\wi64 ((a:Int)-2)<(a:Int)/\∃ (n:Int),h.cell? (x.add ((wi64 ((a:Int)-2)).toNat*1))=some (U n)/\∃ y,f=some y/\0<=(a:Int)/\(a:Int)<(g:Int)/\∃ (o:Int),h.cell? (y.add (((a:Int)).toNat*1))=some (U o)/\Br (decide (o>=c)) (K (U 18446744073709551615) h)
 (∃ z,f=some z/\0<=(a:Int)/\(a:Int)<(g:Int)/\∃ (p:Int),h.cell? (z.add (((a:Int)).toNat*1))=some (U p)/\∃ A,f=some A/\0<=wi64 ((a:Int)-1)/\wi64 ((a:Int)-1)<(g:Int)/\∃ (q:Int),h.cell? (A.add ((wi64 ((a:Int)-1)).toNat*1))=some (U q)/\FCall P f_BDiv64 #[U p,U q,U c] h (fun C v=>∃ (r:Int) (s:Int),C= .tuple #[U r,U s]/\Heap.le h v/\∃ (i:List Value->Heap->Prop) (j:List Value->Heap->Nat),i [U r,U s] v/\
 ∀ (b:Int) (d:Int),∀ k,i [U b,U d] k->FCall P f_BMul64 #[U b,U n] k (fun D e=>∃ (l:Int) (t:Int),D= .tuple #[U l,U t]/\Br (decide (l<d)) (K (U b) e)
 (Br (l==d) (∃ B,f=some B/\0<=wi64 ((a:Int)-2)/\wi64 ((a:Int)-2)<(g:Int)/\∃ (u:Int),e.cell? (B.add ((wi64 ((a:Int)-2)).toNat*1))=some (U u)/\Br (decide (t<=u)) (K (U b) e)
 (Br (decide ((wu64 (d+c))<c)) (K (U (wu64 (b-1))) e)
 (i [U (wu64 (b-1)),U (wu64 (d+c))] e/\j [U (wu64 (b-1)),U (wu64 (d+c))] e<j [U b,U d] k)))
 (Br (decide ((wu64 (d+c))<c)) (K (U (wu64 (b-1))) e)
 (i [U (wu64 (b-1)),U (wu64 (d+c))] e/\j [U (wu64 (b-1)),U (wu64 (d+c))] e<j [U b,U d] k))))))
theorem WEstimate_ok(a:OA)(b d:Nat)(e:OA)(f g:Nat)(hvc:WEstimate Tryz.prog a b d e f g h K):FCall Tryz.prog f_WEstimate #[.slice a b d,.slice e f g] h K:=
 fn_sound Tryz.func250 (c:=codeOf Tryz.f250) (by kernel_rfl) (rs:=[.tmp 4]) (by kernel_rfl) (fa:={ loops:=[(6,{ slots:=[8,9],owns:=[],zs:=[.int .u64 0,.int .u64 0],lim:={ slots:=([4,8,9,10,11]++List.range' 44 33),keys:=[] } })],cuts:=[],orders:=[(2,((List.range' 0 12),[[],[],[1],[0,1,2],[0,1,2,3],[],[],[6],[5,6,7],[5,6,7,8],[0,1,2,3,4],(List.range' 0 11)])),(5,((List.range' 0 16),[[],[],[0,1],[0,1,2],[],[],[5],[4,5,6],[4,5,6,7],[],(List.range' 0 10),(List.range' 0 11),(List.range' 0 12),(List.range' 0 12),(List.range' 0 13),(List.range' 0 15)]))] })
  (cfg:={ n:=77,own:=[],lim:=none,fns:=[198,203],wr:=[] }) (args:=[.slice a b d,.slice e f g]) (by kernel_rfl) (Bodies.cons Tryz.call198 (Bodies.cons Tryz.call203 Bodies.nil)) (Eq.mp (by kernel_rfl:WEstimate Tryz.prog a b d e f g h K=_) hvc)
def WLowWords(P:Program)(g:OA)(a c:Nat)(b:Int)(h:Heap)(K:Value->Heap->Prop):Prop:=
 (0<=(if (a:Int)<b then (a:Int) else b)/\(if (a:Int)<b then (a:Int) else b)<=(c:Int))/\FCall P f_WTrim #[.slice (cutA g c 0 1) ((((if (a:Int)<b then (a:Int) else b)).toNat)-0) (c-0)] h (fun i j=>∃ (d:OA) (e f:Nat),i= .slice d e f/\K (.slice d e f) j)
theorem WLowWords_ok(b:OA)(d e:Nat)(a:Int)(hvc:WLowWords Tryz.prog b d e a h K):FCall Tryz.prog f_WLowWords #[.slice b d e,I a] h K:=
 fn_sound Tryz.func244 (c:=codeOf Tryz.f244) (by kernel_rfl) (rs:=[.tmp 4]) (by kernel_rfl) (fa:={ loops:=[],cuts:=[],orders:=[] })
  (cfg:={ n:=12,own:=[],lim:=none,fns:=[188],wr:=[] }) (args:=[.slice b d e,I a]) (by kernel_rfl) (Bodies.cons Tryz.call188 Bodies.nil) (Eq.mp (by kernel_rfl:WLowWords Tryz.prog b d e a h K=_) hvc)
def WHighWords(P:Program)(d:OA)(a c:Nat)(b:Int)(h:Heap)(K:Value->Heap->Prop):Prop:=
 (0<=(if (a:Int)<b then (a:Int) else b)/\(if (a:Int)<b then (a:Int) else b)<=(a:Int))/\K (.slice (cutA d c (((if (a:Int)<b then (a:Int) else b)).toNat) 1) (a-(((if (a:Int)<b then (a:Int) else b)).toNat)) (c-(((if (a:Int)<b then (a:Int) else b)).toNat))) h
theorem WHighWords_ok(b:OA)(d e:Nat)(a:Int)(hvc:WHighWords Tryz.prog b d e a h K):FCall Tryz.prog f_WHighWords #[.slice b d e,I a] h K:=
 fn_sound Tryz.func245 (c:=codeOf Tryz.f245) (by kernel_rfl) (rs:=[.tmp 4]) (by kernel_rfl) (fa:={ loops:=[],cuts:=[],orders:=[] })
  (cfg:={ n:=11,own:=[],lim:=none,fns:=[],wr:=[] }) (args:=[.slice b d e,I a]) (by kernel_rfl) Bodies.nil (Eq.mp (by kernel_rfl:WHighWords Tryz.prog b d e a h K=_) hvc)
def WJoin(P:Program)(j:OA)(e k:Nat)(l:OA)(m n:Nat)(a:Int)(h:Heap)(K:Value->Heap->Prop):Prop:=
 wpH P (Instr.makeSlice 92 (I (wi64 (a+(e:Int)))) (I (wi64 (a+(e:Int))))) (fun q r=>∃ (d:OA) (b c:Nat),q= .slice d b c/\wpH P (Builtin.copy_ #[92,92] 3 #[.slice d b c,.slice l m n]) (fun s t=>∃ (o:Int),s=I o/\(0<=a/\a<=(b:Int))/\wpH P (Builtin.copy_ #[92,92] 3 #[.slice (cutA d c (a.toNat) 1) (b-(a.toNat)) (c-(a.toNat)),.slice j e k]) (fun u v=>∃ (p:Int),u=I p/\FCall P f_WTrim #[.slice d b c] v (fun w x=>∃ (f:OA) (g i:Nat),w= .slice f g i/\K (.slice f g i) x)) t) r) h
theorem WJoin_ok(b:OA)(d e:Nat)(f:OA)(g i:Nat)(a:Int)(hvc:WJoin Tryz.prog b d e f g i a h K):FCall Tryz.prog f_WJoin #[.slice b d e,.slice f g i,I a] h K:=
 fn_sound Tryz.func247 (c:=codeOf Tryz.f247) (by kernel_rfl) (rs:=[.tmp 6]) (by kernel_rfl) (fa:={ loops:=[],cuts:=[],orders:=[] })
  (cfg:={ n:=23,own:=[],lim:=none,fns:=[188],wr:=[] }) (args:=[.slice b d e,.slice f g i,I a]) (by kernel_rfl) (Bodies.cons Tryz.call188 Bodies.nil) (Eq.mp (by kernel_rfl:WJoin Tryz.prog b d e f g i a h K=_) hvc)
def WDivideBlocksL11(P:Program)(c:Nat)(K:Value->Heap->Prop)(a:Int)(M:Int)(N:OA)(O Q:Nat)(R:OA)(o S:Nat)(p:OA)(i j:Nat)(T:Heap):Prop:=
 ∃ (k:List Value->Heap->Prop) (q:List Value->Heap->Nat),k [.slice none 0 0,I (wi64 ((wi64 (Int.tdiv (wi64 ((o:Int)-1)) (wi64 ((wi64 (Int.tdiv (wi64 ((wi64 ((c:Int)+a))-1)) a))*a))))*(wi64 ((wi64 (Int.tdiv (wi64 ((wi64 ((c:Int)+a))-1)) a))*a))))] T/\
 ∀ (d:OA) (e f:Nat) (b:Int),∀ g,k [.slice d e f,I b] g->Br (decide (b>=(0:Int))) (FCall P f_WHighWords #[.slice R o S,I b] g (fun W X=>∃ (r:OA) (s t:Nat),W= .slice r s t/\FCall P f_WLowWords #[.slice r s t,I (wi64 ((wi64 (Int.tdiv (wi64 ((wi64 ((c:Int)+a))-1)) a))*a))] X (fun Z a0=>∃ (u:OA) (v w:Nat),Z= .slice u v w/\FCall P f_WJoin #[.slice d e f,.slice u v w,I (wi64 ((wi64 (Int.tdiv (wi64 ((wi64 ((c:Int)+a))-1)) a))*a))] a0 (fun a1 a2=>∃ (x:OA) (y z:Nat),a1= .slice x y z/\FCall P f_WDivideHalves #[.slice x y z,.slice N O Q] a2 (fun a3 a4=>∃ (A:OA) (B C:Nat) (l:OA) (m n:Nat),a3= .tuple #[.slice A B C,.slice l m n]/\(0<=b/\b<=(i:Int))/\wpH P (Builtin.copy_ #[92,92] 3 #[.slice (cutA p j (b.toNat) 1) (i-(b.toNat)) (j-(b.toNat)),.slice A B C]) (fun a5 L=>∃ (V:Int),a5=I V/\k [.slice l m n,I (wi64 (b-(wi64 ((wi64 (Int.tdiv (wi64 ((wi64 ((c:Int)+a))-1)) a))*a))))] L/\q [.slice l m n,I (wi64 (b-(wi64 ((wi64 (Int.tdiv (wi64 ((wi64 ((c:Int)+a))-1)) a))*a))))] L<q [.slice d e f,I b] g) a4)))))
 (FCall P f_WTrim #[.slice p i j] g (fun a6 a7=>∃ (D:OA) (E F:Nat),a6= .slice D E F/\FCall P f_WShiftRight #[.slice d e f,U (wu64 (wi64 ((wi64 ((64:Int)*(wi64 ((wi64 ((wi64 (Int.tdiv (wi64 ((wi64 ((c:Int)+a))-1)) a))*a))-(c:Int)))))+M)))] a7 (fun a8 a9=>∃ (G:OA) (H J:Nat),a8= .slice G H J/\K (.tuple #[.slice D E F,.slice G H J]) a9)))
def WDivideBlocksL3(P:Program)(t:OA)(u v:Nat)(g:OA)(b w:Nat)(h:Heap)(K:Value->Heap->Prop):Prop:=
 ∃ (f:List Value->Heap->Prop) (i:List Value->Heap->Nat),f [I 1] h/\
 ∀ (a:Int),∀ c,f [I a] c->Br (decide (a=0)) False
 (Br (decide ((wi64 (Int.tdiv (wi64 ((wi64 ((b:Int)+a))-1)) a))>=(80:Int))) (f [I (wi64 (a*(2:Int)))] c/\i [I (wi64 (a*(2:Int)))] c<i [I a] c)
 (Br (decide (a=0)) False
 (∃ s,g=some s/\0<=wi64 ((b:Int)-1)/\wi64 ((b:Int)-1)<(b:Int)/\∃ (j:Int),c.cell? (s.add ((wi64 ((b:Int)-1)).toNat*1))=some (U j)/\FCall P f_BLeadingZeros64 #[U j] c (fun x y=>∃ (d:Int),x=I d/\FCall P f_WShiftLeft #[.slice g b w,U (wu64 (wi64 ((wi64 ((64:Int)*(wi64 ((wi64 ((wi64 (Int.tdiv (wi64 ((wi64 ((b:Int)+a))-1)) a))*a))-(b:Int)))))+d)))] y (fun z A=>∃ (k:OA) (l m:Nat),z= .slice k l m/\FCall P f_WShiftLeft #[.slice t u v,U (wu64 (wi64 ((wi64 ((64:Int)*(wi64 ((wi64 ((wi64 (Int.tdiv (wi64 ((wi64 ((b:Int)+a))-1)) a))*a))-(b:Int)))))+d)))] A (fun B C=>∃ (n:OA) (e o:Nat),B= .slice n e o/\wpH P (Instr.makeSlice 92 (I (wi64 ((e:Int)+(wi64 ((wi64 (Int.tdiv (wi64 ((wi64 ((b:Int)+a))-1)) a))*a))))) (I (wi64 ((e:Int)+(wi64 ((wi64 (Int.tdiv (wi64 ((wi64 ((b:Int)+a))-1)) a))*a)))))) (fun D E=>∃ (p:OA) (q r:Nat),D= .slice p q r/\Br (decide (wi64 ((wi64 (Int.tdiv (wi64 ((wi64 ((b:Int)+a))-1)) a))*a)=0)) False
 (WDivideBlocksL11 P b K a d k l m n e o p q r E)) C))))))
def WDivideBlocks(P:Program)(a:OA)(b c:Nat)(d:OA)(e f:Nat)(h:Heap)(K:Value->Heap->Prop):Prop:=
 WDivideBlocksL3 P a b c d e f h K
theorem WDivideBlocks_ok(a:OA)(b d:Nat)(e:OA)(f g:Nat)(hvc:WDivideBlocks Tryz.prog a b d e f g h K):FCall Tryz.prog f_WDivideBlocks #[.slice a b d,.slice e f g] h K:=
 fn_sound Tryz.func227 (c:=codeOf Tryz.f227) (by kernel_rfl) (rs:=[.tmp 4,.tmp 5]) (by kernel_rfl) (fa:={ loops:=[(3,{ slots:=[7],owns:=[],zs:=[.int .i64 0],lim:={ slots:=([7]++List.range' 20 9),keys:=[] } }),(11,{ slots:=[13,14],owns:=[],zs:=[.slice none 0 0,.int .i64 0],lim:={ slots:=([13,14,15,16,17]++List.range' 67 25),keys:=[] } })],cuts:=[],orders:=[] })
  (cfg:={ n:=97,own:=[],lim:=none,fns:=[188,226,243,244,245,246,247,248],wr:=[] }) (args:=[.slice a b d,.slice e f g]) (by kernel_rfl) (Bodies.cons Tryz.call188 (Bodies.cons Tryz.call226 (Bodies.cons Tryz.call243 (Bodies.cons Tryz.call244 (Bodies.cons Tryz.call245 (Bodies.cons Tryz.call246 (Bodies.cons Tryz.call247 (Bodies.cons Tryz.call248 Bodies.nil)))))))) (Eq.mp (by kernel_rfl:WDivideBlocks Tryz.prog a b d e f g h K=_) hvc)
def WDivideHalves(P:Program)(b:OA)(c d:Nat)(e:OA)(a f:Nat)(h:Heap)(K:Value->Heap->Prop):Prop:=
 Br (decide ((a:Int)<(80:Int))) (FCall P f_WDivideSimple #[.slice b c d,.slice e a f] h (fun V W=>∃ (g:OA) (i j:Nat) (k:OA) (l m:Nat),V= .tuple #[.slice g i j,.slice k l m]/\K (.tuple #[.slice g i j,.slice k l m]) W))
 (Br ((Int.tmod (a:Int) (2:Int)) != (0:Int)) (FCall P f_WDivideSimple #[.slice b c d,.slice e a f] h (fun X Z=>∃ (n:OA) (o p:Nat) (q:OA) (r s:Nat),X= .tuple #[.slice n o p,.slice q r s]/\K (.tuple #[.slice n o p,.slice q r s]) Z))
 (FCall P f_WHighWords #[.slice b c d,I (wi64 (Int.tdiv (a:Int) (2:Int)))] h (fun a0 a1=>∃ (t:OA) (u v:Nat),a0= .slice t u v/\FCall P f_WDivideThirds #[.slice t u v,.slice e a f] a1 (fun a2 a3=>∃ (w:OA) (x y:Nat) (z:OA) (A B:Nat),a2= .tuple #[.slice w x y,.slice z A B]/\FCall P f_WLowWords #[.slice b c d,I (wi64 (Int.tdiv (a:Int) (2:Int)))] a3 (fun a4 a5=>∃ (C:OA) (D E:Nat),a4= .slice C D E/\FCall P f_WJoin #[.slice z A B,.slice C D E,I (wi64 (Int.tdiv (a:Int) (2:Int)))] a5 (fun a6 a7=>∃ (F:OA) (G H:Nat),a6= .slice F G H/\FCall P f_WDivideThirds #[.slice F G H,.slice e a f] a7 (fun a8 a9=>∃ (J:OA) (L M:Nat) (N:OA) (O Q:Nat),a8= .tuple #[.slice J L M,.slice N O Q]/\FCall P f_WJoin #[.slice w x y,.slice J L M,I (wi64 (Int.tdiv (a:Int) (2:Int)))] a9 (fun b0 b1=>∃ (R:OA) (S T:Nat),b0= .slice R S T/\K (.tuple #[.slice R S T,.slice N O Q]) b1))))))))
theorem WDivideHalves_ok(a:OA)(b d:Nat)(e:OA)(f g:Nat)(hvc:WDivideHalves Tryz.prog a b d e f g h K):FCall Tryz.prog f_WDivideHalves #[.slice a b d,.slice e f g] h K:=
 fn_sound Tryz.func246 (c:=codeOf Tryz.f246) (by kernel_rfl) (rs:=[.tmp 4,.tmp 5]) (by kernel_rfl) (fa:={ loops:=[],cuts:=[],orders:=[] })
  (cfg:={ n:=51,own:=[],lim:=none,fns:=[228,244,245,247,253],wr:=[] }) (args:=[.slice a b d,.slice e f g]) (by kernel_rfl) (Bodies.cons Tryz.call228 (Bodies.cons Tryz.call244 (Bodies.cons Tryz.call245 (Bodies.cons Tryz.call247 (Bodies.cons Tryz.call253 Bodies.nil))))) (Eq.mp (by kernel_rfl:WDivideHalves Tryz.prog a b d e f g h K=_) hvc)
def WDivideThirdsL11(P:Program)(C:OA)(D E:Nat)(K:Value->Heap->Prop)(F:OA)(G H:Nat)(p:OA)(q r:Nat)(J:OA)(L M:Nat)(N:Heap):Prop:=
 ∃ (g:List Value->Heap->Prop) (s:List Value->Heap->Nat),g [.slice F G H,.slice J L M] N/\
 ∀ (d:OA) (e f:Nat) (a:OA) (b c:Nat),∀ o,g [.slice d e f,.slice a b c] o->FCall P f_WCompareWords #[.slice a b c,.slice p q r] o (fun O A=>∃ (t:Int),O=I t/\Br (decide (t<(0:Int))) (FCall P f_WAddWords #[.slice a b c,.slice C D E] A (fun Q R=>∃ (i:OA) (j k:Nat),Q= .slice i j k/\wpH P (Instr.buildSlice 92 1 #[(0,U 1)]) (fun S T=>∃ (u:OA) (v w:Nat),S= .slice u v w/\FCall P f_WSubtractWords #[.slice d e f,.slice u v w] T (fun V B=>∃ (l:OA) (m n:Nat),V= .slice l m n/\g [.slice l m n,.slice i j k] B/\s [.slice l m n,.slice i j k] B<s [.slice d e f,.slice a b c] o)) R))
 (FCall P f_WSubtractWords #[.slice a b c,.slice p q r] A (fun W X=>∃ (x:OA) (y z:Nat),W= .slice x y z/\K (.tuple #[.slice d e f,.slice x y z]) X)))
def WDivideThirds(P:Program)(d:OA)(e f:Nat)(c:OA)(a b:Nat)(h:Heap)(K:Value->Heap->Prop):Prop:=
 (0<=wi64 (Int.tdiv (a:Int) (2:Int))/\wi64 (Int.tdiv (a:Int) (2:Int))<=(b:Int))/\(0<=wi64 (Int.tdiv (a:Int) (2:Int))/\wi64 (Int.tdiv (a:Int) (2:Int))<=(a:Int))/\FCall P f_WTrim #[.slice (cutA c b 0 1) (((wi64 (Int.tdiv (a:Int) (2:Int))).toNat)-0) (b-0)] h (fun b0 a7=>∃ (o:OA) (p q:Nat),b0= .slice o p q/\Heap.le h a7/\FCall P f_WHighWords #[.slice d e f,I (wi64 (Int.tdiv (a:Int) (2:Int)))] a7 (fun b1 b2=>∃ (g:OA) (i j:Nat),b1= .slice g i j/\∃ (k:List Value->Heap->Prop),(FCall P f_WHighWords #[.slice d e f,I (wi64 ((2:Int)*(wi64 (Int.tdiv (a:Int) (2:Int)))))] b2 (fun b3 b4=>∃ (r:OA) (s t:Nat),b3= .slice r s t/\FCall P f_WCompareWords #[.slice r s t,.slice (cutA c b ((wi64 (Int.tdiv (a:Int) (2:Int))).toNat) 1) (a-((wi64 (Int.tdiv (a:Int) (2:Int))).toNat)) (b-((wi64 (Int.tdiv (a:Int) (2:Int))).toNat))] b4 (fun b5 a8=>∃ (u:Int),b5=I u/\Br (decide (u<(0:Int))) (FCall P f_WDivideHalves #[.slice g i j,.slice (cutA c b ((wi64 (Int.tdiv (a:Int) (2:Int))).toNat) 1) (a-((wi64 (Int.tdiv (a:Int) (2:Int))).toNat)) (b-((wi64 (Int.tdiv (a:Int) (2:Int))).toNat))] a8 (fun b6 b7=>∃ (v:OA) (w x:Nat) (y:OA) (z A:Nat),b6= .tuple #[.slice v w x,.slice y z A]/\k [.slice v w x,.slice y z A] b7))
 (wpH P (Instr.buildSlice 92 1 #[(0,U 18446744073709551615)]) (fun b8 b9=>∃ (B:OA) (C D:Nat),b8= .slice B C D/\FCall P f_WRepeat #[.slice B C D,I (wi64 (Int.tdiv (a:Int) (2:Int)))] b9 (fun c0 c1=>∃ (E:OA) (F G:Nat),c0= .slice E F G/\FCall P f_WJoin #[.slice (cutA c b ((wi64 (Int.tdiv (a:Int) (2:Int))).toNat) 1) (a-((wi64 (Int.tdiv (a:Int) (2:Int))).toNat)) (b-((wi64 (Int.tdiv (a:Int) (2:Int))).toNat)),.slice none 0 0,I (wi64 (Int.tdiv (a:Int) (2:Int)))] c1 (fun c2 c3=>∃ (H:OA) (J L:Nat),c2= .slice H J L/\FCall P f_WSubtractWords #[.slice g i j,.slice H J L] c3 (fun c4 c5=>∃ (M:OA) (N O:Nat),c4= .slice M N O/\FCall P f_WAddWords #[.slice M N O,.slice (cutA c b ((wi64 (Int.tdiv (a:Int) (2:Int))).toNat) 1) (a-((wi64 (Int.tdiv (a:Int) (2:Int))).toNat)) (b-((wi64 (Int.tdiv (a:Int) (2:Int))).toNat))] c5 (fun c6 c7=>∃ (Q:OA) (R S:Nat),c6= .slice Q R S/\k [.slice E F G,.slice Q R S] c7))))) a8))))/\
 ∀ (l:OA) (m n:Nat) (T:OA) (V W:Nat),∀ a9,k [.slice l m n,.slice T V W] a9->FCall P f_WMultiplyWords #[.slice l m n,.slice o p q] a9 (fun c8 c9=>∃ (X:OA) (Z a0:Nat),c8= .slice X Z a0/\FCall P f_WLowWords #[.slice d e f,I (wi64 (Int.tdiv (a:Int) (2:Int)))] c9 (fun d0 d1=>∃ (a1:OA) (a2 a3:Nat),d0= .slice a1 a2 a3/\FCall P f_WJoin #[.slice T V W,.slice a1 a2 a3,I (wi64 (Int.tdiv (a:Int) (2:Int)))] d1 (fun d2 d3=>∃ (a4:OA) (a5 a6:Nat),d2= .slice a4 a5 a6/\WDivideThirdsL11 P c a b K l m n X Z a0 a4 a5 a6 d3)))))
theorem WDivideThirds_ok(a:OA)(b d:Nat)(e:OA)(f g:Nat)(hvc:WDivideThirds Tryz.prog a b d e f g h K):FCall Tryz.prog f_WDivideThirds #[.slice a b d,.slice e f g] h K:=
 fn_sound Tryz.func253 (c:=codeOf Tryz.f253) (by kernel_rfl) (rs:=[.tmp 4,.tmp 5]) (by kernel_rfl) (fa:={ loops:=[(11,{ slots:=[10,11],owns:=[],zs:=[.slice none 0 0,.slice none 0 0],lim:={ slots:=([10,11]++List.range' 58 10),keys:=[] } })],cuts:=[(9,{ slots:=[10,11],owns:=[],zs:=[.slice none 0 0,.slice none 0 0],lim:={ slots:=([10,11]++List.range' 26 23),keys:=[] } })],orders:=[(2,([0,1,2,4,5,6,3,7,8],[[],[],[0,1],[0,1,2],[],[],[4,5],[0,1,2,3],(List.range' 0 8)]))] })
  (cfg:={ n:=72,own:=[],lim:=none,fns:=[188,189,191,199,200,244,245,246,247,254],wr:=[] }) (args:=[.slice a b d,.slice e f g]) (by kernel_rfl) (Bodies.cons Tryz.call188 (Bodies.cons Tryz.call189 (Bodies.cons Tryz.call191 (Bodies.cons Tryz.call199 (Bodies.cons Tryz.call200 (Bodies.cons Tryz.call244 (Bodies.cons Tryz.call245 (Bodies.cons Tryz.call246 (Bodies.cons Tryz.call247 (Bodies.cons Tryz.call254 Bodies.nil)))))))))) (Eq.mp (by kernel_rfl:WDivideThirds Tryz.prog a b d e f g h K=_) hvc)
def WGcdWord(P:Program)(d:Int)(e:Int)(h:Heap)(K:Value->Heap->Prop):Prop:=
 Br (d==(0:Int)) (K (U (bor .u64 d e)) h)
 (Br (e==(0:Int)) (K (U (bor .u64 d e)) h)
 (FCall P f_BTrailingZeros64 #[U (bor .u64 d e)] h (fun m n=>∃ (k:Int),m=I k/\FCall P f_BTrailingZeros64 #[U d] n (fun o p=>∃ (l:Int),o=I l/\Br (decide (l<0)) False
 (∃ (g:List Value->Heap->Prop) (i:List Value->Heap->Nat),g [U (Int.fdiv d (2^(min l.toNat 64))),U e] p/\
 ∀ (b:Int) (a:Int),∀ f,g [U b,U a] f->Br (a != (0:Int)) (FCall P f_BTrailingZeros64 #[U a] f (fun q j=>∃ (c:Int),q=I c/\Br (decide (c<0)) False
 (Br (decide (b>(Int.fdiv a (2^(min c.toNat 64))))) (g [U (Int.fdiv a (2^(min c.toNat 64))),U (wu64 (b-(Int.fdiv a (2^(min c.toNat 64)))))] j/\i [U (Int.fdiv a (2^(min c.toNat 64))),U (wu64 (b-(Int.fdiv a (2^(min c.toNat 64)))))] j<i [U b,U a] f)
 (g [U b,U (wu64 ((Int.fdiv a (2^(min c.toNat 64)))-b))] j/\i [U b,U (wu64 ((Int.fdiv a (2^(min c.toNat 64)))-b))] j<i [U b,U a] f))))
 (Br (decide (k<0)) False
 (K (U (wu64 (b*2^(min k.toNat 64)))) f)))))))
theorem WGcdWord_ok(a:Int)(b:Int)(hvc:WGcdWord Tryz.prog a b h K):FCall Tryz.prog f_WGcdWord #[U a,U b] h K:=
 fn_sound Tryz.func208 (c:=codeOf Tryz.f208) (by kernel_rfl) (rs:=[.tmp 4]) (by kernel_rfl) (fa:={ loops:=[(5,{ slots:=[0,1],owns:=[],zs:=[.int .u64 0,.int .u64 0],lim:={ slots:=([0,1]++List.range' 23 14),keys:=[] } })],cuts:=[],orders:=[] })
  (cfg:={ n:=40,own:=[],lim:=none,fns:=[231],wr:=[] }) (args:=[U a,U b]) (by kernel_rfl) (Bodies.cons Tryz.call231 Bodies.nil) (Eq.mp (by kernel_rfl:WGcdWord Tryz.prog a b h K=_) hvc)
def WGcdWordsL11(P:Program)(C:List Value->Heap->Prop)(s:List Value->Heap->Nat)(f:OA)(d g:Nat)(t:OA)(u v:Nat)(D:Int)(E:Int)(F:Int)(G:Int)(H:Bool)(J:Heap)(L:Heap):Prop:=
 ∃ (i:List Value->Heap->Prop) (w:List Value->Heap->Nat),i [.slice t u v] J/\
 ∀ (b:OA) (a c:Nat),∀ e,i [.slice b a c] e->Br (decide ((a:Int)<(d:Int))) (wpH P (Instr.buildSlice 92 1 #[(0,U 0)]) (fun M N=>∃ (x:OA) (y z:Nat),M= .slice x y z/\wpH P (Builtin.append_ #[92,92] 92 #[.slice b a c,.slice x y z]) (fun O A=>∃ (j:OA) (k l:Nat),O= .slice j k l/\i [.slice j k l] A/\w [.slice j k l] A<w [.slice b a c] e) N) e)
 (FCall P f_WApply #[.agg #[U D,U E,U F,U G,.bool H],.slice f d g,.slice b a c] e (fun Q R=>Q= .tuple #[]/\FCall P f_WTrim #[.slice f d g] R (fun S T=>∃ (m:OA) (n o:Nat),S= .slice m n o/\FCall P f_WTrim #[.slice b a c] T (fun V B=>∃ (p:OA) (q r:Nat),V= .slice p q r/\C [.slice m n o,.slice p q r] B/\s [.slice m n o,.slice p q r] B<s [.slice f d g,.slice t u v] L))))
def WGcdWordsL6(P:Program)(K:Value->Heap->Prop)(L:OA)(M N:Nat)(O:OA)(Q R:Nat)(S:Heap):Prop:=
 ∃ (i:List Value->Heap->Prop) (j:List Value->Heap->Nat),i [.slice L M N,.slice O Q R] S/\
 ∀ (d:OA) (e f:Nat) (b:OA) (a g:Nat),∀ c,i [.slice d e f,.slice b a g] c->Br (decide ((a:Int)>(1:Int))) (FCall P f_WSimulate #[.slice d e f,.slice b a g] c (fun X E=>∃ (q:Int) (r:Int) (k:Int) (s:Int) (t:Bool),X= .agg #[U q,U r,U k,U s,.bool t]/\Br (k==(0:Int)) (FCall P f_WDivideWords #[.slice d e f,.slice b a g] E (fun Z a0=>∃ (T:OA) (V W:Nat) (u:OA) (v w:Nat),Z= .tuple #[.slice T V W,.slice u v w]/\FCall P f_WClone #[.slice u v w] a0 (fun a1 F=>∃ (l:OA) (m n:Nat),a1= .slice l m n/\i [.slice b a g,.slice l m n] F/\j [.slice b a g,.slice l m n] F<j [.slice d e f,.slice b a g] c)))
 (WGcdWordsL11 P i j d e f b a g q r k s t E c)))
 (Br ((a:Int)==(0:Int)) (K (.slice d e f) c)
 (∃ H,b=some H/\0<=(0:Int)/\(0:Int)<(a:Int)/\∃ (x:Int),c.cell? (H.add (((0:Int)).toNat*1))=some (U x)/\∃ J,b=some J/\0<=(0:Int)/\(0:Int)<(a:Int)/\∃ (y:Int),c.cell? (J.add (((0:Int)).toNat*1))=some (U y)/\FCall P f_WRemainderWord #[.slice d e f,U y] c (fun a2 o=>∃ (z:Int),a2=U z/\Heap.le c o/\FCall P f_WGcdWord #[U x,U z] o (fun a3 p=>∃ (A:Int),a3=U A/\Heap.le o p/\FCall P f_WFromWord #[U A] p (fun a4 G=>∃ (B:OA) (C D:Nat),a4= .slice B C D/\Heap.le p G/\K (.slice B C D) G)))))
def WGcdWords(P:Program)(a:OA)(b c:Nat)(d:OA)(e f:Nat)(h:Heap)(K:Value->Heap->Prop):Prop:=
 ∃ (g:List Value->Heap->Prop),(FCall P f_WCompareWords #[.slice a b c,.slice d e f] h (fun x w=>∃ (n:Int),x=I n/\Br (decide (n<(0:Int))) (g [.slice d e f,.slice a b c] w)
 (g [.slice a b c,.slice d e f] w)))/\
 ∀ (i:OA) (j k:Nat) (o:OA) (l p:Nat),∀ m,g [.slice i j k,.slice o l p] m->Br ((l:Int)==(0:Int)) (K (.slice i j k) m)
 (FCall P f_WClone #[.slice i j k] m (fun y z=>∃ (q:OA) (r s:Nat),y= .slice q r s/\FCall P f_WClone #[.slice o l p] z (fun A B=>∃ (t:OA) (u v:Nat),A= .slice t u v/\WGcdWordsL6 P K q r s t u v B)))
theorem WGcdWords_ok(a:OA)(b d:Nat)(e:OA)(f g:Nat)(hvc:WGcdWords Tryz.prog a b d e f g h K):FCall Tryz.prog f_WGcdWords #[.slice a b d,.slice e f g] h K:=
 fn_sound Tryz.func177 (c:=codeOf Tryz.f177) (by kernel_rfl) (rs:=[.tmp 4]) (by kernel_rfl) (fa:={ loops:=[(6,{ slots:=[5,6],owns:=[],zs:=[.slice none 0 0,.slice none 0 0],lim:={ slots:=([5,6,7,8,9]++List.range' 24 34),keys:=[7] } }),(11,{ slots:=[6],owns:=[],zs:=[.slice none 0 0],lim:={ slots:=([6]++List.range' 42 8),keys:=[] } })],cuts:=[(3,{ slots:=[0,1],owns:=[],zs:=[.slice none 0 0,.slice none 0 0],lim:={ slots:=[0,1,10,11,12,13,14,15],keys:=[] } })],orders:=[(17,((List.range' 0 11),[[],[0],[0,1],[],[],[4],[4,5],[3,4,5,6],(List.range' 0 8),(List.range' 0 9),(List.range' 0 10)]))] })
  (cfg:={ n:=72,own:=[7],lim:=none,fns:=[158,171,188,189,204,205,206,207,208],wr:=[207] }) (args:=[.slice a b d,.slice e f g]) (by kernel_rfl) (Bodies.cons Tryz.call158 (Bodies.cons Tryz.call171 (Bodies.cons Tryz.call188 (Bodies.cons Tryz.call189 (Bodies.cons Tryz.call204 (Bodies.cons Tryz.call205 (Bodies.cons Tryz.call206 (Bodies.cons Tryz.call207 (Bodies.cons Tryz.call208 Bodies.nil))))))))) (Eq.mp (by kernel_rfl:WGcdWords Tryz.prog a b d e f g h K=_) hvc)
def WSimulateL13(P:Program)(K:Value->Heap->Prop)(m:Int)(o:Int)(p:Int)(q:Int)(r:Heap):Prop:=
 ∃ (l:List Value->Heap->Prop) (n:List Value->Heap->Nat),l [U (bor .u64 (wu64 (o*2^(min (wu64 m).toNat 64))) (Int.fdiv p (2^(min (wu64 ((64:Int)-(wu64 m))).toNat 64)))),U q,U 0,U 1,U 0,U 1,U 0,U 0,.bool false] r/\
 ∀ (b:Int) (a:Int) (f:Int) (d:Int) (j:Int) (e:Int) (k:Int) (c:Int) (g:Bool),∀ i,l [U b,U a,U f,U d,U j,U e,U k,U c,.bool g] i->Br (decide (a>=d)) (Br (decide ((wu64 (b-a))>=(wu64 (c+d)))) (Br (decide (a=0)) False
 (Br (decide (a=0)) False
 (l [U a,U (Int.tmod b a),U (wu64 (e+(wu64 ((wu64 (Int.tdiv b a))*f)))),U (wu64 (c+(wu64 ((wu64 (Int.tdiv b a))*d)))),U e,U f,U c,U d,.bool (!g)] i/\n [U a,U (Int.tmod b a),U (wu64 (e+(wu64 ((wu64 (Int.tdiv b a))*f)))),U (wu64 (c+(wu64 ((wu64 (Int.tdiv b a))*d)))),U e,U f,U c,U d,.bool (!g)] i<n [U b,U a,U f,U d,U j,U e,U k,U c,.bool g] i)))
 (K (.agg #[U j,U e,U k,U c,.bool g]) i))
 (K (.agg #[U j,U e,U k,U c,.bool g]) i)
def WSimulate(P:Program)(f:OA)(a x:Nat)(g:OA)(d y:Nat)(h:Heap)(K:Value->Heap->Prop):Prop:=
 ∃ p,f=some p/\0<=wi64 ((a:Int)-1)/\wi64 ((a:Int)-1)<(a:Int)/\∃ (i:Int),h.cell? (p.add ((wi64 ((a:Int)-1)).toNat*1))=some (U i)/\FCall P f_BLeadingZeros64 #[U i] h (fun w c=>∃ (b:Int),w=I b/\∃ q,f=some q/\0<=wi64 ((a:Int)-1)/\wi64 ((a:Int)-1)<(a:Int)/\∃ (j:Int),c.cell? (q.add ((wi64 ((a:Int)-1)).toNat*1))=some (U j)/\Br (decide (wu64 b<0)) False
 (∃ r,f=some r/\0<=wi64 ((a:Int)-2)/\wi64 ((a:Int)-2)<(a:Int)/\∃ (k:Int),c.cell? (r.add ((wi64 ((a:Int)-2)).toNat*1))=some (U k)/\Br (decide (wu64 ((64:Int)-(wu64 b))<0)) False
 (∃ (e:List Value->Heap->Prop),(Br ((d:Int)==(a:Int)) (∃ s,g=some s/\0<=wi64 ((a:Int)-1)/\wi64 ((a:Int)-1)<(d:Int)/\∃ (l:Int),c.cell? (s.add ((wi64 ((a:Int)-1)).toNat*1))=some (U l)/\Br (decide (wu64 b<0)) False
 (∃ t,g=some t/\0<=wi64 ((a:Int)-2)/\wi64 ((a:Int)-2)<(d:Int)/\∃ (m:Int),c.cell? (t.add ((wi64 ((a:Int)-2)).toNat*1))=some (U m)/\Br (decide (wu64 ((64:Int)-(wu64 b))<0)) False
 (e [U (bor .u64 (wu64 (l*2^(min (wu64 b).toNat 64))) (Int.fdiv m (2^(min (wu64 ((64:Int)-(wu64 b))).toNat 64))))] c)))
 (Br ((d:Int)==(wi64 ((a:Int)-1))) (∃ u,g=some u/\0<=wi64 ((a:Int)-2)/\wi64 ((a:Int)-2)<(d:Int)/\∃ (n:Int),c.cell? (u.add ((wi64 ((a:Int)-2)).toNat*1))=some (U n)/\Br (decide (wu64 ((64:Int)-(wu64 b))<0)) False
 (e [U (Int.fdiv n (2^(min (wu64 ((64:Int)-(wu64 b))).toNat 64)))] c))
 (e [U 0] c)))/\
 ∀ (o:Int),∀ v,e [U o] v->WSimulateL13 P K b j k o v)))
theorem WSimulate_ok(a:OA)(b d:Nat)(e:OA)(f g:Nat)(hvc:WSimulate Tryz.prog a b d e f g h K):FCall Tryz.prog f_WSimulate #[.slice a b d,.slice e f g] h K:=
 fn_sound Tryz.func206 (c:=codeOf Tryz.f206) (by kernel_rfl) (rs:=[.cell 4 240]) (by kernel_rfl) (fa:={ loops:=[(13,{ slots:=[7,8,10,11],owns:=[(9,5)],zs:=[.int .u64 0,.int .u64 0,.int .u64 0,.int .u64 0,.int .u64 0,.int .u64 0,.int .u64 0,.int .u64 0,.bool false],lim:={ slots:=([7,8,10,11,12]++List.range' 72 46),keys:=[9] } })],cuts:=[(10,{ slots:=[8],owns:=[],zs:=[.int .u64 0],lim:={ slots:=([8]++List.range' 38 33),keys:=[] } })],orders:=[(3,((List.range' 0 17),[[],[],[1],[0,1,2],[0,1,2,3],[],[0,1,2,3,4,5],[],[],[8],[7,8,9],[7,8,9,10],[],[12],[7,8,9,10,11,12,13],(List.range' 0 15),(List.range' 0 16)])),(7,((List.range' 0 17),[[],[],[1],[0,1,2],[0,1,2,3],[],[0,1,2,3,4,5],[],[],[8],[7,8,9],[7,8,9,10],[],[12],[7,8,9,10,11,12,13],(List.range' 0 15),(List.range' 0 16)])),(15,([0,1,2,3,4,5],[[],[],[],[1,2],[0,1],[0,1,2,3,4]]))] })
  (cfg:={ n:=119,own:=[4,9],lim:=none,fns:=[226],wr:=[] }) (args:=[.slice a b d,.slice e f g]) (by kernel_rfl) (Bodies.cons Tryz.call226 Bodies.nil) (Eq.mp (by kernel_rfl:WSimulate Tryz.prog a b d e f g h K=_) hvc)
def WMultiplyAdd(P:Program)(e:Int)(f:Int)(g:Int)(h:Heap)(K:Value->Heap->Prop):Prop:=
 FCall P f_BMul64 #[U e,U f] h (fun i j=>∃ (a:Int) (b:Int),i= .tuple #[U a,U b]/\ECall P f_BAdd64 #[U b,U g,U 0] j (fun k l=>∃ (c:Int) (d:Int),k= .tuple #[U c,U d]/\K (.tuple #[U c,U (wu64 (a+d))]) l))
theorem WMultiplyAdd_ok(a:Int)(b:Int)(d:Int)(hvc:WMultiplyAdd Tryz.prog a b d h K):FCall Tryz.prog f_WMultiplyAdd #[U a,U b,U d] h K:=
 fn_sound Tryz.func229 (c:=codeOf Tryz.f229) (by kernel_rfl) (rs:=[.tmp 6,.tmp 7]) (by kernel_rfl) (fa:={ loops:=[],cuts:=[],orders:=[] })
  (cfg:={ n:=27,own:=[],lim:=none,fns:=[198],wr:=[] }) (args:=[U a,U b,U d]) (by kernel_rfl) (Bodies.cons Tryz.call198 Bodies.nil) (Eq.mp (by kernel_rfl:WMultiplyAdd Tryz.prog a b d h K=_) hvc)
def WSigned(P:Program)(d:Bool)(b:OA)(a c:Nat)(h:Heap)(K:Value->Heap->Prop):Prop:=
 Br d (K (.agg #[.bool (decide ((a:Int)>(0:Int))),.slice b a c]) h)
 (K (.agg #[.bool false,.slice b a c]) h)
theorem WSigned_ok(a:Bool)(b:OA)(d e:Nat)(hvc:WSigned Tryz.prog a b d e h K):FCall Tryz.prog f_WSigned #[.bool a,.slice b d e] h K:=
 fn_sound Tryz.func142 (c:=codeOf Tryz.f142) (by kernel_rfl) (rs:=[.cell 4 94]) (by kernel_rfl) (fa:={ loops:=[],cuts:=[],orders:=[] })
  (cfg:={ n:=13,own:=[4],lim:=none,fns:=[],wr:=[] }) (args:=[.bool a,.slice b d e]) (by kernel_rfl) Bodies.nil (Eq.mp (by kernel_rfl:WSigned Tryz.prog a b d e h K=_) hvc)
def WNew(P:Program)(a:Int)(h:Heap)(K:Value->Heap->Prop):Prop:=
 Br (decide (a<(0:Int))) (FCall P f_WFromWord #[U (wu64 (0-(wu64 a)))] h (fun i j=>∃ (b:OA) (c d:Nat),i= .slice b c d/\K (.agg #[.bool true,.slice b c d]) j))
 (FCall P f_WFromWord #[U (wu64 a)] h (fun k l=>∃ (e:OA) (f g:Nat),k= .slice e f g/\K (.agg #[.bool false,.slice e f g]) l))
theorem WNew_ok(a:Int)(hvc:WNew Tryz.prog a h K):FCall Tryz.prog f_WNew #[I a] h K:=
 fn_sound Tryz.func100 (c:=codeOf Tryz.f100) (by kernel_rfl) (rs:=[.cell 2 94]) (by kernel_rfl) (fa:={ loops:=[],cuts:=[],orders:=[] })
  (cfg:={ n:=14,own:=[2],lim:=none,fns:=[158],wr:=[] }) (args:=[I a]) (by kernel_rfl) (Bodies.cons Tryz.call158 Bodies.nil) (Eq.mp (by kernel_rfl:WNew Tryz.prog a h K=_) hvc)
def WParse(P:Program)(d:ByteArray)(h:Heap)(K:Value->Heap->Prop):Prop:=
 FCall P f_WParseWords #[.string d] h (fun e f=>∃ (a:OA) (b c:Nat),e= .slice a b c/\K (.agg #[.bool false,.slice a b c]) f)
theorem WParse_ok(a:ByteArray)(hvc:WParse Tryz.prog a h K):FCall Tryz.prog f_WParse #[.string a] h K:=
 fn_sound Tryz.func163 (c:=codeOf Tryz.f163) (by kernel_rfl) (rs:=[.cell 2 94]) (by kernel_rfl) (fa:={ loops:=[],cuts:=[],orders:=[] })
  (cfg:={ n:=6,own:=[2],lim:=none,fns:=[196],wr:=[] }) (args:=[.string a]) (by kernel_rfl) (Bodies.cons Tryz.call196 Bodies.nil) (Eq.mp (by kernel_rfl:WParse Tryz.prog a h K=_) hvc)
def WParseWords(P:Program)(d:ByteArray)(h:Heap)(K:Value->Heap->Prop):Prop:=
 Br (decide (((ByteArray.size d:Nat):Int)>(570:Int))) (wpH P (Instr.buildSlice 92 1 #[(0,U 10000000000000000000)]) (fun N O=>∃ (n:OA) (o p:Nat),N= .slice n o p/\wpH P (Instr.buildSlice 163 1 #[(0,.slice n o p)]) (fun Q R=>∃ (q:OA) (r s:Nat),Q= .slice q r s/\wpH P (Builtin.append_ #[163,163] 163 #[.slice none 0 0,.slice q r s]) (fun S T=>∃ (t:OA) (u v:Nat),S= .slice t u v/\∃ (f:List Value->Heap->Prop) (w:List Value->Heap->Nat),f [.slice t u v] T/\
 ∀ (b:OA) (a e:Nat),∀ c,f [.slice b a e] c->Br (decide ((a:Int)<0)) False
 (Br (decide ((wi64 ((19:Int)*2^(min ((a:Int)).toNat 64)))<((ByteArray.size d:Nat):Int))) (∃ M,b=some M/\0<=wi64 ((a:Int)-1)/\wi64 ((a:Int)-1)<(a:Int)/\∃ (g:OA) (i j:Nat),c.cell? (M.add ((wi64 ((a:Int)-1)).toNat*1))=some (.slice g i j)/\FCall P f_WMultiplyWords #[.slice g i j,.slice g i j] c (fun V W=>∃ (x:OA) (y z:Nat),V= .slice x y z/\wpH P (Instr.buildSlice 163 1 #[(0,.slice x y z)]) (fun X Z=>∃ (A:OA) (B C:Nat),X= .slice A B C/\wpH P (Builtin.append_ #[163,163] 163 #[.slice b a e,.slice A B C]) (fun a0 L=>∃ (k:OA) (l m:Nat),a0= .slice k l m/\f [.slice k l m] L/\w [.slice k l m] L<w [.slice b a e] c) Z) W))
 (FCall P f_WParseSplit #[.string d,.slice b a e] c (fun a1 a2=>∃ (D:OA) (E F:Nat),a1= .slice D E F/\K (.slice D E F) a2)))) R) O) h)
 (FCall P f_WParseSplit #[.string d,.slice none 0 0] h (fun a3 a4=>∃ (G:OA) (H J:Nat),a3= .slice G H J/\K (.slice G H J) a4))
theorem WParseWords_ok(a:ByteArray)(hvc:WParseWords Tryz.prog a h K):FCall Tryz.prog f_WParseWords #[.string a] h K:=
 fn_sound Tryz.func196 (c:=codeOf Tryz.f196) (by kernel_rfl) (rs:=[.tmp 2]) (by kernel_rfl) (fa:={ loops:=[(4,{ slots:=[3],owns:=[],zs:=[.slice none 0 0],lim:={ slots:=([3,4]++List.range' 12 18),keys:=[] } })],cuts:=[],orders:=[] })
  (cfg:={ n:=33,own:=[],lim:=none,fns:=[191,220],wr:=[] }) (args:=[.string a]) (by kernel_rfl) (Bodies.cons Tryz.call191 (Bodies.cons Tryz.call220 Bodies.nil)) (Eq.mp (by kernel_rfl:WParseWords Tryz.prog a h K=_) hvc)
def WParseSplit(P:Program)(b:ByteArray)(e:OA)(f d:Nat)(h:Heap)(K:Value->Heap->Prop):Prop:=
 ∃ (g:List Value->Heap->Prop) (o:List Value->Heap->Nat),g [I (wi64 ((f:Int)-1))] h/\
 ∀ (a:Int),∀ c,g [I a] c->Br (decide (a>=(0:Int))) (Br (decide (a<0)) False
 (Br (decide ((wi64 ((19:Int)*2^(min a.toNat 64)))>=((ByteArray.size b:Nat):Int))) (g [I (wi64 (a-1))] c/\o [I (wi64 (a-1))] c<o [I a] c)
 (Br (decide (a<(0:Int))) (FCall P f_WParseSimple #[.string b] c (fun b4 b5=>∃ (p:OA) (q r:Nat),b4= .slice p q r/\K (.slice p q r) b5))
 (Br (decide (((ByteArray.size b:Nat):Int)<=(570:Int))) (FCall P f_WParseSimple #[.string b] c (fun b6 b7=>∃ (s:OA) (t u:Nat),b6= .slice s t u/\K (.slice s t u) b7))
 (Br (decide (a<0)) False
 ((0<=wi64 (((ByteArray.size b:Nat):Int)-(wi64 ((19:Int)*2^(min a.toNat 64))))/\wi64 (((ByteArray.size b:Nat):Int)-(wi64 ((19:Int)*2^(min a.toNat 64))))<=(((b).size:Nat):Int))/\(0<=a/\a<=(d:Int))/\∃ b2,e=some b2/\0<=a/\a<(f:Int)/\∃ (v:OA) (w x:Nat),c.cell? (b2.add (a.toNat*1))=some (.slice v w x)/\FCall P f_WParseSplit #[.string ((b).extract 0 ((wi64 (((ByteArray.size b:Nat):Int)-(wi64 ((19:Int)*2^(min a.toNat 64))))).toNat)),.slice (cutA e d 0 1) ((a.toNat)-0) (d-0)] c (fun b8 i=>∃ (y:OA) (z A:Nat),b8= .slice y z A/\Heap.le c i/\FCall P f_WMultiplyWords #[.slice y z A,.slice v w x] i (fun b9 j=>∃ (B:OA) (C D:Nat),b9= .slice B C D/\Heap.le i j/\(0<=wi64 (((ByteArray.size b:Nat):Int)-(wi64 ((19:Int)*2^(min a.toNat 64))))/\wi64 (((ByteArray.size b:Nat):Int)-(wi64 ((19:Int)*2^(min a.toNat 64))))<=(((b).size:Nat):Int))/\(0<=a/\a<=(d:Int))/\FCall P f_WParseSplit #[.string ((b).extract ((wi64 (((ByteArray.size b:Nat):Int)-(wi64 ((19:Int)*2^(min a.toNat 64))))).toNat) ((b).size)),.slice (cutA e d 0 1) ((a.toNat)-0) (d-0)] j (fun c0 k=>∃ (E:OA) (F G:Nat),c0= .slice E F G/\Heap.le j k/\FCall P f_WAddWords #[.slice B C D,.slice E F G] k (fun c1 b0=>∃ (H:OA) (J L:Nat),c1= .slice H J L/\Heap.le k b0/\K (.slice H J L) b0))))))))))
 (Br (decide (a<(0:Int))) (FCall P f_WParseSimple #[.string b] c (fun c2 c3=>∃ (M:OA) (N O:Nat),c2= .slice M N O/\K (.slice M N O) c3))
 (Br (decide (((ByteArray.size b:Nat):Int)<=(570:Int))) (FCall P f_WParseSimple #[.string b] c (fun c4 c5=>∃ (Q:OA) (R S:Nat),c4= .slice Q R S/\K (.slice Q R S) c5))
 (Br (decide (a<0)) False
 ((0<=wi64 (((ByteArray.size b:Nat):Int)-(wi64 ((19:Int)*2^(min a.toNat 64))))/\wi64 (((ByteArray.size b:Nat):Int)-(wi64 ((19:Int)*2^(min a.toNat 64))))<=(((b).size:Nat):Int))/\(0<=a/\a<=(d:Int))/\∃ b3,e=some b3/\0<=a/\a<(f:Int)/\∃ (T:OA) (V W:Nat),c.cell? (b3.add (a.toNat*1))=some (.slice T V W)/\FCall P f_WParseSplit #[.string ((b).extract 0 ((wi64 (((ByteArray.size b:Nat):Int)-(wi64 ((19:Int)*2^(min a.toNat 64))))).toNat)),.slice (cutA e d 0 1) ((a.toNat)-0) (d-0)] c (fun c6 l=>∃ (X:OA) (Z a0:Nat),c6= .slice X Z a0/\Heap.le c l/\FCall P f_WMultiplyWords #[.slice X Z a0,.slice T V W] l (fun c7 m=>∃ (a1:OA) (a2 a3:Nat),c7= .slice a1 a2 a3/\Heap.le l m/\(0<=wi64 (((ByteArray.size b:Nat):Int)-(wi64 ((19:Int)*2^(min a.toNat 64))))/\wi64 (((ByteArray.size b:Nat):Int)-(wi64 ((19:Int)*2^(min a.toNat 64))))<=(((b).size:Nat):Int))/\(0<=a/\a<=(d:Int))/\FCall P f_WParseSplit #[.string ((b).extract ((wi64 (((ByteArray.size b:Nat):Int)-(wi64 ((19:Int)*2^(min a.toNat 64))))).toNat) ((b).size)),.slice (cutA e d 0 1) ((a.toNat)-0) (d-0)] m (fun c8 n=>∃ (a4:OA) (a5 a6:Nat),c8= .slice a4 a5 a6/\Heap.le m n/\FCall P f_WAddWords #[.slice a1 a2 a3,.slice a4 a5 a6] n (fun c9 b1=>∃ (a7:OA) (a8 a9:Nat),c9= .slice a7 a8 a9/\Heap.le n b1/\K (.slice a7 a8 a9) b1))))))))
theorem WParseSplit_ok(a:ByteArray)(b:OA)(d e:Nat)(hvc:WParseSplit Tryz.prog a b d e h K):FCall Tryz.prog f_WParseSplit #[.string a,.slice b d e] h K:=
 fn_sound Tryz.func220 (c:=codeOf Tryz.f220) (by kernel_rfl) (rs:=[.tmp 4]) (by kernel_rfl) (fa:={ loops:=[(2,{ slots:=[5],owns:=[],zs:=[.int .i64 0],lim:={ slots:=([5]++List.range' 11 11),keys:=[] } })],cuts:=[],orders:=[(7,([0,1,2,3,4,5,7,8,9,10,6,11,12],[[],[],[0,1],[],[],[3,4],[0,1,2,3,4,5],[],[],[7,8],[7,8,9],(List.range' 0 11),(List.range' 0 12)])),(8,((List.range' 0 10),[[],[],[],[1,2],[],[],[4,5],[1,2,3,4,5,6],(List.range' 0 8),(List.range' 0 9)]))] })
  (cfg:={ n:=57,own:=[],lim:=none,fns:=[191,199,220,237],wr:=[] }) (args:=[.string a,.slice b d e]) (by kernel_rfl) (Bodies.cons Tryz.call191 (Bodies.cons Tryz.call199 (Bodies.cons Tryz.call220 (Bodies.cons Tryz.call237 Bodies.nil)))) (Eq.mp (by kernel_rfl:WParseSplit Tryz.prog a b d e h K=_) hvc)
def WParseSimpleL14(P:Program)(o:List Value->Heap->Prop)(i:List Value->Heap->Nat)(a:ByteArray)(d:OA)(c f:Nat)(A:Int)(B:Int)(p:Heap)(C:Heap):Prop:=
 ∃ (j:List Value->Heap->Prop) (q:List Value->Heap->Nat),j [U A,I 0] C/\
 ∀ (g:Int) (b:Int),∀ e,j [U g,I b] e->Br (decide (b<(c:Int))) (∃ y,d=some y/\0<=b/\b<(c:Int)/\∃ (r:Int),e.cell? (y.add (b.toNat*1))=some (U r)/\FCall P f_WMultiplyAdd #[U r,U B,U g] e (fun D E=>∃ (s:Int) (k:Int),D= .tuple #[U s,U k]/\∃ z,d=some z/\0<=b/\b<(c:Int)/\wpH P (Instr.storeAt 157 (.pointer (some (z.add (b.toNat*1)))) (U s)) (fun _ w=>j [U k,I (wi64 (b+1))] w/\q [U k,I (wi64 (b+1))] w<q [U g,I b] e) E))
 (Br (g != (0:Int)) (wpH P (Instr.buildSlice 92 1 #[(0,U g)]) (fun F G=>∃ (t:OA) (u v:Nat),F= .slice t u v/\wpH P (Builtin.append_ #[92,92] 92 #[.slice d c f,.slice t u v]) (fun H x=>∃ (l:OA) (m n:Nat),H= .slice l m n/\o [.string ((a).extract ((wi64 ((Int.tmod (wi64 (((ByteArray.size a:Nat):Int)-1)) (19:Int))+1)).toNat) ((a).size)),.slice l m n] x/\i [.string ((a).extract ((wi64 ((Int.tmod (wi64 (((ByteArray.size a:Nat):Int)-1)) (19:Int))+1)).toNat) ((a).size)),.slice l m n] x<i [.string a,.slice d c f] p) G) e)
 (o [.string ((a).extract ((wi64 ((Int.tmod (wi64 (((ByteArray.size a:Nat):Int)-1)) (19:Int))+1)).toNat) ((a).size)),.slice d c f] e/\i [.string ((a).extract ((wi64 ((Int.tmod (wi64 (((ByteArray.size a:Nat):Int)-1)) (19:Int))+1)).toNat) ((a).size)),.slice d c f] e<i [.string a,.slice d c f] p))
def WParseSimpleL6(P:Program)(l:List Value->Heap->Prop)(m:List Value->Heap->Nat)(e:ByteArray)(n:OA)(o p:Nat)(q:OA)(i:Nat)(r:Heap)(s:Heap):Prop:=
 ∃ (f:List Value->Heap->Prop) (j:List Value->Heap->Nat),f [U 0,U 1,I 0] r/\
 ∀ (c:Int) (d:Int) (a:Int),∀ b,f [U c,U d,I a] b->Br (decide (a<(i:Int))) (∃ k,q=some k/\0<=a/\a<(i:Int)/\∃ (g:Int),b.cell? (k.add (a.toNat*1))=some (Y g)/\f [U (wu64 ((wu64 ((10:Int)*c))+(wu64 (wu8 (g-48))))),U (wu64 (d*(10:Int))),I (wi64 (a+1))] b/\j [U (wu64 ((wu64 ((10:Int)*c))+(wu64 (wu8 (g-48))))),U (wu64 (d*(10:Int))),I (wi64 (a+1))] b<j [U c,U d,I a] b)
 ((0<=wi64 ((Int.tmod (wi64 (((ByteArray.size e:Nat):Int)-1)) (19:Int))+1)/\wi64 ((Int.tmod (wi64 (((ByteArray.size e:Nat):Int)-1)) (19:Int))+1)<=(((e).size:Nat):Int))/\WParseSimpleL14 P l m e n o p c d s b)
def WParseSimpleL2(P:Program)(j:ByteArray)(h:Heap)(K:Value->Heap->Prop):Prop:=
 ∃ (c:List Value->Heap->Prop) (k:List Value->Heap->Nat),c [.string j,.slice none 0 0] h/\
 ∀ (a:ByteArray) (d:OA) (e f:Nat),∀ b,c [.string a,.slice d e f] b->Br (decide (((ByteArray.size a:Nat):Int)>(0:Int))) ((0<=wi64 ((Int.tmod (wi64 (((ByteArray.size a:Nat):Int)-1)) (19:Int))+1)/\wi64 ((Int.tmod (wi64 (((ByteArray.size a:Nat):Int)-1)) (19:Int))+1)<=(((a).size:Nat):Int))/\wpH P (convert 9 181 (.string ((a).extract 0 ((wi64 ((Int.tmod (wi64 (((ByteArray.size a:Nat):Int)-1)) (19:Int))+1)).toNat)))) (fun m n=>∃ (g:OA) (i l:Nat),m= .slice g i l/\WParseSimpleL6 P c k a d e f g i n b) b)
 (K (.slice d e f) b)
def WParseSimple(P:Program)(a:ByteArray)(h:Heap)(K:Value->Heap->Prop):Prop:=
 WParseSimpleL2 P a h K
theorem WParseSimple_ok(a:ByteArray)(hvc:WParseSimple Tryz.prog a h K):FCall Tryz.prog f_WParseSimple #[.string a] h K:=
 fn_sound Tryz.func237 (c:=codeOf Tryz.f237) (by kernel_rfl) (rs:=[.tmp 2]) (by kernel_rfl) (fa:={ loops:=[(2,{ slots:=[0,3],owns:=[],zs:=[.string ⟨#[]⟩,.slice none 0 0],lim:={ slots:=([0,3,4,5,6]++List.range' 8 58),keys:=[] } }),(6,{ slots:=[5,6,25],owns:=[],zs:=[.int .u64 0,.int .u64 0,.int .i64 0],lim:={ slots:=([5,6,8]++List.range' 25 13),keys:=[] } }),(14,{ slots:=[9,44],owns:=[],zs:=[.int .u64 0,.int .i64 0],lim:={ slots:=([9,10,11]++List.range' 44 16),keys:=[] } })],cuts:=[],orders:=[] })
  (cfg:={ n:=67,own:=[],lim:=none,fns:=[229],wr:=[] }) (args:=[.string a]) (by kernel_rfl) (Bodies.cons Tryz.call229 Bodies.nil) (Eq.mp (by kernel_rfl:WParseSimple Tryz.prog a h K=_) hvc)
def WAppendWords(P:Program)(f:OA)(g i:Nat)(j:OA)(b r:Nat)(h:Heap)(K:Value->Heap->Prop):Prop:=
 Br ((b:Int)==(0:Int)) (wpH P (Instr.buildSlice 181 1 #[(0,Y (48:Int))]) (fun a7 a8=>∃ (s:OA) (t u:Nat),a7= .slice s t u/\wpH P (Builtin.append_ #[181,181] 181 #[.slice f g i,.slice s t u]) (fun a9 b0=>∃ (v:OA) (w x:Nat),a9= .slice v w x/\K (.slice v w x) b0) a8) h)
 (Br ((b:Int)==(1:Int)) (∃ a2,j=some a2/\0<=(0:Int)/\(0:Int)<(b:Int)/\∃ (y:Int),h.cell? (a2.add (((0:Int)).toNat*1))=some (U y)/\FCall P 217 #[.slice f g i,U y,I 10] h (fun b1 b2=>∃ (z:OA) (A B:Nat),b1= .slice z A B/\K (.slice z A B) b2))
 (wpH P (Instr.buildSlice 92 1 #[(0,U 10000000000000000000)]) (fun b3 b4=>∃ (C:OA) (D E:Nat),b3= .slice C D E/\wpH P (Instr.buildSlice 163 1 #[(0,.slice C D E)]) (fun b5 b6=>∃ (F:OA) (G H:Nat),b5= .slice F G H/\∃ (k:List Value->Heap->Prop) (J:List Value->Heap->Nat),k [.slice F G H] b6/\
 ∀ (c:OA) (a e:Nat),∀ d,k [.slice c a e] d->Br (decide ((b:Int)>(30:Int))) (∃ a3,c=some a3/\0<=wi64 ((a:Int)-1)/\wi64 ((a:Int)-1)<(a:Int)/\∃ (a5:OA) (L a6:Nat),d.cell? (a3.add ((wi64 ((a:Int)-1)).toNat*1))=some (.slice a5 L a6)/\Br (decide ((wi64 ((2:Int)*(L:Int)))<=(b:Int))) (∃ a4,c=some a4/\0<=wi64 ((a:Int)-1)/\wi64 ((a:Int)-1)<(a:Int)/\∃ (l:OA) (m n:Nat),d.cell? (a4.add ((wi64 ((a:Int)-1)).toNat*1))=some (.slice l m n)/\FCall P f_WMultiplyWords #[.slice l m n,.slice l m n] d (fun b7 b8=>∃ (M:OA) (N O:Nat),b7= .slice M N O/\wpH P (Instr.buildSlice 163 1 #[(0,.slice M N O)]) (fun b9 c0=>∃ (Q:OA) (R S:Nat),b9= .slice Q R S/\wpH P (Builtin.append_ #[163,163] 163 #[.slice c a e,.slice Q R S]) (fun c1 a1=>∃ (o:OA) (p q:Nat),c1= .slice o p q/\k [.slice o p q] a1/\J [.slice o p q] a1<J [.slice c a e] d) c0) b8))
 (FCall P f_WAppendSplit #[.slice f g i,.slice j b r,I 0,.slice c a e] d (fun c2 c3=>∃ (T:OA) (V W:Nat),c2= .slice T V W/\K (.slice T V W) c3)))
 (FCall P f_WAppendSplit #[.slice f g i,.slice j b r,I 0,.slice c a e] d (fun c4 c5=>∃ (X:OA) (Z a0:Nat),c4= .slice X Z a0/\K (.slice X Z a0) c5))) b4) h))
theorem WAppendWords_ok(a:OA)(b d:Nat)(e:OA)(f g:Nat)(hvc:WAppendWords Tryz.prog a b d e f g h K):FCall Tryz.prog f_WAppendWords #[.slice a b d,.slice e f g] h K:=
 fn_sound Tryz.func192 (c:=codeOf Tryz.f192) (by kernel_rfl) (rs:=[.tmp 4]) (by kernel_rfl) (fa:={ loops:=[(6,{ slots:=[5],owns:=[],zs:=[.slice none 0 0],lim:={ slots:=([5,6]++List.range' 23 28),keys:=[] } })],cuts:=[],orders:=[] })
  (cfg:={ n:=55,own:=[],lim:=none,fns:=[191,217,218],wr:=[] }) (args:=[.slice a b d,.slice e f g]) (by kernel_rfl) (Bodies.cons Tryz.call191 (Bodies.cons Tryz.call217 (Bodies.cons Tryz.call218 Bodies.nil))) (Eq.mp (by kernel_rfl:WAppendWords Tryz.prog a b d e f g h K=_) hvc)
def WAppendSplit(P:Program)(e:OA)(f g:Nat)(n:OA)(i o:Nat)(c:Int)(d:OA)(a b:Nat)(h:Heap)(K:Value->Heap->Prop):Prop:=
 Br (decide ((wi64 ((a:Int)-1))<(0:Int))) (FCall P f_WAppendSimple #[.slice e f g,.slice n i o,I c] h (fun V W=>∃ (s:OA) (t u:Nat),V= .slice s t u/\K (.slice s t u) W))
 (Br (decide ((i:Int)<=(30:Int))) (FCall P f_WAppendSimple #[.slice e f g,.slice n i o,I c] h (fun X Z=>∃ (v:OA) (w x:Nat),X= .slice v w x/\K (.slice v w x) Z))
 (∃ T,d=some T/\0<=wi64 ((a:Int)-1)/\wi64 ((a:Int)-1)<(a:Int)/\∃ (y:OA) (z A:Nat),h.cell? (T.add ((wi64 ((a:Int)-1)).toNat*1))=some (.slice y z A)/\FCall P f_WDivideWords #[.slice n i o,.slice y z A] h (fun a0 r=>∃ (p:OA) (j q:Nat) (k:OA) (l m:Nat),a0= .tuple #[.slice p j q,.slice k l m]/\Br (decide (wi64 ((a:Int)-1)<0)) False
 (Br ((j:Int)==(0:Int)) (Br (c==(0:Int)) ((0<=wi64 ((a:Int)-1)/\wi64 ((a:Int)-1)<=(b:Int))/\FCall P f_WAppendSplit #[.slice e f g,.slice k l m,I 0,.slice (cutA d b 0 1) (((wi64 ((a:Int)-1)).toNat)-0) (b-0)] r (fun a1 a2=>∃ (B:OA) (C D:Nat),a1= .slice B C D/\K (.slice B C D) a2))
 ((0<=wi64 ((a:Int)-1)/\wi64 ((a:Int)-1)<=(b:Int))/\FCall P f_WAppendSplit #[.slice e f g,.slice p j q,I (if (0:Int)>(wi64 (c-(wi64 ((19:Int)*2^(min (wi64 ((a:Int)-1)).toNat 64))))) then (0:Int) else wi64 (c-(wi64 ((19:Int)*2^(min (wi64 ((a:Int)-1)).toNat 64))))),.slice (cutA d b 0 1) (((wi64 ((a:Int)-1)).toNat)-0) (b-0)] r (fun a3 a4=>∃ (E:OA) (F G:Nat),a3= .slice E F G/\(0<=wi64 ((a:Int)-1)/\wi64 ((a:Int)-1)<=(b:Int))/\FCall P f_WAppendSplit #[.slice E F G,.slice k l m,I (wi64 ((19:Int)*2^(min (wi64 ((a:Int)-1)).toNat 64))),.slice (cutA d b 0 1) (((wi64 ((a:Int)-1)).toNat)-0) (b-0)] a4 (fun a5 a6=>∃ (H:OA) (J L:Nat),a5= .slice H J L/\K (.slice H J L) a6))))
 ((0<=wi64 ((a:Int)-1)/\wi64 ((a:Int)-1)<=(b:Int))/\FCall P f_WAppendSplit #[.slice e f g,.slice p j q,I (if (0:Int)>(wi64 (c-(wi64 ((19:Int)*2^(min (wi64 ((a:Int)-1)).toNat 64))))) then (0:Int) else wi64 (c-(wi64 ((19:Int)*2^(min (wi64 ((a:Int)-1)).toNat 64))))),.slice (cutA d b 0 1) (((wi64 ((a:Int)-1)).toNat)-0) (b-0)] r (fun a7 a8=>∃ (M:OA) (N O:Nat),a7= .slice M N O/\(0<=wi64 ((a:Int)-1)/\wi64 ((a:Int)-1)<=(b:Int))/\FCall P f_WAppendSplit #[.slice M N O,.slice k l m,I (wi64 ((19:Int)*2^(min (wi64 ((a:Int)-1)).toNat 64))),.slice (cutA d b 0 1) (((wi64 ((a:Int)-1)).toNat)-0) (b-0)] a8 (fun a9 b0=>∃ (Q:OA) (R S:Nat),a9= .slice Q R S/\K (.slice Q R S) b0)))))))
theorem WAppendSplit_ok(a:OA)(b d:Nat)(e:OA)(f g:Nat)(i:Int)(j:OA)(k l:Nat)(hvc:WAppendSplit Tryz.prog a b d e f g i j k l h K):FCall Tryz.prog f_WAppendSplit #[.slice a b d,.slice e f g,I i,.slice j k l] h K:=
 fn_sound Tryz.func218 (c:=codeOf Tryz.f218) (by kernel_rfl) (rs:=[.tmp 8]) (by kernel_rfl) (fa:={ loops:=[],cuts:=[],orders:=[] })
  (cfg:={ n:=68,own:=[],lim:=none,fns:=[204,218,235],wr:=[] }) (args:=[.slice a b d,.slice e f g,I i,.slice j k l]) (by kernel_rfl) (Bodies.cons Tryz.call204 (Bodies.cons Tryz.call218 (Bodies.cons Tryz.call235 Bodies.nil))) (Eq.mp (by kernel_rfl:WAppendSplit Tryz.prog a b d e f g i j k l h K=_) hvc)
def WAccumulateL12(P:Program)(H:Nat)(J:List Value->Heap->Prop)(p:List Value->Heap->Nat)(q:OA)(r s:Nat)(j:Int)(L:Int)(M:Heap)(N:Heap):Prop:=
 ∃ (k:List Value->Heap->Prop) (l:List Value->Heap->Nat),k [.slice q r s,U L,I (wi64 (j+(H:Int)))] M/\
 ∀ (c:OA) (b d:Nat) (f:Int) (a:Int),∀ e,k [.slice c b d,U f,I a] e->Br (f != (0:Int)) (Br (a==(b:Int)) (wpH P (Instr.buildSlice 92 1 #[(0,U 0)]) (fun O Q=>∃ (t:OA) (u v:Nat),O= .slice t u v/\wpH P (Builtin.append_ #[92,92] 92 #[.slice c b d,.slice t u v]) (fun R A=>∃ (g:OA) (i m:Nat),R= .slice g i m/\∃ D,g=some D/\0<=a/\a<(i:Int)/\∃ (w:Int),A.cell? (D.add (a.toNat*1))=some (U w)/\ECall P f_BAdd64 #[U w,U f,U 0] A (fun S T=>∃ (x:Int) (n:Int),S= .tuple #[U x,U n]/\∃ E,g=some E/\0<=a/\a<(i:Int)/\wpH P (Instr.storeAt 157 (.pointer (some (E.add (a.toNat*1)))) (U x)) (fun _ B=>k [.slice g i m,U n,I (wi64 (a+1))] B/\l [.slice g i m,U n,I (wi64 (a+1))] B<l [.slice c b d,U f,I a] e) T)) Q) e)
 (∃ F,c=some F/\0<=a/\a<(b:Int)/\∃ (y:Int),e.cell? (F.add (a.toNat*1))=some (U y)/\ECall P f_BAdd64 #[U y,U f,U 0] e (fun V W=>∃ (z:Int) (o:Int),V= .tuple #[U z,U o]/\∃ G,c=some G/\0<=a/\a<(b:Int)/\wpH P (Instr.storeAt 157 (.pointer (some (G.add (a.toNat*1)))) (U z)) (fun _ C=>k [.slice c b d,U o,I (wi64 (a+1))] C/\l [.slice c b d,U o,I (wi64 (a+1))] C<l [.slice c b d,U f,I a] e) W)))
 (J [.slice c b d,I (wi64 (j+1))] e/\p [.slice c b d,I (wi64 (j+1))] e<p [.slice q r s,I j] N)
def WAccumulateL8(P:Program)(K:Value->Heap->Prop)(m:OA)(b n:Nat)(o:OA)(i:Nat)(p:OA)(q r:Nat)(s:Heap):Prop:=
 ∃ (f:List Value->Heap->Prop) (t:List Value->Heap->Nat),f [.slice p q r,I 0] s/\
 ∀ (e:OA) (g c:Nat) (a:Int),∀ d,f [.slice e g c,I a] d->Br (decide (a<(i:Int))) (∃ l,o=some l/\0<=a/\a<(i:Int)/\∃ (j:Int),d.cell? (l.add (a.toNat*1))=some (U j)/\(0<=wi64 (a+(b:Int))/\wi64 (a+(b:Int))<=(c:Int))/\(0<=a/\a<=(((wi64 (a+(b:Int))).toNat:Nat):Int))/\FCall P f_WAddProduct #[.slice (cutA e c (a.toNat) 1) (((wi64 (a+(b:Int))).toNat)-(a.toNat)) (c-(a.toNat)),.slice m b n,U j] d (fun u v=>∃ (k:Int),u=U k/\WAccumulateL12 P b f t e g c a k v d))
 (K (.slice e g c) d)
def WAccumulateL5(P:Program)(q:OA)(r s:Nat)(K:Value->Heap->Prop)(t:OA)(j u:Nat)(v:OA)(k:Nat)(w:Heap):Prop:=
 ∃ (e:List Value->Heap->Prop) (l:List Value->Heap->Nat),e [.slice q r s] w/\
 ∀ (b:OA) (a c:Nat),∀ d,e [.slice b a c] d->Br (decide ((a:Int)<(wi64 ((j:Int)+(k:Int))))) (wpH P (Instr.buildSlice 92 1 #[(0,U 0)]) (fun x y=>∃ (m:OA) (n o:Nat),x= .slice m n o/\wpH P (Builtin.append_ #[92,92] 92 #[.slice b a c,.slice m n o]) (fun z p=>∃ (f:OA) (g i:Nat),z= .slice f g i/\e [.slice f g i] p/\l [.slice f g i] p<l [.slice b a c] d) y) d)
 (WAccumulateL8 P K t j u v k b a c d)
def WAccumulate(P:Program)(C:OA)(D E:Nat)(m:OA)(b n:Nat)(o:OA)(c p:Nat)(h:Heap)(K:Value->Heap->Prop):Prop:=
 ∃ (d:List Value->Heap->Prop),(Br (decide ((b:Int)<(c:Int))) (d [.slice o c p,.slice m b n] h)
 (d [.slice m b n,.slice o c p] h))/\
 ∀ (e:OA) (f g:Nat) (i:OA) (a j:Nat),∀ l,d [.slice e f g,.slice i a j] l->∃ (k:List Value->Heap->Prop),(Br (decide ((a:Int)>=(40:Int))) (FCall P f_WMultiplyWords #[.slice e f g,.slice i a j] l (fun G H=>∃ (q:OA) (r s:Nat),G= .slice q r s/\wpH P (Instr.buildSlice 92 1 #[(0,U 1)]) (fun J L=>∃ (t:OA) (u v:Nat),J= .slice t u v/\k [.slice q r s,.slice t u v] L) H))
 (k [.slice e f g,.slice i a j] l))/\
 ∀ (w:OA) (x y:Nat) (z:OA) (A F:Nat),∀ B,k [.slice w x y,.slice z A F] B->WAccumulateL5 P C D E K w x y z A B
theorem WAccumulate_ok(a:OA)(b d:Nat)(e:OA)(f g:Nat)(i:OA)(j k:Nat)(hvc:WAccumulate Tryz.prog a b d e f g i j k h K):FCall Tryz.prog f_WAccumulate #[.slice a b d,.slice e f g,.slice i j k] h K:=
 fn_sound Tryz.func187 (c:=codeOf Tryz.f187) (by kernel_rfl) (rs:=[.tmp 6]) (by kernel_rfl) (fa:={ loops:=[(5,{ slots:=[0],owns:=[],zs:=[.slice none 0 0],lim:={ slots:=([0]++List.range' 25 11),keys:=[] } }),(8,{ slots:=[0,38],owns:=[],zs:=[.slice none 0 0,.int .i64 0],lim:={ slots:=([0,7,8,9,10]++List.range' 38 43),keys:=[] } }),(12,{ slots:=[0,9,10],owns:=[],zs:=[.slice none 0 0,.int .u64 0,.int .i64 0],lim:={ slots:=([0,9,10]++List.range' 57 23),keys:=[] } })],cuts:=[(3,{ slots:=[1,2],owns:=[],zs:=[.slice none 0 0,.slice none 0 0],lim:={ slots:=[1,2,11,12,13,14,15,16,17],keys:=[] } }),(5,{ slots:=[1,2],owns:=[],zs:=[.slice none 0 0,.slice none 0 0],lim:={ slots:=[1,2,18,19,20,21,22,23,24],keys:=[] } })],orders:=[] })
  (cfg:={ n:=82,own:=[],lim:=none,fns:=[191,210],wr:=[210] }) (args:=[.slice a b d,.slice e f g,.slice i j k]) (by kernel_rfl) (Bodies.cons Tryz.call191 (Bodies.cons Tryz.call210 Bodies.nil)) (Eq.mp (by kernel_rfl:WAccumulate Tryz.prog a b d e f g i j k h K=_) hvc)
def WCopyDifference(P:Program)(i:OA)(d j:Nat)(k:OA)(l m:Nat)(h:Heap)(K:Value->Heap->Prop):Prop:=
 wpH P (Instr.makeSlice 92 (I (d:Int)) (I (d:Int))) (fun o p=>∃ (a:OA) (b c:Nat),o= .slice a b c/\wpH P (Builtin.copy_ #[92,92] 3 #[.slice a b c,.slice i d j]) (fun q r=>∃ (n:Int),q=I n/\FCall P f_WSubtractFrom #[.slice a b c,.slice k l m] r (fun s t=>s= .tuple #[]/\FCall P f_WTrim #[.slice a b c] t (fun u v=>∃ (e:OA) (f g:Nat),u= .slice e f g/\K (.slice e f g) v))) p) h
theorem WCopyDifference_ok(a:OA)(b d:Nat)(e:OA)(f g:Nat)(hvc:WCopyDifference Tryz.prog a b d e f g h K):FCall Tryz.prog f_WCopyDifference #[.slice a b d,.slice e f g] h K:=
 fn_sound Tryz.func190 (c:=codeOf Tryz.f190) (by kernel_rfl) (rs:=[.tmp 4]) (by kernel_rfl) (fa:={ loops:=[],cuts:=[],orders:=[] })
  (cfg:={ n:=17,own:=[],lim:=none,fns:=[188,214],wr:=[214] }) (args:=[.slice a b d,.slice e f g]) (by kernel_rfl) (Bodies.cons Tryz.call188 (Bodies.cons Tryz.call214 Bodies.nil)) (Eq.mp (by kernel_rfl:WCopyDifference Tryz.prog a b d e f g h K=_) hvc)
def ZInt64(P:Program)(b:Bool)(e:OA)(c f:Nat)(h:Heap)(K:Value->Heap->Prop):Prop:=
 Br ((c:Int)==(0:Int)) (K (.tuple #[I 0,.bool true]) h)
 (∃ d,e=some d/\0<=(0:Int)/\(0:Int)<(c:Int)/\∃ (a:Int),h.cell? (d.add (((0:Int)).toNat*1))=some (U a)/\Br (decide ((c:Int)>(1:Int))) (K (.tuple #[I 0,.bool false]) h)
 (Br b (Br (decide (a<=(9223372036854775808:Int))) (K (.tuple #[I (wi64 (wu64 (0-a))),.bool true]) h)
 (Br (!b) (Br (decide (a<=(9223372036854775807:Int))) (K (.tuple #[I (wi64 a),.bool true]) h)
 (K (.tuple #[I 0,.bool false]) h))
 (K (.tuple #[I 0,.bool false]) h)))
 (Br (!b) (Br (decide (a<=(9223372036854775807:Int))) (K (.tuple #[I (wi64 a),.bool true]) h)
 (K (.tuple #[I 0,.bool false]) h))
 (K (.tuple #[I 0,.bool false]) h))))
theorem ZInt64_ok(a:Bool)(b:OA)(d e:Nat)(hvc:ZInt64 Tryz.prog a b d e h K):FCall Tryz.prog f_ZInt64 #[.agg #[.bool a,.slice b d e]] h K:=
 fn_sound Tryz.func153 (c:=codeOf Tryz.f153) (by kernel_rfl) (rs:=[.tmp 2,.tmp 3]) (by kernel_rfl) (fa:={ loops:=[],cuts:=[],orders:=[] })
  (cfg:={ n:=38,own:=[1],lim:=none,fns:=[],wr:=[] }) (args:=[.agg #[.bool a,.slice b d e]]) (by kernel_rfl) Bodies.nil (Eq.mp (by kernel_rfl:ZInt64 Tryz.prog a b d e h K=_) hvc)
def ZAppend(P:Program)(t:Bool)(a:OA)(b c:Nat)(d:OA)(e f:Nat)(h:Heap)(K:Value->Heap->Prop):Prop:=
 Br t (wpH P (Instr.buildSlice 181 1 #[(0,Y (45:Int))]) (fun u v=>∃ (g:OA) (i j:Nat),u= .slice g i j/\wpH P (Builtin.append_ #[181,181] 181 #[.slice d e f,.slice g i j]) (fun w x=>∃ (k:OA) (l m:Nat),w= .slice k l m/\FCall P f_WAppendWords #[.slice k l m,.slice a b c] x (fun y z=>∃ (n:OA) (o p:Nat),y= .slice n o p/\K (.slice n o p) z)) v) h)
 (FCall P f_WAppendWords #[.slice d e f,.slice a b c] h (fun A B=>∃ (q:OA) (r s:Nat),A= .slice q r s/\K (.slice q r s) B))
theorem ZAppend_ok(a:Bool)(b:OA)(d e:Nat)(f:OA)(g i:Nat)(hvc:ZAppend Tryz.prog a b d e f g i h K):FCall Tryz.prog f_ZAppend #[.agg #[.bool a,.slice b d e],.slice f g i] h K:=
 fn_sound Tryz.func156 (c:=codeOf Tryz.f156) (by kernel_rfl) (rs:=[.tmp 4]) (by kernel_rfl) (fa:={ loops:=[],cuts:=[],orders:=[] })
  (cfg:={ n:=14,own:=[2],lim:=none,fns:=[192],wr:=[] }) (args:=[.agg #[.bool a,.slice b d e],.slice f g i]) (by kernel_rfl) (Bodies.cons Tryz.call192 Bodies.nil) (Eq.mp (by kernel_rfl:ZAppend Tryz.prog a b d e f g i h K=_) hvc)
def ZString(P:Program)(e:Bool)(f:OA)(g i:Nat)(h:Heap)(K:Value->Heap->Prop):Prop:=
 FCall P f_ZAppend #[.agg #[.bool e,.slice f g i],.slice none 0 0] h (fun j k=>∃ (a:OA) (b c:Nat),j= .slice a b c/\wpH P (convert 181 9 (.slice a b c)) (fun l m=>∃ (d:ByteArray),l= .string d/\K (.string d) m) k)
theorem ZString_ok(a:Bool)(b:OA)(d e:Nat)(hvc:ZString Tryz.prog a b d e h K):FCall Tryz.prog f_ZString #[.agg #[.bool a,.slice b d e]] h K:=
 fn_sound Tryz.func155 (c:=codeOf Tryz.f155) (by kernel_rfl) (rs:=[.tmp 2]) (by kernel_rfl) (fa:={ loops:=[],cuts:=[],orders:=[] })
  (cfg:={ n:=6,own:=[1],lim:=none,fns:=[156],wr:=[] }) (args:=[.agg #[.bool a,.slice b d e]]) (by kernel_rfl) (Bodies.cons Tryz.call156 Bodies.nil) (Eq.mp (by kernel_rfl:ZString Tryz.prog a b d e h K=_) hvc)
def ZSign(P:Program)(a:Bool)(c:OA)(b d:Nat)(h:Heap)(K:Value->Heap->Prop):Prop:=
 Br ((b:Int)==(0:Int)) (K (I 0) h)
 (Br a (K (I (-1:Int)) h)
 (K (I 1) h))
theorem ZSign_ok(a:Bool)(b:OA)(d e:Nat)(hvc:ZSign Tryz.prog a b d e h K):FCall Tryz.prog f_ZSign #[.agg #[.bool a,.slice b d e]] h K:=
 fn_sound Tryz.func137 (c:=codeOf Tryz.f137) (by kernel_rfl) (rs:=[.tmp 2]) (by kernel_rfl) (fa:={ loops:=[],cuts:=[],orders:=[] })
  (cfg:={ n:=11,own:=[1],lim:=none,fns:=[],wr:=[] }) (args:=[.agg #[.bool a,.slice b d e]]) (by kernel_rfl) Bodies.nil (Eq.mp (by kernel_rfl:ZSign Tryz.prog a b d e h K=_) hvc)
def ZIsZero(P:Program)(b:Bool)(c:OA)(a d:Nat)(h:Heap)(K:Value->Heap->Prop):Prop:=
 K (.bool ((a:Int)==(0:Int))) h
theorem ZIsZero_ok(a:Bool)(b:OA)(d e:Nat)(hvc:ZIsZero Tryz.prog a b d e h K):FCall Tryz.prog f_ZIsZero #[.agg #[.bool a,.slice b d e]] h K:=
 fn_sound Tryz.func135 (c:=codeOf Tryz.f135) (by kernel_rfl) (rs:=[.tmp 2]) (by kernel_rfl) (fa:={ loops:=[],cuts:=[],orders:=[] })
  (cfg:={ n:=7,own:=[1],lim:=none,fns:=[],wr:=[] }) (args:=[.agg #[.bool a,.slice b d e]]) (by kernel_rfl) Bodies.nil (Eq.mp (by kernel_rfl:ZIsZero Tryz.prog a b d e h K=_) hvc)
def ZIsOne(P:Program)(d:Bool)(e:OA)(a f:Nat)(h:Heap)(K:Value->Heap->Prop):Prop:=
 Br (!d) (Br ((a:Int)==(1:Int)) (∃ c,e=some c/\0<=(0:Int)/\(0:Int)<(a:Int)/\∃ (b:Int),h.cell? (c.add (((0:Int)).toNat*1))=some (U b)/\K (.bool (b==(1:Int))) h)
 (K (.bool false) h))
 (K (.bool false) h)
theorem ZIsOne_ok(a:Bool)(b:OA)(d e:Nat)(hvc:ZIsOne Tryz.prog a b d e h K):FCall Tryz.prog f_ZIsOne #[.agg #[.bool a,.slice b d e]] h K:=
 fn_sound Tryz.func138 (c:=codeOf Tryz.f138) (by kernel_rfl) (rs:=[.tmp 2]) (by kernel_rfl) (fa:={ loops:=[],cuts:=[],orders:=[] })
  (cfg:={ n:=19,own:=[1],lim:=none,fns:=[],wr:=[] }) (args:=[.agg #[.bool a,.slice b d e]]) (by kernel_rfl) Bodies.nil (Eq.mp (by kernel_rfl:ZIsOne Tryz.prog a b d e h K=_) hvc)
def ZEqual(P:Program)(b:Bool)(c:OA)(d e:Nat)(f:Bool)(g:OA)(i j:Nat)(h:Heap)(K:Value->Heap->Prop):Prop:=
 Br (b==f) (FCall P f_WCompareWords #[.slice c d e,.slice g i j] h (fun k l=>∃ (a:Int),k=I a/\K (.bool (a==(0:Int))) l))
 (K (.bool false) h)
theorem ZEqual_ok(a:Bool)(b:OA)(d e:Nat)(f:Bool)(g:OA)(i j:Nat)(hvc:ZEqual Tryz.prog a b d e f g i j h K):FCall Tryz.prog f_ZEqual #[.agg #[.bool a,.slice b d e],.agg #[.bool f,.slice g i j]] h K:=
 fn_sound Tryz.func175 (c:=codeOf Tryz.f175) (by kernel_rfl) (rs:=[.tmp 4]) (by kernel_rfl) (fa:={ loops:=[],cuts:=[],orders:=[] })
  (cfg:={ n:=18,own:=[2,3],lim:=none,fns:=[189],wr:=[] }) (args:=[.agg #[.bool a,.slice b d e],.agg #[.bool f,.slice g i j]]) (by kernel_rfl) (Bodies.cons Tryz.call189 Bodies.nil) (Eq.mp (by kernel_rfl:ZEqual Tryz.prog a b d e f g i j h K=_) hvc)
def ZNeg(P:Program)(e:Bool)(f:OA)(g i:Nat)(h:Heap)(K:Value->Heap->Prop):Prop:=
 FCall P f_WSigned #[.bool (!e),.slice f g i] h (fun j k=>∃ (a:Bool) (b:OA) (c d:Nat),j= .agg #[.bool a,.slice b c d]/\K (.agg #[.bool a,.slice b c d]) k)
theorem ZNeg_ok(a:Bool)(b:OA)(d e:Nat)(hvc:ZNeg Tryz.prog a b d e h K):FCall Tryz.prog f_ZNeg #[.agg #[.bool a,.slice b d e]] h K:=
 fn_sound Tryz.func77 (c:=codeOf Tryz.f77) (by kernel_rfl) (rs:=[.cell 2 94]) (by kernel_rfl) (fa:={ loops:=[],cuts:=[],orders:=[] })
  (cfg:={ n:=9,own:=[1,2],lim:=none,fns:=[142],wr:=[] }) (args:=[.agg #[.bool a,.slice b d e]]) (by kernel_rfl) (Bodies.cons Tryz.call142 Bodies.nil) (Eq.mp (by kernel_rfl:ZNeg Tryz.prog a b d e h K=_) hvc)
def ZMul(P:Program)(k:Bool)(l:OA)(m n:Nat)(o:Bool)(p:OA)(q r:Nat)(h:Heap)(K:Value->Heap->Prop):Prop:=
 FCall P f_WMultiplyWords #[.slice l m n,.slice p q r] h (fun s a=>∃ (b:OA) (c d:Nat),s= .slice b c d/\Heap.le h a/\FCall P f_WSigned #[.bool (!(k==o)),.slice b c d] a (fun t j=>∃ (e:Bool) (f:OA) (g i:Nat),t= .agg #[.bool e,.slice f g i]/\Heap.le a j/\K (.agg #[.bool e,.slice f g i]) j))
theorem ZMul_ok(a:Bool)(b:OA)(d e:Nat)(f:Bool)(g:OA)(i j:Nat)(hvc:ZMul Tryz.prog a b d e f g i j h K):FCall Tryz.prog f_ZMul #[.agg #[.bool a,.slice b d e],.agg #[.bool f,.slice g i j]] h K:=
 fn_sound Tryz.func152 (c:=codeOf Tryz.f152) (by kernel_rfl) (rs:=[.cell 4 94]) (by kernel_rfl) (fa:={ loops:=[],cuts:=[],orders:=[(1,((List.range' 0 12),[[],[0],[],[2],[0,1,2,3],[],[5],[],[7],[5,6,7,8],(List.range' 0 10),(List.range' 0 11)]))] })
  (cfg:={ n:=16,own:=[2,3,4],lim:=none,fns:=[142,191],wr:=[] }) (args:=[.agg #[.bool a,.slice b d e],.agg #[.bool f,.slice g i j]]) (by kernel_rfl) (Bodies.cons Tryz.call142 (Bodies.cons Tryz.call191 Bodies.nil)) (Eq.mp (by kernel_rfl:ZMul Tryz.prog a b d e f g i j h K=_) hvc)
def ZQuoRem(P:Program)(b:Bool)(u:OA)(v w:Nat)(x:Bool)(y:OA)(c z:Nat)(h:Heap)(K:Value->Heap->Prop):Prop:=
 Br ((c:Int)==(0:Int)) (K (.tuple #[.agg #[.bool false,.slice none 0 0],.agg #[.bool false,.slice none 0 0]]) h)
 (FCall P f_WDivideWords #[.slice u v w,.slice y c z] h (fun A s=>∃ (d:OA) (e f:Nat) (g:OA) (i j:Nat),A= .tuple #[.slice d e f,.slice g i j]/\FCall P f_WSigned #[.bool (!(b==x)),.slice d e f] s (fun B a=>∃ (k:Bool) (l:OA) (m n:Nat),B= .agg #[.bool k,.slice l m n]/\Heap.le s a/\FCall P f_WSigned #[.bool b,.slice g i j] a (fun C t=>∃ (o:Bool) (p:OA) (q r:Nat),C= .agg #[.bool o,.slice p q r]/\Heap.le a t/\K (.tuple #[.agg #[.bool k,.slice l m n],.agg #[.bool o,.slice p q r]]) t))))
theorem ZQuoRem_ok(a:Bool)(b:OA)(d e:Nat)(f:Bool)(g:OA)(i j:Nat)(hvc:ZQuoRem Tryz.prog a b d e f g i j h K):FCall Tryz.prog f_ZQuoRem #[.agg #[.bool a,.slice b d e],.agg #[.bool f,.slice g i j]] h K:=
 fn_sound Tryz.func178 (c:=codeOf Tryz.f178) (by kernel_rfl) (rs:=[.cell 4 94,.cell 5 94]) (by kernel_rfl) (fa:={ loops:=[],cuts:=[],orders:=[(4,([0,1,2,3,4,5,7,8,9,6,10,11,12],[[],[0],[],[2],[0,1,2,3],[],[0,1,2,3,4,5],[],[7],[],(List.range' 0 10),(List.range' 0 11),(List.range' 0 12)]))] })
  (cfg:={ n:=33,own:=[2,3,4,5],lim:=none,fns:=[142,204],wr:=[] }) (args:=[.agg #[.bool a,.slice b d e],.agg #[.bool f,.slice g i j]]) (by kernel_rfl) (Bodies.cons Tryz.call142 (Bodies.cons Tryz.call204 Bodies.nil)) (Eq.mp (by kernel_rfl:ZQuoRem Tryz.prog a b d e f g i j h K=_) hvc)
def ZQuo(P:Program)(a:Bool)(b:OA)(c d:Nat)(e:Bool)(f:OA)(g i:Nat)(h:Heap)(K:Value->Heap->Prop):Prop:=
 FCall P f_ZIsOne #[.agg #[.bool e,.slice f g i]] h (fun t o=>∃ (j:Bool),t= .bool j/\Br j (K (.agg #[.bool a,.slice b c d]) o)
 (FCall P f_ZQuoRem #[.agg #[.bool a,.slice b c d],.agg #[.bool e,.slice f g i]] o (fun u v=>∃ (k:Bool) (l:OA) (m n:Nat) (p:Bool) (q:OA) (r s:Nat),u= .tuple #[.agg #[.bool k,.slice l m n],.agg #[.bool p,.slice q r s]]/\K (.agg #[.bool k,.slice l m n]) v)))
theorem ZQuo_ok(a:Bool)(b:OA)(d e:Nat)(f:Bool)(g:OA)(i j:Nat)(hvc:ZQuo Tryz.prog a b d e f g i j h K):FCall Tryz.prog f_ZQuo #[.agg #[.bool a,.slice b d e],.agg #[.bool f,.slice g i j]] h K:=
 fn_sound Tryz.func136 (c:=codeOf Tryz.f136) (by kernel_rfl) (rs:=[.cell 4 94]) (by kernel_rfl) (fa:={ loops:=[],cuts:=[],orders:=[] })
  (cfg:={ n:=17,own:=[2,3,4,5,6],lim:=none,fns:=[138,178],wr:=[] }) (args:=[.agg #[.bool a,.slice b d e],.agg #[.bool f,.slice g i j]]) (by kernel_rfl) (Bodies.cons Tryz.call138 (Bodies.cons Tryz.call178 Bodies.nil)) (Eq.mp (by kernel_rfl:ZQuo Tryz.prog a b d e f g i j h K=_) hvc)
def ZGCD(P:Program)(m:Bool)(d:OA)(e f:Nat)(n:Bool)(g:OA)(i j:Nat)(h:Heap)(K:Value->Heap->Prop):Prop:=
 FCall P f_WGcdWords #[.slice d e f,.slice g i j] h (fun k l=>∃ (a:OA) (b c:Nat),k= .slice a b c/\K (.agg #[.bool false,.slice a b c]) l)
theorem ZGCD_ok(a:Bool)(b:OA)(d e:Nat)(f:Bool)(g:OA)(i j:Nat)(hvc:ZGCD Tryz.prog a b d e f g i j h K):FCall Tryz.prog f_ZGCD #[.agg #[.bool a,.slice b d e],.agg #[.bool f,.slice g i j]] h K:=
 fn_sound Tryz.func134 (c:=codeOf Tryz.f134) (by kernel_rfl) (rs:=[.cell 4 94]) (by kernel_rfl) (fa:={ loops:=[],cuts:=[],orders:=[] })
  (cfg:={ n:=11,own:=[2,3,4],lim:=none,fns:=[177],wr:=[] }) (args:=[.agg #[.bool a,.slice b d e],.agg #[.bool f,.slice g i j]]) (by kernel_rfl) (Bodies.cons Tryz.call177 Bodies.nil) (Eq.mp (by kernel_rfl:ZGCD Tryz.prog a b d e f g i j h K=_) hvc)
def ZLCM(P:Program)(z:Bool)(d:OA)(a e:Nat)(A:Bool)(f:OA)(b g:Nat)(h:Heap)(K:Value->Heap->Prop):Prop:=
 Br ((a:Int)==(0:Int)) (K (.agg #[.bool false,.slice none 0 0]) h)
 (Br ((b:Int)==(0:Int)) (K (.agg #[.bool false,.slice none 0 0]) h)
 (FCall P f_WGcdWords #[.slice d a e,.slice f b g] h (fun v c=>∃ (i:OA) (j k:Nat),v= .slice i j k/\Heap.le h c/\FCall P f_WDivideWords #[.slice f b g,.slice i j k] c (fun w r=>∃ (l:OA) (m n:Nat) (s:OA) (t u:Nat),w= .tuple #[.slice l m n,.slice s t u]/\Heap.le c r/\FCall P f_WMultiplyWords #[.slice d a e,.slice l m n] r (fun x y=>∃ (o:OA) (p q:Nat),x= .slice o p q/\K (.agg #[.bool false,.slice o p q]) y)))))
theorem ZLCM_ok(a:Bool)(b:OA)(d e:Nat)(f:Bool)(g:OA)(i j:Nat)(hvc:ZLCM Tryz.prog a b d e f g i j h K):FCall Tryz.prog f_ZLCM #[.agg #[.bool a,.slice b d e],.agg #[.bool f,.slice g i j]] h K:=
 fn_sound Tryz.func176 (c:=codeOf Tryz.f176) (by kernel_rfl) (rs:=[.cell 4 94]) (by kernel_rfl) (fa:={ loops:=[],cuts:=[],orders:=[(3,((List.range' 0 13),[[],[0],[],[2],[],[4],[2,3,4,5],[0,1,2,3,4,5,6],(List.range' 0 8),(List.range' 0 9),(List.range' 0 9),(List.range' 0 10),(List.range' 0 12)]))] })
  (cfg:={ n:=34,own:=[2,3,4],lim:=none,fns:=[177,191,204],wr:=[] }) (args:=[.agg #[.bool a,.slice b d e],.agg #[.bool f,.slice g i j]]) (by kernel_rfl) (Bodies.cons Tryz.call177 (Bodies.cons Tryz.call191 (Bodies.cons Tryz.call204 Bodies.nil))) (Eq.mp (by kernel_rfl:ZLCM Tryz.prog a b d e f g i j h K=_) hvc)
def SValue(P:Program)(i:OA)(h:Heap)(K:Value->Heap->Prop):Prop:=
 ∃ G,i=some G/\∃ (j:OA) (k l:Nat),h.cell? (G.add 0)=some (.slice j k l)/\∃ H,i=some H/\∃ (m:OA) (n o:Nat),h.cell? (H.add 1)=some (.slice m n o)/\FCall P f_WTrim #[.slice j k l] h (fun J g=>∃ (a:OA) (b c:Nat),J= .slice a b c/\Heap.le h g/\FCall P f_WTrim #[.slice m n o] g (fun L E=>∃ (d:OA) (e f:Nat),L= .slice d e f/\Heap.le g E/\FCall P f_WCompareWords #[.slice a b c,.slice d e f] E (fun M F=>∃ (p:Int),M=I p/\Br (decide (p>=(0:Int))) (FCall P f_WCopyDifference #[.slice a b c,.slice d e f] F (fun N O=>∃ (q:OA) (r s:Nat),N= .slice q r s/\FCall P f_WSigned #[.bool false,.slice q r s] O (fun Q R=>∃ (t:Bool) (u:OA) (v w:Nat),Q= .agg #[.bool t,.slice u v w]/\K (.agg #[.bool t,.slice u v w]) R)))
 (FCall P f_WCopyDifference #[.slice d e f,.slice a b c] F (fun S T=>∃ (x:OA) (y z:Nat),S= .slice x y z/\FCall P f_WSigned #[.bool true,.slice x y z] T (fun V W=>∃ (A:Bool) (B:OA) (C D:Nat),V= .agg #[.bool A,.slice B C D]/\K (.agg #[.bool A,.slice B C D]) W))))))
theorem SValue_ok(a:OA)(hvc:SValue Tryz.prog a h K):FCall Tryz.prog f_SValue #[.pointer a] h K:=
 fn_sound Tryz.func151 (c:=codeOf Tryz.f151) (by kernel_rfl) (rs:=[.cell 2 94]) (by kernel_rfl) (fa:={ loops:=[],cuts:=[],orders:=[(1,([0,1,2,3,5,6,7,8,4,9,10,11],[[],[0],[0,1],[0,1,2],[0,1,2,3],[],[5],[5,6],[5,6,7],(List.range' 0 9),(List.range' 0 10),(List.range' 0 11)]))] })
  (cfg:={ n:=27,own:=[2],lim:=none,fns:=[142,188,189,190],wr:=[] }) (args:=[.pointer a]) (by kernel_rfl) (Bodies.cons Tryz.call142 (Bodies.cons Tryz.call188 (Bodies.cons Tryz.call189 (Bodies.cons Tryz.call190 Bodies.nil)))) (Eq.mp (by kernel_rfl:SValue Tryz.prog a h K=_) hvc)
def WApply(P:Program)(T:Int)(V:Int)(W:Int)(X:Int)(Z:Bool)(q:OA)(j b7:Nat)(r:OA)(s b8:Nat)(h:Heap)(K:Value->Heap->Prop):Prop:=
 ∃ (k:List Value->Heap->Prop) (l:List Value->Heap->Nat),k [U 0,U 0,U 0,U 0,U 0,U 0,I 0] h/\
 ∀ (m:Int) (n:Int) (o:Int) (p:Int) (c:Int) (d:Int) (a:Int),∀ b,k [U m,U n,U o,U p,U c,U d,I a] b->Br (decide (a<(j:Int))) (∃ M,q=some M/\0<=a/\a<(j:Int)/\∃ (t:Int),b.cell? (M.add (a.toNat*1))=some (U t)/\∃ N,r=some N/\0<=a/\a<(s:Int)/\∃ (u:Int),b.cell? (N.add (a.toNat*1))=some (U u)/\FCall P f_WMultiplyAdd #[U t,U T,U m] b (fun a0 a1=>∃ (v:Int) (e:Int),a0= .tuple #[U v,U e]/\FCall P f_WMultiplyAdd #[U u,U W,U n] a1 (fun a2 a3=>∃ (w:Int) (f:Int),a2= .tuple #[U w,U f]/\FCall P f_WMultiplyAdd #[U u,U X,U o] a3 (fun a4 a5=>∃ (x:Int) (g:Int),a4= .tuple #[U x,U g]/\FCall P f_WMultiplyAdd #[U t,U V,U p] a5 (fun a6 H=>∃ (y:Int) (i:Int),a6= .tuple #[U y,U i]/\Br Z (ECall P f_BSub64 #[U v,U w,U c] H (fun a7 a8=>∃ (D:Int) (z:Int),a7= .tuple #[U D,U z]/\∃ O,q=some O/\0<=a/\a<(j:Int)/\wpH P (Instr.storeAt 157 (.pointer (some (O.add (a.toNat*1)))) (U D)) (fun _ a9=>ECall P f_BSub64 #[U x,U y,U d] a9 (fun b0 b1=>∃ (E:Int) (A:Int),b0= .tuple #[U E,U A]/\∃ Q,r=some Q/\0<=a/\a<(s:Int)/\wpH P (Instr.storeAt 157 (.pointer (some (Q.add (a.toNat*1)))) (U E)) (fun _ J=>k [U e,U f,U g,U i,U z,U A,I (wi64 (a+1))] J/\l [U e,U f,U g,U i,U z,U A,I (wi64 (a+1))] J<l [U m,U n,U o,U p,U c,U d,I a] b) b1)) a8))
 (ECall P f_BSub64 #[U w,U v,U c] H (fun b2 b3=>∃ (F:Int) (B:Int),b2= .tuple #[U F,U B]/\∃ R,q=some R/\0<=a/\a<(j:Int)/\wpH P (Instr.storeAt 157 (.pointer (some (R.add (a.toNat*1)))) (U F)) (fun _ b4=>ECall P f_BSub64 #[U y,U x,U d] b4 (fun b5 b6=>∃ (G:Int) (C:Int),b5= .tuple #[U G,U C]/\∃ S,r=some S/\0<=a/\a<(s:Int)/\wpH P (Instr.storeAt 157 (.pointer (some (S.add (a.toNat*1)))) (U G)) (fun _ L=>k [U e,U f,U g,U i,U B,U C,I (wi64 (a+1))] L/\l [U e,U f,U g,U i,U B,U C,I (wi64 (a+1))] L<l [U m,U n,U o,U p,U c,U d,I a] b) b6)) b3)))))))
 (K (.tuple #[]) b)
theorem WApply_ok(a:Int)(b:Int)(d:Int)(e:Int)(f:Bool)(g:OA)(i j:Nat)(k:OA)(l m:Nat)(hvc:WApply Tryz.prog a b d e f g i j k l m h K):FCall Tryz.prog f_WApply #[.agg #[U a,U b,U d,U e,.bool f],.slice g i j,.slice k l m] h K:=
 fn_sound Tryz.func207 (c:=codeOf Tryz.f207) (by kernel_rfl) (rs:=[]) (by kernel_rfl) (fa:={ loops:=[(4,{ slots:=[6,7,8,9,10,11,21],owns:=[],zs:=[.int .u64 0,.int .u64 0,.int .u64 0,.int .u64 0,.int .u64 0,.int .u64 0,.int .i64 0],lim:={ slots:=(List.range' 6 13++List.range' 21 68),keys:=[] } })],cuts:=[],orders:=[] })
  (cfg:={ n:=89,own:=[3],lim:=none,fns:=[229],wr:=[] }) (args:=[.agg #[U a,U b,U d,U e,.bool f],.slice g i j,.slice k l m]) (by kernel_rfl) (Bodies.cons Tryz.call229 Bodies.nil) (Eq.mp (by kernel_rfl:WApply Tryz.prog a b d e f g i j k l m h K=_) hvc)
def BDiv64L17(P:Program)(i:Int)(f:Int)(c:Int)(a:Int)(l:List Value->Heap->Prop)(n:Heap):Prop:=
 ∃ (j:List Value->Heap->Prop) (m:List Value->Heap->Nat),j [U (wu64 (Int.tdiv (bor .u64 (wu64 (i*2^(min (wu64 a).toNat 64))) (Int.fdiv f (2^(min (wu64 ((64:Int)-(wu64 a))).toNat 64)))) (Int.fdiv (wu64 (c*2^(min (wu64 a).toNat 64))) (2^(min ((32:Int)).toNat 64))))),U (wu64 ((bor .u64 (wu64 (i*2^(min (wu64 a).toNat 64))) (Int.fdiv f (2^(min (wu64 ((64:Int)-(wu64 a))).toNat 64))))-(wu64 ((wu64 (Int.tdiv (bor .u64 (wu64 (i*2^(min (wu64 a).toNat 64))) (Int.fdiv f (2^(min (wu64 ((64:Int)-(wu64 a))).toNat 64)))) (Int.fdiv (wu64 (c*2^(min (wu64 a).toNat 64))) (2^(min ((32:Int)).toNat 64)))))*(Int.fdiv (wu64 (c*2^(min (wu64 a).toNat 64))) (2^(min ((32:Int)).toNat 64)))))))] n/\
 ∀ (b:Int) (d:Int),∀ e,j [U b,U d] e->∃ (k:List Value->Heap->Prop),(Br (decide (b>=(4294967296:Int))) (k [] e)
 (Br (decide ((wu64 (b*(band .u64 (wu64 (c*2^(min (wu64 a).toNat 64))) (4294967295:Int))))>(wu64 ((wu64 ((4294967296:Int)*d))+(Int.fdiv (wu64 (f*2^(min (wu64 a).toNat 64))) (2^(min ((32:Int)).toNat 64))))))) (k [] e)
 (l [U b] e)))/\
 ∀ g,k [] g->Br (decide ((wu64 (d+(Int.fdiv (wu64 (c*2^(min (wu64 a).toNat 64))) (2^(min ((32:Int)).toNat 64)))))>=(4294967296:Int))) (l [U (wu64 (b-1))] g)
 (j [U (wu64 (b-1)),U (wu64 (d+(Int.fdiv (wu64 (c*2^(min (wu64 a).toNat 64))) (2^(min ((32:Int)).toNat 64)))))] g/\m [U (wu64 (b-1)),U (wu64 (d+(Int.fdiv (wu64 (c*2^(min (wu64 a).toNat 64))) (2^(min ((32:Int)).toNat 64)))))] g<m [U b,U d] e)
def BDiv64L24(P:Program)(i:Int)(d:Int)(b:Int)(a:Int)(j:Int)(m:List Value->Heap->Prop)(o:Heap):Prop:=
 ∃ (k:List Value->Heap->Prop) (n:List Value->Heap->Nat),k [U (wu64 ((wu64 ((wu64 ((wu64 ((bor .u64 (wu64 (i*2^(min (wu64 a).toNat 64))) (Int.fdiv d (2^(min (wu64 ((64:Int)-(wu64 a))).toNat 64))))*(4294967296:Int)))+(Int.fdiv (wu64 (d*2^(min (wu64 a).toNat 64))) (2^(min ((32:Int)).toNat 64)))))-(wu64 (j*(wu64 (b*2^(min (wu64 a).toNat 64)))))))-(wu64 ((wu64 (Int.tdiv (wu64 ((wu64 ((wu64 ((bor .u64 (wu64 (i*2^(min (wu64 a).toNat 64))) (Int.fdiv d (2^(min (wu64 ((64:Int)-(wu64 a))).toNat 64))))*(4294967296:Int)))+(Int.fdiv (wu64 (d*2^(min (wu64 a).toNat 64))) (2^(min ((32:Int)).toNat 64)))))-(wu64 (j*(wu64 (b*2^(min (wu64 a).toNat 64))))))) (Int.fdiv (wu64 (b*2^(min (wu64 a).toNat 64))) (2^(min ((32:Int)).toNat 64)))))*(Int.fdiv (wu64 (b*2^(min (wu64 a).toNat 64))) (2^(min ((32:Int)).toNat 64))))))),U (wu64 (Int.tdiv (wu64 ((wu64 ((wu64 ((bor .u64 (wu64 (i*2^(min (wu64 a).toNat 64))) (Int.fdiv d (2^(min (wu64 ((64:Int)-(wu64 a))).toNat 64))))*(4294967296:Int)))+(Int.fdiv (wu64 (d*2^(min (wu64 a).toNat 64))) (2^(min ((32:Int)).toNat 64)))))-(wu64 (j*(wu64 (b*2^(min (wu64 a).toNat 64))))))) (Int.fdiv (wu64 (b*2^(min (wu64 a).toNat 64))) (2^(min ((32:Int)).toNat 64)))))] o/\
 ∀ (e:Int) (c:Int),∀ f,k [U e,U c] f->∃ (l:List Value->Heap->Prop),(Br (decide (c>=(4294967296:Int))) (l [] f)
 (Br (decide ((wu64 (c*(band .u64 (wu64 (b*2^(min (wu64 a).toNat 64))) (4294967295:Int))))>(wu64 ((wu64 ((4294967296:Int)*e))+(band .u64 (wu64 (d*2^(min (wu64 a).toNat 64))) (4294967295:Int)))))) (l [] f)
 (m [U c] f)))/\
 ∀ g,l [] g->Br (decide ((wu64 (e+(Int.fdiv (wu64 (b*2^(min (wu64 a).toNat 64))) (2^(min ((32:Int)).toNat 64)))))>=(4294967296:Int))) (m [U (wu64 (c-1))] g)
 (k [U (wu64 (e+(Int.fdiv (wu64 (b*2^(min (wu64 a).toNat 64))) (2^(min ((32:Int)).toNat 64))))),U (wu64 (c-1))] g/\n [U (wu64 (e+(Int.fdiv (wu64 (b*2^(min (wu64 a).toNat 64))) (2^(min ((32:Int)).toNat 64))))),U (wu64 (c-1))] g<n [U e,U c] f)
def BDiv64C28(P:Program)(f:Int)(b:Int)(c:Int)(K:Value->Heap->Prop)(a:Int)(d:Int)(e:Int)(g:Heap):Prop:=
 Br (decide (wu64 a<0)) False
 (K (.tuple #[U (wu64 ((wu64 (d*(4294967296:Int)))+e)),U (Int.fdiv (wu64 ((wu64 ((wu64 ((wu64 ((wu64 ((wu64 ((bor .u64 (wu64 (f*2^(min (wu64 a).toNat 64))) (Int.fdiv b (2^(min (wu64 ((64:Int)-(wu64 a))).toNat 64))))*(4294967296:Int)))+(Int.fdiv (wu64 (b*2^(min (wu64 a).toNat 64))) (2^(min ((32:Int)).toNat 64)))))-(wu64 (d*(wu64 (c*2^(min (wu64 a).toNat 64)))))))*(4294967296:Int)))+(band .u64 (wu64 (b*2^(min (wu64 a).toNat 64))) (4294967295:Int))))-(wu64 (e*(wu64 (c*2^(min (wu64 a).toNat 64))))))) (2^(min (wu64 a).toNat 64)))]) g)
def BDiv64C21(P:Program)(c:Int)(d:Int)(a:Int)(K:Value->Heap->Prop)(b:Int)(e:Int)(j:Heap):Prop:=
 Br (decide (Int.fdiv (wu64 (a*2^(min (wu64 b).toNat 64))) (2^(min ((32:Int)).toNat 64))=0)) False
 (∃ (f:List Value->Heap->Prop),(BDiv64L24 P c d a b e f j)/\
 ∀ (g:Int),∀ i,f [U g] i->BDiv64C28 P c d a K b e g i)
def BDiv64(P:Program)(c:Int)(d:Int)(a:Int)(h:Heap)(K:Value->Heap->Prop):Prop:=
 Br (a==(0:Int)) (∃ (i:Value),h.cell? (⟨0,0,none⟩)=some (i)/\False)
 (Br (decide (a<=c)) (∃ (j:Value),h.cell? (⟨1,0,none⟩)=some (j)/\False)
 (Br (c==(0:Int)) (Br (decide (a=0)) False
 (Br (decide (a=0)) False
 (K (.tuple #[U (wu64 (Int.tdiv d a)),U (Int.tmod d a)]) h)))
 (FCall P f_BLeadingZeros64 #[U a] h (fun k l=>∃ (b:Int),k=I b/\Br (decide (wu64 b<0)) False
 (Br (decide (wu64 b<0)) False
 (Br (decide (wu64 ((64:Int)-(wu64 b))<0)) False
 (Br (decide (wu64 b<0)) False
 (Br (decide (Int.fdiv (wu64 (a*2^(min (wu64 b).toNat 64))) (2^(min ((32:Int)).toNat 64))=0)) False
 (∃ (e:List Value->Heap->Prop),(BDiv64L17 P c d a b e l)/\
 ∀ (f:Int),∀ g,e [U f] g->BDiv64C21 P c d a K b f g)))))))))
theorem BDiv64_ok(a:Int)(b:Int)(d:Int)(hvc:BDiv64 Tryz.prog a b d h K):FCall Tryz.prog f_BDiv64 #[U a,U b,U d] h K:=
 fn_sound Tryz.func203 (c:=codeOf Tryz.f203) (by kernel_rfl) (rs:=[.tmp 6,.tmp 7]) (by kernel_rfl) (fa:={ loops:=[(17,{ slots:=[15,16],owns:=[],zs:=[.int .u64 0,.int .u64 0],lim:={ slots:=([15,16]++List.range' 67 19),keys:=[] } }),(24,{ slots:=[16,18],owns:=[],zs:=[.int .u64 0,.int .u64 0],lim:={ slots:=([16,18]++List.range' 102 19),keys:=[] } })],cuts:=[(18,{ slots:=[],owns:=[],zs:=[],lim:={ slots:=(List.range' 67 12),keys:=[] } }),(21,{ slots:=[15],owns:=[],zs:=[.int .u64 0],lim:={ slots:=([15,16]++List.range' 67 19),keys:=[] } }),(25,{ slots:=[],owns:=[],zs:=[],lim:={ slots:=(List.range' 102 12),keys:=[] } }),(28,{ slots:=[18],owns:=[],zs:=[.int .u64 0],lim:={ slots:=([16,18]++List.range' 102 19),keys:=[] } })],orders:=[(6,((List.range' 0 8),[[],[],[0,1],[],[],[3,4],[0,1,2],[0,1,2,3,4,5,6]]))] })
  (cfg:={ n:=135,own:=[],lim:=none,fns:=[226],wr:=[] }) (args:=[U a,U b,U d]) (by kernel_rfl) (Bodies.cons Tryz.call226 Bodies.nil) (Eq.mp (by kernel_rfl:BDiv64 Tryz.prog a b d h K=_) hvc)
def BMul64(P:Program)(a:Int)(b:Int)(h:Heap)(K:Value->Heap->Prop):Prop:=
 K (.tuple #[U (wu64 ((wu64 ((wu64 ((Int.fdiv a (2^(min ((32:Int)).toNat 64)))*(Int.fdiv b (2^(min ((32:Int)).toNat 64)))))+(Int.fdiv (wu64 ((wu64 ((Int.fdiv a (2^(min ((32:Int)).toNat 64)))*(band .u64 b (4294967295:Int))))+(Int.fdiv (wu64 ((band .u64 a (4294967295:Int))*(band .u64 b (4294967295:Int)))) (2^(min ((32:Int)).toNat 64))))) (2^(min ((32:Int)).toNat 64)))))+(Int.fdiv (wu64 ((band .u64 (wu64 ((wu64 ((Int.fdiv a (2^(min ((32:Int)).toNat 64)))*(band .u64 b (4294967295:Int))))+(Int.fdiv (wu64 ((band .u64 a (4294967295:Int))*(band .u64 b (4294967295:Int)))) (2^(min ((32:Int)).toNat 64))))) (4294967295:Int))+(wu64 ((band .u64 a (4294967295:Int))*(Int.fdiv b (2^(min ((32:Int)).toNat 64))))))) (2^(min ((32:Int)).toNat 64))))),U (wu64 (a*b))]) h
theorem BMul64_ok(a:Int)(b:Int)(hvc:BMul64 Tryz.prog a b h K):FCall Tryz.prog f_BMul64 #[U a,U b] h K:=
 fn_sound Tryz.func198 (c:=codeOf Tryz.f198) (by kernel_rfl) (rs:=[.tmp 4,.tmp 5]) (by kernel_rfl) (fa:={ loops:=[],cuts:=[],orders:=[] })
  (cfg:={ n:=51,own:=[],lim:=none,fns:=[],wr:=[] }) (args:=[U a,U b]) (by kernel_rfl) Bodies.nil (Eq.mp (by kernel_rfl:BMul64 Tryz.prog a b h K=_) hvc)
def BLeadingZeros64(P:Program)(b:Int)(h:Heap)(K:Value->Heap->Prop):Prop:=
 FCall P f_BLen64 #[U b] h (fun c d=>∃ (a:Int),c=I a/\K (I (wi64 ((64:Int)-a))) d)
theorem BLeadingZeros64_ok(a:Int)(hvc:BLeadingZeros64 Tryz.prog a h K):FCall Tryz.prog f_BLeadingZeros64 #[U a] h K:=
 fn_sound Tryz.func226 (c:=codeOf Tryz.f226) (by kernel_rfl) (rs:=[.tmp 2]) (by kernel_rfl) (fa:={ loops:=[],cuts:=[],orders:=[] })
  (cfg:={ n:=6,own:=[],lim:=none,fns:=[239],wr:=[] }) (args:=[U a]) (by kernel_rfl) (Bodies.cons Tryz.call239 Bodies.nil) (Eq.mp (by kernel_rfl:BLeadingZeros64 Tryz.prog a h K=_) hvc)
def BTrailingZeros64(P:Program)(a:Int)(h:Heap)(K:Value->Heap->Prop):Prop:=
 Br (a==(0:Int)) (K (I 64) h)
 ((0<=Int.fdiv (wu64 ((band .u64 a (wu64 (0-a)))*(285870213051353865:Int))) (2^(min ((58:Int)).toNat 64))/\Int.fdiv (wu64 ((band .u64 a (wu64 (0-a)))*(285870213051353865:Int))) (2^(min ((58:Int)).toNat 64))<(64:Int))/\∃ (b:Int),h.cell? (Addr.add (⟨3,0,none⟩) ((Int.fdiv (wu64 ((band .u64 a (wu64 (0-a)))*(285870213051353865:Int))) (2^(min ((58:Int)).toNat 64))).toNat*1))=some (Y b)/\K (I (wi64 b)) h)
theorem BTrailingZeros64_ok(a:Int)(hvc:BTrailingZeros64 Tryz.prog a h K):FCall Tryz.prog f_BTrailingZeros64 #[U a] h K:=
 fn_sound Tryz.func231 (c:=codeOf Tryz.f231) (by kernel_rfl) (rs:=[.tmp 2]) (by kernel_rfl) (fa:={ loops:=[],cuts:=[],orders:=[] })
  (cfg:={ n:=14,own:=[],lim:=none,fns:=[],wr:=[] }) (args:=[U a]) (by kernel_rfl) Bodies.nil (Eq.mp (by kernel_rfl:BTrailingZeros64 Tryz.prog a h K=_) hvc)
def lit_VcI0:ByteArray:={ data:=#[0,1,2,2,3,3,3,3,4,4,4,4,4,4,4,4,5,5,5,5,5,5,5,5,5,5,5,5,5,5,5,5,6,6,6,6,6,6,6,6,6,6,6,6,6,6,6,6,6,6,6,6,6,6,6,6,6,6,6,6,6,6,6,6,7,7,7,7,7,7,7,7,7,7,7,7,7,7,7,7,7,7,7,7,7,7,7,7,7,7,7,7,7,7,7,7,7,7,7,7,7,7,7,7,7,7,7,7,7,7,7,7,7,7,7,7,7,7,7,7,7,7,7,7,7,7,7,7,8,8,8,8,8,8,8,8,8,8,8,8,8,8,8,8,8,8,8,8,8,8,8,8,8,8,8,8,8,8,8,8,8,8,8,8,8,8,8,8,8,8,8,8,8,8,8,8,8,8,8,8,8,8,8,8,8,8,8,8,8,8,8,8,8,8,8,8,8,8,8,8,8,8,8,8,8,8,8,8,8,8,8,8,8,8,8,8,8,8,8,8,8,8,8,8,8,8,8,8,8,8,8,8,8,8,8,8,8,8,8,8,8,8,8,8,8,8,8,8,8,8,8,8,8,8,8,8] }
def BLen64(P:Program)(c:Int)(h:Heap)(K:Value->Heap->Prop):Prop:=
 ∃ (d:List Value->Heap->Prop),(Br (decide (c>=(4294967296:Int))) (d [U (Int.fdiv c (2^(min ((32:Int)).toNat 64))),I 32] h)
 (d [U c,I 0] h))/\
 ∀ (a:Int) (e:Int),∀ k,d [U a,I e] k->∃ (f:List Value->Heap->Prop),(Br (decide (a>=(65536:Int))) (f [U (Int.fdiv a (2^(min ((16:Int)).toNat 64))),I (wi64 (e+16))] k)
 (f [U a,I e] k))/\
 ∀ (b:Int) (g:Int),∀ l,f [U b,I g] l->∃ (i:List Value->Heap->Prop),(Br (decide (b>=(256:Int))) (i [U (Int.fdiv b (2^(min ((8:Int)).toNat 64))),I (wi64 (g+8))] l)
 (i [U b,I g] l))/\
 ∀ (j:Int) (m:Int),∀ o,i [U j,I m] o->∃ (n:UInt8),(0<=wu8 j/\((lit_VcI0:ByteArray))[(wu8 j).toNat]? = some n)/\K (I (wi64 (m+(wi64 ((n.toNat:Nat):Int))))) o
theorem BLen64_ok(a:Int)(hvc:BLen64 Tryz.prog a h K):FCall Tryz.prog f_BLen64 #[U a] h K:=
 fn_sound Tryz.func239 (c:=codeOf Tryz.f239) (by kernel_rfl) (rs:=[.tmp 2]) (by kernel_rfl) (fa:={ loops:=[],cuts:=[(4,{ slots:=[0,2],owns:=[],zs:=[.int .u64 0,.int .i64 0],lim:={ slots:=[0,2,3,4,5,6],keys:=[] } }),(7,{ slots:=[0,2],owns:=[],zs:=[.int .u64 0,.int .i64 0],lim:={ slots:=[0,2,7,8,9,10,11,12],keys:=[] } }),(10,{ slots:=[0,2],owns:=[],zs:=[.int .u64 0,.int .i64 0],lim:={ slots:=[0,2,13,14,15,16,17,18],keys:=[] } })],orders:=[] })
  (cfg:={ n:=25,own:=[],lim:=none,fns:=[],wr:=[] }) (args:=[U a]) (by kernel_rfl) Bodies.nil (Eq.mp (by kernel_rfl:BLen64 Tryz.prog a h K=_) hvc)
theorem BAdd64_ext:ExtF Tryz.prog f_BAdd64 (fun a=>do
 let (x,y,c)<-Extern.MathBitsCarry.three "Add64" a
 pure (Extern.MathBitsCarry.pair ((x+y+c)%Extern.MathBitsCarry.m64) ((x+y+c)/Extern.MathBitsCarry.m64))):=⟨Tryz.f211,Tryz.func211,by kernel_rfl,by kernel_rfl,by kernel_rfl,by kernel_rfl⟩
theorem BSub64_ext:ExtF Tryz.prog f_BSub64 (fun a=>do
 let (x,y,c)<-Extern.MathBitsCarry.three "Sub64" a
 pure (Extern.MathBitsCarry.pair ((x+Extern.MathBitsCarry.m64-y-c)%Extern.MathBitsCarry.m64) (if x<y+c then 1 else 0))):=⟨Tryz.f230,Tryz.func230,by kernel_rfl,by kernel_rfl,by kernel_rfl,by kernel_rfl⟩
def BMul(P:Program)(c:Int)(d:Int)(h:Heap)(K:Value->Heap->Prop):Prop:=
 FCall P f_BMul64 #[U c,U d] h (fun e f=>∃ (a:Int) (b:Int),e= .tuple #[U a,U b]/\K (.tuple #[U a,U b]) f)
theorem BMul_ok(a:Int)(b:Int)(hvc:BMul Tryz.prog a b h K):FCall Tryz.prog f_BMul #[U a,U b] h K:=
 fn_sound Tryz.func165 (c:=codeOf Tryz.f165) (by kernel_rfl) (rs:=[.tmp 4,.tmp 5]) (by kernel_rfl) (fa:={ loops:=[],cuts:=[],orders:=[] })
  (cfg:={ n:=30,own:=[],lim:=none,fns:=[198],wr:=[] }) (args:=[U a,U b]) (by kernel_rfl) (Bodies.cons Tryz.call198 Bodies.nil) (Eq.mp (by kernel_rfl:BMul Tryz.prog a b h K=_) hvc)
def WClone(P:Program)(a:OA)(i j:Nat)(h:Heap)(K:Value->Heap->Prop):Prop:=
 Br (Option.isNone a) (K (.slice none 0 0) h)
 (wpH P (Instr.buildSlice 92 0 #[]) (fun k l=>∃ (b:OA) (c d:Nat),k= .slice b c d/\wpH P (Builtin.append_ #[92,92] 92 #[.slice b c d,.slice a i j]) (fun m n=>∃ (e:OA) (f g:Nat),m= .slice e f g/\K (.slice e f g) n) l) h)
theorem WClone_ok(a:OA)(b d:Nat)(hvc:WClone Tryz.prog a b d h K):FCall Tryz.prog f_WClone #[.slice a b d] h K:=
 fn_sound Tryz.func205 (c:=codeOf Tryz.f205) (by kernel_rfl) (rs:=[.tmp 2]) (by kernel_rfl) (fa:={ loops:=[],cuts:=[],orders:=[] })
  (cfg:={ n:=8,own:=[],lim:=none,fns:=[],wr:=[] }) (args:=[.slice a b d]) (by kernel_rfl) Bodies.nil (Eq.mp (by kernel_rfl:WClone Tryz.prog a b d h K=_) hvc)
def WRepeat(P:Program)(p:OA)(j q:Nat)(k:Int)(h:Heap)(K:Value->Heap->Prop):Prop:=
 Br (decide (k<(0:Int))) (False)
 (FCall P f_BMul #[U (wu64 (j:Int)),U (wu64 k)] h (fun r s=>∃ (l:Int) (e:Int),r= .tuple #[U l,U e]/\Br (decide (l>(0:Int))) (False)
 (Br (decide (e>(9223372036854775807:Int))) (False)
 (wpH P (Instr.makeSlice 92 (I (wi64 e)) (I (wi64 e))) (fun t u=>∃ (d:OA) (c b:Nat),t= .slice d c b/\wpH P (Builtin.copy_ #[92,92] 3 #[.slice d c b,.slice p j q]) (fun v w=>∃ (m:Int),v=I m/\∃ (g:List Value->Heap->Prop) (n:List Value->Heap->Nat),g [I m] w/\
 ∀ (a:Int),∀ f,g [I a] f->Br (decide (a<(c:Int))) ((0<=a/\a<=(c:Int))/\(0<=a/\a<=(b:Int))/\wpH P (Builtin.copy_ #[92,92] 3 #[.slice (cutA d b (a.toNat) 1) (c-(a.toNat)) (b-(a.toNat)),.slice (cutA d b 0 1) ((a.toNat)-0) (b-0)]) (fun x o=>∃ (i:Int),x=I i/\g [I (wi64 (a+i))] o/\n [I (wi64 (a+i))] o<n [I a] f) f)
 (K (.slice d c b) f)) u) s))))
theorem WRepeat_ok(a:OA)(b d:Nat)(e:Int)(hvc:WRepeat Tryz.prog a b d e h K):FCall Tryz.prog f_WRepeat #[.slice a b d,I e] h K:=
 fn_sound Tryz.func254 (c:=codeOf Tryz.f254) (by kernel_rfl) (rs:=[.tmp 4]) (by kernel_rfl) (fa:={ loops:=[(8,{ slots:=[8],owns:=[],zs:=[.int .i64 0],lim:={ slots:=([8]++List.range' 34 13),keys:=[] } })],cuts:=[],orders:=[(9,((List.range' 0 10),[[],[],[],[1,2],[],[],[4,5],[1,2,3,4,5,6],(List.range' 0 8),(List.range' 0 9)]))] })
  (cfg:={ n:=48,own:=[],lim:=none,fns:=[165],wr:=[] }) (args:=[.slice a b d,I e]) (by kernel_rfl) (Bodies.cons Tryz.call165 Bodies.nil) (Eq.mp (by kernel_rfl:WRepeat Tryz.prog a b d e h K=_) hvc)
def CmpInt(P:Program)(b:Int)(c:Int)(h:Heap)(K:Value->Heap->Prop):Prop:=
 FCall P f_IsNaNInt #[I b] h (fun f g=>∃ (e:Bool),f= .bool e/\FCall P f_IsNaNInt #[I c] g (fun i a=>∃ (d:Bool),i= .bool d/\Br e (Br d (K (I 0) a)
 (K (I (-1:Int)) a))
 (Br d (K (I 1) a)
 (Br (decide (b<c)) (K (I (-1:Int)) a)
 (Br (decide (b>c)) (K (I 1) a)
 (K (I 0) a))))))
theorem CmpInt_ok(a:Int)(b:Int)(hvc:CmpInt Tryz.prog a b h K):FCall Tryz.prog f_CmpInt #[I a,I b] h K:=
 fn_sound Tryz.func212 (c:=codeOf Tryz.f212) (by kernel_rfl) (rs:=[.tmp 4]) (by kernel_rfl) (fa:={ loops:=[],cuts:=[],orders:=[] })
  (cfg:={ n:=20,own:=[],lim:=none,fns:=[233],wr:=[] }) (args:=[I a,I b]) (by kernel_rfl) (Bodies.cons Tryz.call233 Bodies.nil) (Eq.mp (by kernel_rfl:CmpInt Tryz.prog a b h K=_) hvc)
def IsNaNInt(P:Program)(a:Int)(h:Heap)(K:Value->Heap->Prop):Prop:=
 K (.bool (a != a)) h
theorem IsNaNInt_ok(a:Int)(hvc:IsNaNInt Tryz.prog a h K):FCall Tryz.prog f_IsNaNInt #[I a] h K:=
 fn_sound Tryz.func233 (c:=codeOf Tryz.f233) (by kernel_rfl) (rs:=[.tmp 2]) (by kernel_rfl) (fa:={ loops:=[],cuts:=[],orders:=[] })
  (cfg:={ n:=6,own:=[],lim:=none,fns:=[],wr:=[] }) (args:=[I a]) (by kernel_rfl) Bodies.nil (Eq.mp (by kernel_rfl:IsNaNInt Tryz.prog a h K=_) hvc)
def CmpUint64(P:Program)(b:Int)(c:Int)(h:Heap)(K:Value->Heap->Prop):Prop:=
 FCall P f_IsNaNUint64 #[U b] h (fun f g=>∃ (e:Bool),f= .bool e/\FCall P f_IsNaNUint64 #[U c] g (fun i a=>∃ (d:Bool),i= .bool d/\Br e (Br d (K (I 0) a)
 (K (I (-1:Int)) a))
 (Br d (K (I 1) a)
 (Br (decide (b<c)) (K (I (-1:Int)) a)
 (Br (decide (b>c)) (K (I 1) a)
 (K (I 0) a))))))
theorem CmpUint64_ok(a:Int)(b:Int)(hvc:CmpUint64 Tryz.prog a b h K):FCall Tryz.prog f_CmpUint64 #[U a,U b] h K:=
 fn_sound Tryz.func213 (c:=codeOf Tryz.f213) (by kernel_rfl) (rs:=[.tmp 4]) (by kernel_rfl) (fa:={ loops:=[],cuts:=[],orders:=[] })
  (cfg:={ n:=20,own:=[],lim:=none,fns:=[234],wr:=[] }) (args:=[U a,U b]) (by kernel_rfl) (Bodies.cons Tryz.call234 Bodies.nil) (Eq.mp (by kernel_rfl:CmpUint64 Tryz.prog a b h K=_) hvc)
def IsNaNUint64(P:Program)(a:Int)(h:Heap)(K:Value->Heap->Prop):Prop:=
 K (.bool (a != a)) h
theorem IsNaNUint64_ok(a:Int)(hvc:IsNaNUint64 Tryz.prog a h K):FCall Tryz.prog f_IsNaNUint64 #[U a] h K:=
 fn_sound Tryz.func234 (c:=codeOf Tryz.f234) (by kernel_rfl) (rs:=[.tmp 2]) (by kernel_rfl) (fa:={ loops:=[],cuts:=[],orders:=[] })
  (cfg:={ n:=6,own:=[],lim:=none,fns:=[],wr:=[] }) (args:=[U a]) (by kernel_rfl) Bodies.nil (Eq.mp (by kernel_rfl:IsNaNUint64 Tryz.prog a h K=_) hvc)
end Go.Proofs.YthilnfgnpdeofaaGreatDoor
