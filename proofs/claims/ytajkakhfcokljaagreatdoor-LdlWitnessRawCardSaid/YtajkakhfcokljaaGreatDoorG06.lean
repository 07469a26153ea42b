/-
  Texts of this proof, merged by a program of ours.
-/
import Derived.Test.YtajkakhfcokljaaGreatDoorProg
import Derived.Test.YtajkakhfcokljaaGreatDoorG05
namespace Go.Proofs.YtajkakhfcokljaaGreatDoor
open Go
set_option maxRecDepth 100000
set_option linter.unusedVariables false
variable {h:Heap} {K:Value->Heap->Prop}
abbrev I0:Nat:=200
abbrev T7:Nat:=194
abbrev H1:Nat:=201
abbrev R3:Nat:=233
abbrev R9:Nat:=231
abbrev M0:Nat:=222
abbrev G1:Nat:=223
abbrev R1:Nat:=259
abbrev Z7:Nat:=264
abbrev Z8:Nat:=227
abbrev R8:Nat:=267
abbrev D3:Nat:=203
abbrev At:Nat:=232
abbrev Dt:Nat:=265
abbrev V9:Nat:=160
abbrev N3:Nat:=219
abbrev I8:Nat:=246
abbrev Hw:Nat:=266
abbrev Au:Nat:=260
abbrev R2:Nat:=261
abbrev Hv:Nat:=263
abbrev Aw:Nat:=245
abbrev S1:Nat:=262
abbrev S0:Nat:=269
abbrev Lc:Nat:=221
abbrev Ds:Nat:=180
abbrev Hu:Nat:=218
abbrev K8:Nat:=247
abbrev O2:Nat:=197
abbrev Pf:Nat:=139
abbrev Nw:Nat:=114
abbrev Dr:Nat:=179
abbrev K3:Nat:=216
abbrev K7:Nat:=244
abbrev U4:Nat:=198
abbrev G7:Nat:=226
abbrev S2:Nat:=250
abbrev Z9:Nat:=199
abbrev P0:Nat:=202
abbrev Uo:Nat:=147
abbrev Fn:Nat:=150
abbrev Pb:Nat:=149
abbrev Pc:Nat:=184
abbrev E9:Nat:=138
abbrev Z6:Nat:=116
abbrev Up:Nat:=192
abbrev Jj:Nat:=145
abbrev Sf:Nat:=183
abbrev Cl:Nat:=154
abbrev Pd:Nat:=195
abbrev Ck:Nat:=140
abbrev B4f:Nat:=85
abbrev Ml:Nat:=115
abbrev A6m:Nat:=193
abbrev B5i:Nat:=286
abbrev B8p:Nat:=287
abbrev Ab:Nat:=152
abbrev Dv:Nat:=196
abbrev Us:Nat:=153
abbrev Uq:Nat:=220
abbrev Ea:Nat:=206
abbrev Dz:Nat:=190
abbrev J1:Nat:=239
abbrev K4:Nat:=249
abbrev Ny:Nat:=254
abbrev Q5:Nat:=228
abbrev Af:Nat:=248
abbrev A6r:Nat:=134
abbrev Du:Nat:=217
abbrev Pe:Nat:=270
abbrev Uy:Nat:=229
abbrev Gw:Nat:=251
abbrev Hz:Nat:=230
abbrev Ae:Nat:=252
abbrev U1:Nat:=100
abbrev C0:Nat:=130
theorem N7:SliceT Tryz.prog U1 C0 (U 0) 1 8:=⟨by kernel_rfl,by kernel_rfl,rfl,by decide⟩
theorem F1:Tryz.prog.cellsOf C0=1/\(Tryz.prog.info? C0).isSome=true:=⟨by kernel_rfl,by kernel_rfl⟩
abbrev A4u:Nat:=137
abbrev Dg:Nat:=100
theorem A1q:SliceT Tryz.prog A4u Dg (.slice none 0 0) 1 24:=⟨by kernel_rfl,by kernel_rfl,rfl,by decide⟩
def B65(P:Program)(d:OA)(f c:Nat)(h:Heap)(K:Value->Heap->Prop):Prop:=
 ∃ (e:List Value->Heap->Prop) (g:List Value->Heap->Nat),e [I (f:Int)] h/\
 ∀ (a:Int),∀ b,e [I a] b->Br (decide (a>(0:Int))) (∃ j,d=some j/\0<=B4 (a-1)/\B4 (a-1)<(f:Int)/\∃ (i:Int),b.cell? (j.add ((B4 (a-1)).toNat*1))=some (U i)/\Br (i==(0:Int)) (e [I (B4 (a-1))] b/\g [I (B4 (a-1))] b<g [I a] b)
 ((0<=a/\a<=(c:Int))/\K (.slice (J6 d c 0 1) ((a.toNat)-0) (c-0)) b))
 ((0<=a/\a<=(c:Int))/\K (.slice (J6 d c 0 1) ((a.toNat)-0) (c-0)) b)
theorem B0l(a:OA)(b d:Nat)(hvc:B65 Tryz.prog a b d h K):FCall Tryz.prog I0 #[.slice a b d] h K:=
 B7 Tryz.func200 (c:=C2 Tryz.f200) (by kernel_rfl) (rs:=[.tmp 2]) (by kernel_rfl) (fa:=⟨[(2,⟨[3],[],[.int .i64 0],⟨([3]++Lrg 6 12),[]⟩⟩)],[],[],[],[]⟩)
  (cfg:=⟨21,[],none,[],[],false⟩) (args:=[.slice a b d]) (by kernel_rfl) Bodies.nil (Eq.mp (by kernel_rfl) hvc)
def Yo(P:Program)(a:Int)(h:Heap)(K:Value->Heap->Prop):Prop:=
 Br (a==(0:Int)) (K (.slice none 0 0) h)
 (wpH P (Instr.buildSlice 100 1 #[(0,U a)]) (fun e f=>∃ (b:OA) (c d:Nat),e= .slice b c d/\K (.slice b c d) f) h)
theorem Yn(a:Int)(hvc:Yo Tryz.prog a h K):FCall Tryz.prog T7 #[U a] h K:=
 B7 Tryz.func194 (c:=C2 Tryz.f194) (by kernel_rfl) (rs:=[.tmp 2]) (by kernel_rfl) (fa:=⟨[],[],[],[],[]⟩)
  (cfg:=⟨7,[],none,[],[],false⟩) (args:=[U a]) (by kernel_rfl) Bodies.nil (Eq.mp (by kernel_rfl) hvc)
def Kf(P:Program)(f:OA)(c x:Nat)(g:OA)(d y:Nat)(h:Heap)(K:Value->Heap->Prop):Prop:=
 Br ((c:Int) != (d:Int)) (FCall P Uy #[I (c:Int),I (d:Int)] h (fun u v=>∃ (i:Int),u=I i/\K (I i) v))
 (∃ (e:List Value->Heap->Prop) (j:List Value->Heap->Nat),e [I (B4 ((c:Int)-1))] h/\
 ∀ (a:Int),∀ b,e [I a] b->Br (decide (a>=(0:Int))) (∃ q,f=some q/\0<=a/\a<(c:Int)/\∃ (k:Int),b.cell? (q.add (a.toNat*1))=some (U k)/\∃ r,g=some r/\0<=a/\a<(d:Int)/\∃ (l:Int),b.cell? (r.add (a.toNat*1))=some (U l)/\Br (k != l) (∃ s,f=some s/\0<=a/\a<(c:Int)/\∃ (m:Int),b.cell? (s.add (a.toNat*1))=some (U m)/\∃ t,g=some t/\0<=a/\a<(d:Int)/\∃ (n:Int),b.cell? (t.add (a.toNat*1))=some (U n)/\FCall P Hz #[U m,U n] b (fun w p=>∃ (o:Int),w=I o/\Heap.le b p/\K (I o) p))
 (e [I (B4 (a-1))] b/\j [I (B4 (a-1))] b<j [I a] b))
 (K (I 0) b))
theorem Nq(a:OA)(b d:Nat)(e:OA)(f g:Nat)(hvc:Kf Tryz.prog a b d e f g h K):FCall Tryz.prog H1 #[.slice a b d,.slice e f g] h K:=
 B7 Tryz.func201 (c:=C2 Tryz.f201) (by kernel_rfl) (rs:=[.tmp 4]) (by kernel_rfl) (fa:=⟨[(4,⟨[5],[],[.int .i64 0],⟨([4,5]++Lrg 19 22),[]⟩⟩)],[],[(6,((Lrg 0 9),[[],[],[0,1],[0,1,2],[],[],[4,5],[4,5,6],(Lrg 0 8)])),(7,((Lrg 0 10),[[],[],[0,1],[0,1,2],[],[],[4,5],[4,5,6],(Lrg 0 8),(Lrg 0 9)]))],[],[]⟩)
  (cfg:=⟨41,[],none,[229,230],[],false⟩) (args:=[.slice a b d,.slice e f g]) (by kernel_rfl) (B0 Tryz.call229 (B0 Tryz.call230 Bodies.nil)) (Eq.mp (by kernel_rfl) hvc)
def A2l(P:Program)(f:OA)(e H:Nat)(C:OA)(j J:Nat)(h:Heap)(K:Value->Heap->Prop):Prop:=
 ∃ (k:List Value->Heap->Prop) (o:List Value->Heap->Nat),k [U 0,I 0] h/\
 ∀ (g:Int) (a:Int),∀ c,k [U g,I a] c->Br (decide (a<(j:Int))) (∃ x,C=some x/\0<=a/\a<(j:Int)/\∃ (p:Int),c.cell? (x.add (a.toNat*1))=some (U p)/\∃ y,f=some y/\0<=a/\a<(e:Int)/\∃ (q:Int),c.cell? (y.add (a.toNat*1))=some (U q)/\ECall P Q5 #[U q,U p,U g] c (fun D E=>∃ (r:Int) (l:Int),D= .tuple #[U r,U l]/\∃ z,f=some z/\0<=a/\a<(e:Int)/\wpH P (Instr.storeAt 130 (.pointer (some (z.add (a.toNat*1)))) (U r)) (fun _ v=>k [U l,I (B4 (a+1))] v/\o [U l,I (B4 (a+1))] v<o [U g,I a] c) E))
 (∃ (m:List Value->Heap->Prop) (s:List Value->Heap->Nat),m [U g,I (j:Int)] c/\
 ∀ (i:Int) (b:Int),∀ d,m [U i,I b] d->Br (i != (0:Int)) (Br (decide (b<(e:Int))) (∃ A,f=some A/\0<=b/\b<(e:Int)/\∃ (t:Int),d.cell? (A.add (b.toNat*1))=some (U t)/\ECall P Q5 #[U t,U 0,U i] d (fun F G=>∃ (u:Int) (n:Int),F= .tuple #[U u,U n]/\∃ B,f=some B/\0<=b/\b<(e:Int)/\wpH P (Instr.storeAt 130 (.pointer (some (B.add (b.toNat*1)))) (U u)) (fun _ w=>m [U n,I (B4 (b+1))] w/\s [U n,I (B4 (b+1))] w<s [U i,I b] d) G))
 (K (.tuple #[]) d))
 (K (.tuple #[]) d))
theorem A18(a:OA)(b d:Nat)(e:OA)(f g:Nat)(hvc:A2l Tryz.prog a b d e f g h K):FCall Tryz.prog R3 #[.slice a b d,.slice e f g] h K:=
 B7 Tryz.func233 (c:=C2 Tryz.f233) (by kernel_rfl) (rs:=[]) (by kernel_rfl) (fa:=⟨[(2,⟨[4,10],[],[.int .u64 0,.int .i64 0],⟨([4,5,6]++Lrg 10 19),[]⟩⟩),(7,⟨[4,7],[],[.int .u64 0,.int .i64 0],⟨([4,7]++Lrg 31 22),[]⟩⟩)],[],[],[],[]⟩)
  (cfg:=⟨53,[],none,[],[],false⟩) (args:=[.slice a b d,.slice e f g]) (by kernel_rfl) Bodies.nil (Eq.mp (by kernel_rfl) hvc)
def Jy(P:Program)(f:OA)(e H:Nat)(C:OA)(j J:Nat)(h:Heap)(K:Value->Heap->Prop):Prop:=
 ∃ (k:List Value->Heap->Prop) (o:List Value->Heap->Nat),k [U 0,I 0] h/\
 ∀ (g:Int) (a:Int),∀ c,k [U g,I a] c->Br (decide (a<(j:Int))) (∃ x,C=some x/\0<=a/\a<(j:Int)/\∃ (p:Int),c.cell? (x.add (a.toNat*1))=some (U p)/\∃ y,f=some y/\0<=a/\a<(e:Int)/\∃ (q:Int),c.cell? (y.add (a.toNat*1))=some (U q)/\ECall P Af #[U q,U p,U g] c (fun D E=>∃ (r:Int) (l:Int),D= .tuple #[U r,U l]/\∃ z,f=some z/\0<=a/\a<(e:Int)/\wpH P (Instr.storeAt 130 (.pointer (some (z.add (a.toNat*1)))) (U r)) (fun _ v=>k [U l,I (B4 (a+1))] v/\o [U l,I (B4 (a+1))] v<o [U g,I a] c) E))
 (∃ (m:List Value->Heap->Prop) (s:List Value->Heap->Nat),m [U g,I (j:Int)] c/\
 ∀ (i:Int) (b:Int),∀ d,m [U i,I b] d->Br (i != (0:Int)) (Br (decide (b<(e:Int))) (∃ A,f=some A/\0<=b/\b<(e:Int)/\∃ (t:Int),d.cell? (A.add (b.toNat*1))=some (U t)/\ECall P Af #[U t,U 0,U i] d (fun F G=>∃ (u:Int) (n:Int),F= .tuple #[U u,U n]/\∃ B,f=some B/\0<=b/\b<(e:Int)/\wpH P (Instr.storeAt 130 (.pointer (some (B.add (b.toNat*1)))) (U u)) (fun _ w=>m [U n,I (B4 (b+1))] w/\s [U n,I (B4 (b+1))] w<s [U i,I b] d) G))
 (K (.tuple #[]) d))
 (K (.tuple #[]) d))
theorem Nk(a:OA)(b d:Nat)(e:OA)(f g:Nat)(hvc:Jy Tryz.prog a b d e f g h K):FCall Tryz.prog R9 #[.slice a b d,.slice e f g] h K:=
 B7 Tryz.func231 (c:=C2 Tryz.f231) (by kernel_rfl) (rs:=[]) (by kernel_rfl) (fa:=⟨[(2,⟨[4,10],[],[.int .u64 0,.int .i64 0],⟨([4,5,6]++Lrg 10 19),[]⟩⟩),(7,⟨[4,7],[],[.int .u64 0,.int .i64 0],⟨([4,7]++Lrg 31 22),[]⟩⟩)],[],[],[],[]⟩)
  (cfg:=⟨53,[],none,[],[],false⟩) (args:=[.slice a b d,.slice e f g]) (by kernel_rfl) Bodies.nil (Eq.mp (by kernel_rfl) hvc)
def Ys(P:Program)(m:OA)(e n:Nat)(o:OA)(f p:Nat)(h:Heap)(K:Value->Heap->Prop):Prop:=
 ∃ (g:List Value->Heap->Prop),(Br (decide ((e:Int)<(f:Int))) (g [.slice o f p,.slice m e n] h)
 (g [.slice m e n,.slice o f p] h))/\
 ∀ (i:OA) (a j:Nat) (q:OA) (k r:Nat),∀ l,g [.slice i a j,.slice q k r] l->Br ((k:Int)==(0:Int)) (K (.slice i a j) l)
 (wpH P (Instr.makeSlice 100 (I (B4 ((a:Int)+1))) (I (B4 ((a:Int)+1)))) (fun w x=>∃ (b:OA) (c d:Nat),w= .slice b c d/\wpH P (Builtin.copy_ #[100,100] 3 #[.slice b c d,.slice i a j]) (fun y z=>∃ (v:Int),y=I v/\FCall P R3 #[.slice b c d,.slice q k r] z (fun A B=>A= .tuple #[]/\FCall P I0 #[.slice b c d] B (fun C D=>∃ (s:OA) (t u:Nat),C= .slice s t u/\K (.slice s t u) D))) x) l)
theorem Yr(a:OA)(b d:Nat)(e:OA)(f g:Nat)(hvc:Ys Tryz.prog a b d e f g h K):FCall Tryz.prog M0 #[.slice a b d,.slice e f g] h K:=
 B7 Tryz.func222 (c:=C2 Tryz.f222) (by kernel_rfl) (rs:=[.tmp 4]) (by kernel_rfl) (fa:=⟨[],[(3,⟨[0,1],[],[.slice none 0 0,.slice none 0 0],⟨[0,1,6,7,8,9,10,11,12],[]⟩⟩)],[],[],[]⟩)
  (cfg:=⟨29,[],none,[200,233],[233],false⟩) (args:=[.slice a b d,.slice e f g]) (by kernel_rfl) (B0 Tryz.call200 (B0 Tryz.call233 Bodies.nil)) (Eq.mp (by kernel_rfl) hvc)
def Hf(P:Program)(d:OA)(e f:Nat)(l:OA)(g m:Nat)(h:Heap)(K:Value->Heap->Prop):Prop:=
 Br ((g:Int)==(0:Int)) (K (.slice d e f) h)
 (FCall P Du #[.slice d e f] h (fun n o=>∃ (a:OA) (b c:Nat),n= .slice a b c/\FCall P R9 #[.slice a b c,.slice l g m] o (fun p q=>p= .tuple #[]/\FCall P I0 #[.slice a b c] q (fun r s=>∃ (i:OA) (j k:Nat),r= .slice i j k/\K (.slice i j k) s))))
theorem Lp(a:OA)(b d:Nat)(e:OA)(f g:Nat)(hvc:Hf Tryz.prog a b d e f g h K):FCall Tryz.prog G1 #[.slice a b d,.slice e f g] h K:=
 B7 Tryz.func223 (c:=C2 Tryz.f223) (by kernel_rfl) (rs:=[.tmp 4]) (by kernel_rfl) (fa:=⟨[],[],[],[],[]⟩)
  (cfg:=⟨17,[],none,[200,217,231],[231],false⟩) (args:=[.slice a b d,.slice e f g]) (by kernel_rfl) (B0 Tryz.call200 (B0 Tryz.call217 (B0 Tryz.call231 Bodies.nil))) (Eq.mp (by kernel_rfl) hvc)
def Ss(P:Program)(g:OA)(c k:Nat)(b:Int)(h:Heap)(K:Value->Heap->Prop):Prop:=
 Br ((c:Int)==(0:Int)) (K (.slice g c k) h)
 (Br (b==(0:Int)) (K (.slice g c k) h)
 (wpH P (Instr.makeSlice 100 (I (B4 ((B4 ((c:Int)+(B4 (B9 (Int.tdiv b (64:Int))))))+1))) (I (B4 ((B4 ((c:Int)+(B4 (B9 (Int.tdiv b (64:Int))))))+1)))) (fun w x=>∃ (e:OA) (f l:Nat),w= .slice e f l/\∃ (i:List Value->Heap->Prop) (m:List Value->Heap->Nat),i [I 0] x/\
 ∀ (a:Int),∀ d,i [I a] d->Br (decide (a<(c:Int))) (∃ s,g=some s/\0<=a/\a<(c:Int)/\∃ (j:Int),d.cell? (s.add (a.toNat*1))=some (U j)/\∃ t,e=some t/\0<=B4 (a+(B4 (B9 (Int.tdiv b (64:Int)))))/\B4 (a+(B4 (B9 (Int.tdiv b (64:Int)))))<(f:Int)/\∃ (n:Int),d.cell? (t.add ((B4 (a+(B4 (B9 (Int.tdiv b (64:Int)))))).toNat*1))=some (U n)/\Br (decide (Int.tmod b (64:Int)<0)) False
 (∃ u,e=some u/\0<=B4 (a+(B4 (B9 (Int.tdiv b (64:Int)))))/\B4 (a+(B4 (B9 (Int.tdiv b (64:Int)))))<(f:Int)/\wpH P (Instr.storeAt 130 (.pointer (some (u.add ((B4 (a+(B4 (B9 (Int.tdiv b (64:Int)))))).toNat*1)))) (U (bor .u64 n (B9 (j*2^(min (Int.tmod b (64:Int)).toNat 64)))))) (fun _ y=>Br (decide (B9 ((64:Int)-(Int.tmod b (64:Int)))<0)) False
 (∃ v,e=some v/\0<=B4 ((B4 (a+(B4 (B9 (Int.tdiv b (64:Int))))))+1)/\B4 ((B4 (a+(B4 (B9 (Int.tdiv b (64:Int))))))+1)<(f:Int)/\wpH P (Instr.storeAt 130 (.pointer (some (v.add ((B4 ((B4 (a+(B4 (B9 (Int.tdiv b (64:Int))))))+1)).toNat*1)))) (U (Int.fdiv j (2^(min (B9 ((64:Int)-(Int.tmod b (64:Int)))).toNat 64))))) (fun _ r=>i [I (B4 (a+1))] r/\m [I (B4 (a+1))] r<m [I a] d) y)) d))
 (FCall P I0 #[.slice e f l] d (fun z A=>∃ (o:OA) (p q:Nat),z= .slice o p q/\K (.slice o p q) A))) h))
theorem Vm(a:OA)(b d:Nat)(e:Int)(hvc:Ss Tryz.prog a b d e h K):FCall Tryz.prog R1 #[.slice a b d,U e] h K:=
 B7 Tryz.func259 (c:=C2 Tryz.f259) (by kernel_rfl) (rs:=[.tmp 4]) (by kernel_rfl) (fa:=⟨[(6,⟨[31],[],[.int .i64 0],⟨([8,9]++Lrg 31 27),[]⟩⟩)],[],[],[],[]⟩)
  (cfg:=⟨60,[],none,[200],[],false⟩) (args:=[.slice a b d,U e]) (by kernel_rfl) (B0 Tryz.call200 Bodies.nil) (Eq.mp (by kernel_rfl) hvc)
def Qg(P:Program)(k:OA)(c C:Nat)(b:Int)(h:Heap)(K:Value->Heap->Prop):Prop:=
 Br (decide ((B9 (Int.tdiv b (64:Int)))>=(B9 (c:Int)))) (K (.slice none 0 0) h)
 (wpH P (Instr.makeSlice 100 (I (B4 ((c:Int)-(B4 (B9 (Int.tdiv b (64:Int))))))) (I (B4 ((c:Int)-(B4 (B9 (Int.tdiv b (64:Int)))))))) (fun y z=>∃ (f:OA) (d l:Nat),y= .slice f d l/\∃ (i:List Value->Heap->Prop) (j:List Value->Heap->Nat),i [I 0] z/\
 ∀ (a:Int),∀ e,i [I a] e->Br (decide (a<(d:Int))) (∃ t,k=some t/\0<=B4 (a+(B4 (B9 (Int.tdiv b (64:Int)))))/\B4 (a+(B4 (B9 (Int.tdiv b (64:Int)))))<(c:Int)/\∃ (m:Int),e.cell? (t.add ((B4 (a+(B4 (B9 (Int.tdiv b (64:Int)))))).toNat*1))=some (U m)/\Br (decide (Int.tmod b (64:Int)<0)) False
 (∃ u,f=some u/\0<=a/\a<(d:Int)/\wpH P (Instr.storeAt 130 (.pointer (some (u.add (a.toNat*1)))) (U (Int.fdiv m (2^(min (Int.tmod b (64:Int)).toNat 64))))) (fun _ g=>Br (decide ((B4 ((B4 (a+(B4 (B9 (Int.tdiv b (64:Int))))))+1))<(c:Int))) (∃ v,f=some v/\0<=a/\a<(d:Int)/\∃ (n:Int),g.cell? (v.add (a.toNat*1))=some (U n)/\∃ w,k=some w/\0<=B4 ((B4 (a+(B4 (B9 (Int.tdiv b (64:Int))))))+1)/\B4 ((B4 (a+(B4 (B9 (Int.tdiv b (64:Int))))))+1)<(c:Int)/\∃ (o:Int),g.cell? (w.add ((B4 ((B4 (a+(B4 (B9 (Int.tdiv b (64:Int))))))+1)).toNat*1))=some (U o)/\Br (decide (B9 ((64:Int)-(Int.tmod b (64:Int)))<0)) False
 (∃ x,f=some x/\0<=a/\a<(d:Int)/\wpH P (Instr.storeAt 130 (.pointer (some (x.add (a.toNat*1)))) (U (bor .u64 n (B9 (o*2^(min (B9 ((64:Int)-(Int.tmod b (64:Int)))).toNat 64)))))) (fun _ s=>i [I (B4 (a+1))] s/\j [I (B4 (a+1))] s<j [I a] e) g))
 (i [I (B4 (a+1))] g/\j [I (B4 (a+1))] g<j [I a] e)) e))
 (FCall P I0 #[.slice f d l] e (fun A B=>∃ (p:OA) (q r:Nat),A= .slice p q r/\K (.slice p q r) B))) h)
theorem Rk(a:OA)(b d:Nat)(e:Int)(hvc:Qg Tryz.prog a b d e h K):FCall Tryz.prog Z7 #[.slice a b d,U e] h K:=
 B7 Tryz.func264 (c:=C2 Tryz.f264) (by kernel_rfl) (rs:=[.tmp 4]) (by kernel_rfl) (fa:=⟨[(6,⟨[27],[],[.int .i64 0],⟨([8]++Lrg 27 38),[]⟩⟩)],[],[(10,((Lrg 0 17),[[],[],[0,1],[0,1,2],[],[],[],[5,6],[5,6,7],[4,5,6,7,8],[4,5,6,7,8,9],[],[11],(Lrg 4 9),(Lrg 0 14),(Lrg 0 15),(Lrg 0 16)]))],[],[]⟩)
  (cfg:=⟨67,[],none,[200],[],false⟩) (args:=[.slice a b d,U e]) (by kernel_rfl) (B0 Tryz.call200 Bodies.nil) (Eq.mp (by kernel_rfl) hvc)
def Qo(P:Program)(i:OA)(j D:Nat)(w:OA)(k E:Nat)(x:Int)(h:Heap)(K:Value->Heap->Prop):Prop:=
 ∃ (d:List Value->Heap->Prop) (l:List Value->Heap->Nat),d [U 0,I 0] h/\
 ∀ (c:Int) (a:Int),∀ b,d [U c,I a] b->Br (decide (a<(k:Int))) (∃ t,w=some t/\0<=a/\a<(k:Int)/\∃ (m:Int),b.cell? (t.add (a.toNat*1))=some (U m)/\FCall P Dz #[U m,U x] b (fun y z=>∃ (e:Int) (n:Int),y= .tuple #[U e,U n]/\ECall P Q5 #[U n,U c,U 0] z (fun A r=>∃ (o:Int) (f:Int),A= .tuple #[U o,U f]/\∃ u,i=some u/\0<=a/\a<(j:Int)/\∃ (p:Int),r.cell? (u.add (a.toNat*1))=some (U p)/\ECall P Q5 #[U p,U o,U 0] r (fun B C=>∃ (q:Int) (g:Int),B= .tuple #[U q,U g]/\∃ v,i=some v/\0<=a/\a<(j:Int)/\wpH P (Instr.storeAt 130 (.pointer (some (v.add (a.toNat*1)))) (U q)) (fun _ s=>d [U (B9 ((B9 (e+f))+g)),I (B4 (a+1))] s/\l [U (B9 ((B9 (e+f))+g)),I (B4 (a+1))] s<l [U c,I a] b) C))))
 (K (U c) b)
theorem Ro(a:OA)(b d:Nat)(e:OA)(f g:Nat)(i:Int)(hvc:Qo Tryz.prog a b d e f g i h K):FCall Tryz.prog Z8 #[.slice a b d,.slice e f g,U i] h K:=
 B7 Tryz.func227 (c:=C2 Tryz.f227) (by kernel_rfl) (rs:=[.tmp 6]) (by kernel_rfl) (fa:=⟨[(3,⟨[7,16],[],[.int .u64 0,.int .i64 0],⟨([7,8,9,10,11,12,13]++Lrg 16 36),[]⟩⟩)],[],[],[],[]⟩)
  (cfg:=⟨53,[],none,[190],[],false⟩) (args:=[.slice a b d,.slice e f g,U i]) (by kernel_rfl) (B0 Tryz.call190 Bodies.nil) (Eq.mp (by kernel_rfl) hvc)
def En(P:Program)(i:OA)(j D:Nat)(w:OA)(k E:Nat)(x:Int)(h:Heap)(K:Value->Heap->Prop):Prop:=
 ∃ (d:List Value->Heap->Prop) (l:List Value->Heap->Nat),d [U 0,I 0] h/\
 ∀ (c:Int) (a:Int),∀ b,d [U c,I a] b->Br (decide (a<(k:Int))) (∃ t,w=some t/\0<=a/\a<(k:Int)/\∃ (m:Int),b.cell? (t.add (a.toNat*1))=some (U m)/\FCall P Dz #[U m,U x] b (fun y z=>∃ (e:Int) (n:Int),y= .tuple #[U e,U n]/\ECall P Q5 #[U n,U c,U 0] z (fun A r=>∃ (o:Int) (f:Int),A= .tuple #[U o,U f]/\∃ u,i=some u/\0<=a/\a<(j:Int)/\∃ (p:Int),r.cell? (u.add (a.toNat*1))=some (U p)/\ECall P Af #[U p,U o,U 0] r (fun B C=>∃ (q:Int) (g:Int),B= .tuple #[U q,U g]/\∃ v,i=some v/\0<=a/\a<(j:Int)/\wpH P (Instr.storeAt 130 (.pointer (some (v.add (a.toNat*1)))) (U q)) (fun _ s=>d [U (B9 ((B9 (e+f))+g)),I (B4 (a+1))] s/\l [U (B9 ((B9 (e+f))+g)),I (B4 (a+1))] s<l [U c,I a] b) C))))
 (K (U c) b)
theorem Ia(a:OA)(b d:Nat)(e:OA)(f g:Nat)(i:Int)(hvc:En Tryz.prog a b d e f g i h K):FCall Tryz.prog R8 #[.slice a b d,.slice e f g,U i] h K:=
 B7 Tryz.func267 (c:=C2 Tryz.f267) (by kernel_rfl) (rs:=[.tmp 6]) (by kernel_rfl) (fa:=⟨[(3,⟨[7,16],[],[.int .u64 0,.int .i64 0],⟨([7,8,9,10,11,12,13]++Lrg 16 36),[]⟩⟩)],[],[],[],[]⟩)
  (cfg:=⟨53,[],none,[190],[],false⟩) (args:=[.slice a b d,.slice e f g,U i]) (by kernel_rfl) (B0 Tryz.call190 Bodies.nil) (Eq.mp (by kernel_rfl) hvc)
def T9(P:Program)(K:Value->Heap->Prop)(s:OA)(b t:Nat)(u:OA)(g:Nat)(e:OA)(i d:Nat)(v:Heap):Prop:=
 ∃ (f:List Value->Heap->Prop) (j:List Value->Heap->Nat),f [I 0] v/\
 ∀ (a:Int),∀ c,f [I a] c->Br (decide (a<(g:Int))) (∃ q,u=some q/\0<=a/\a<(g:Int)/\∃ (k:Int),c.cell? (q.add (a.toNat*1))=some (U k)/\(0<=B4 (a+(b:Int))/\B4 (a+(b:Int))<=(d:Int))/\(0<=a/\a<=(((B4 (a+(b:Int))).toNat:Nat):Int))/\FCall P Z8 #[.slice (J6 e d (a.toNat) 1) (((B4 (a+(b:Int))).toNat)-(a.toNat)) (d-(a.toNat)),.slice s b t,U k] c (fun w x=>∃ (l:Int),w=U l/\∃ r,e=some r/\0<=B4 (a+(b:Int))/\B4 (a+(b:Int))<(i:Int)/\wpH P (Instr.storeAt 130 (.pointer (some (r.add ((B4 (a+(b:Int))).toNat*1)))) (U l)) (fun _ p=>f [I (B4 (a+1))] p/\j [I (B4 (a+1))] p<j [I a] c) x))
 (FCall P I0 #[.slice e i d] c (fun y z=>∃ (m:OA) (n o:Nat),y= .slice m n o/\K (.slice m n o) z))
def Bw(P:Program)(D:OA)(m E:Nat)(F:OA)(n G:Nat)(h:Heap)(K:Value->Heap->Prop):Prop:=
 ∃ (o:List Value->Heap->Prop),(Br (decide ((m:Int)<(n:Int))) (o [.slice F n G,.slice D m E] h)
 (o [.slice D m E,.slice F n G] h))/\
 ∀ (e:OA) (a c:Nat) (f:OA) (b d:Nat),∀ l,o [.slice e a c,.slice f b d] l->Br ((b:Int)==(0:Int)) (K (.slice none 0 0) l)
 (∃ (p:List Value->Heap->Prop),(Br ((b:Int)==(1:Int)) (∃ b3,f=some b3/\0<=(0:Int)/\(0:Int)<(b:Int)/\∃ (H:Int),l.cell? (b3.add (((0:Int)).toNat*1))=some (U H)/\p [.bool (H==(1:Int))] l)
 (p [.bool false] l))/\
 ∀ (J:Bool),∀ j,p [.bool J] j->Br J (K (.slice e a c) j)
 (Br (decide ((b:Int)<(40:Int))) (wpH P (Instr.makeSlice 100 (I (B4 ((a:Int)+(b:Int)))) (I (B4 ((a:Int)+(b:Int))))) (fun b6 b7=>∃ (L:OA) (M N:Nat),b6= .slice L M N/\T9 P K e a c f b L M N b7) j)
 (Br (decide ((b:Int)<=(B4 (Int.tdiv (B4 ((a:Int)+1)) (2:Int))))) (FCall P At #[.slice e a c,.slice f b d] j (fun b8 b9=>∃ (O:OA) (Q R:Nat),b8= .slice O Q R/\K (.slice O Q R) b9))
 ((0<=B4 (Int.tdiv (B4 ((a:Int)+1)) (2:Int))/\B4 (Int.tdiv (B4 ((a:Int)+1)) (2:Int))<=(c:Int))/\(0<=B4 (Int.tdiv (B4 ((a:Int)+1)) (2:Int))/\B4 (Int.tdiv (B4 ((a:Int)+1)) (2:Int))<=(a:Int))/\FCall P I0 #[.slice (J6 e c 0 1) (((B4 (Int.tdiv (B4 ((a:Int)+1)) (2:Int))).toNat)-0) (c-0)] j (fun c0 C=>∃ (q:OA) (r s:Nat),c0= .slice q r s/\Heap.le j C/\(0<=B4 (Int.tdiv (B4 ((a:Int)+1)) (2:Int))/\B4 (Int.tdiv (B4 ((a:Int)+1)) (2:Int))<=(d:Int))/\(0<=B4 (Int.tdiv (B4 ((a:Int)+1)) (2:Int))/\B4 (Int.tdiv (B4 ((a:Int)+1)) (2:Int))<=(b:Int))/\FCall P I0 #[.slice (J6 f d 0 1) (((B4 (Int.tdiv (B4 ((a:Int)+1)) (2:Int))).toNat)-0) (d-0)] C (fun c1 b2=>∃ (t:OA) (u v:Nat),c1= .slice t u v/\Heap.le C b2/\FCall P D3 #[.slice q r s,.slice t u v] b2 (fun c2 c3=>∃ (w:OA) (x y:Nat),c2= .slice w x y/\FCall P D3 #[.slice (J6 e c ((B4 (Int.tdiv (B4 ((a:Int)+1)) (2:Int))).toNat) 1) (a-((B4 (Int.tdiv (B4 ((a:Int)+1)) (2:Int))).toNat)) (c-((B4 (Int.tdiv (B4 ((a:Int)+1)) (2:Int))).toNat)),.slice (J6 f d ((B4 (Int.tdiv (B4 ((a:Int)+1)) (2:Int))).toNat) 1) (b-((B4 (Int.tdiv (B4 ((a:Int)+1)) (2:Int))).toNat)) (d-((B4 (Int.tdiv (B4 ((a:Int)+1)) (2:Int))).toNat))] c3 (fun c4 c5=>∃ (z:OA) (A B:Nat),c4= .slice z A B/\FCall P M0 #[.slice q r s,.slice (J6 e c ((B4 (Int.tdiv (B4 ((a:Int)+1)) (2:Int))).toNat) 1) (a-((B4 (Int.tdiv (B4 ((a:Int)+1)) (2:Int))).toNat)) (c-((B4 (Int.tdiv (B4 ((a:Int)+1)) (2:Int))).toNat))] c5 (fun c6 c7=>∃ (S:OA) (T V:Nat),c6= .slice S T V/\FCall P M0 #[.slice t u v,.slice (J6 f d ((B4 (Int.tdiv (B4 ((a:Int)+1)) (2:Int))).toNat) 1) (b-((B4 (Int.tdiv (B4 ((a:Int)+1)) (2:Int))).toNat)) (d-((B4 (Int.tdiv (B4 ((a:Int)+1)) (2:Int))).toNat))] c7 (fun c8 c9=>∃ (W:OA) (X Z:Nat),c8= .slice W X Z/\FCall P D3 #[.slice S T V,.slice W X Z] c9 (fun d0 d1=>∃ (a0:OA) (a1 a2:Nat),d0= .slice a0 a1 a2/\FCall P G1 #[.slice a0 a1 a2,.slice w x y] d1 (fun d2 d3=>∃ (a3:OA) (a4 a5:Nat),d2= .slice a3 a4 a5/\FCall P G1 #[.slice a3 a4 a5,.slice z A B] d3 (fun d4 d5=>∃ (a6:OA) (a7 a8:Nat),d4= .slice a6 a7 a8/\wpH P (Instr.makeSlice 100 (I (B4 ((a:Int)+(b:Int)))) (I (B4 ((a:Int)+(b:Int))))) (fun d6 d7=>∃ (k:OA) (g i:Nat),d6= .slice k g i/\wpH P (Builtin.copy_ #[100,100] 3 #[.slice k g i,.slice w x y]) (fun d8 d9=>∃ (b4:Int),d8=I b4/\(0<=B4 ((2:Int)*(B4 (Int.tdiv (B4 ((a:Int)+1)) (2:Int))))/\B4 ((2:Int)*(B4 (Int.tdiv (B4 ((a:Int)+1)) (2:Int))))<=(g:Int))/\wpH P (Builtin.copy_ #[100,100] 3 #[.slice (J6 k i ((B4 ((2:Int)*(B4 (Int.tdiv (B4 ((a:Int)+1)) (2:Int))))).toNat) 1) (g-((B4 ((2:Int)*(B4 (Int.tdiv (B4 ((a:Int)+1)) (2:Int))))).toNat)) (i-((B4 ((2:Int)*(B4 (Int.tdiv (B4 ((a:Int)+1)) (2:Int))))).toNat)),.slice z A B]) (fun e0 e1=>∃ (b5:Int),e0=I b5/\(0<=B4 (Int.tdiv (B4 ((a:Int)+1)) (2:Int))/\B4 (Int.tdiv (B4 ((a:Int)+1)) (2:Int))<=(g:Int))/\FCall P R3 #[.slice (J6 k i ((B4 (Int.tdiv (B4 ((a:Int)+1)) (2:Int))).toNat) 1) (g-((B4 (Int.tdiv (B4 ((a:Int)+1)) (2:Int))).toNat)) (i-((B4 (Int.tdiv (B4 ((a:Int)+1)) (2:Int))).toNat)),.slice a6 a7 a8] e1 (fun e2 e3=>e2= .tuple #[]/\FCall P I0 #[.slice k g i] e3 (fun e4 e5=>∃ (a9:OA) (b0 b1:Nat),e4= .slice a9 b0 b1/\K (.slice a9 b0 b1) e5))) d9) d7) d5)))))))))))))
theorem Cy(a:OA)(b d:Nat)(e:OA)(f g:Nat)(hvc:Bw Tryz.prog a b d e f g h K):FCall Tryz.prog D3 #[.slice a b d,.slice e f g] h K:=
 B7 Tryz.func203 (c:=C2 Tryz.f203) (by kernel_rfl) (rs:=[.tmp 4]) (by kernel_rfl) (fa:=⟨[(11,⟨[55],[],[.int .i64 0],⟨([7,8]++Lrg 55 22),[]⟩⟩)],[(3,⟨[0,1],[],[.slice none 0 0,.slice none 0 0],⟨[0,1,17,18,19,20,21,22,23],[]⟩⟩),(7,⟨[32],[],[.bool false],⟨(Lrg 32 10),[]⟩⟩)],[(18,([0,1,2,4,5,6,3,7,8],[[],[],[0,1],[0,1,2],[],[],[4,5],[0,1,2,3],(Lrg 0 8)])),(19,([0,1,2,4,5,6,3,7,8],[[],[],[0,1],[0,1,2],[],[],[4,5],[0,1,2,3],(Lrg 0 8)]))],[],[]⟩)
  (cfg:=⟨141,[],none,[200,203,222,223,227,232,233],[227,233],false⟩) (args:=[.slice a b d,.slice e f g]) (by kernel_rfl) (B0 Tryz.call200 (B0 Tryz.call203 (B0 Tryz.call222 (B0 Tryz.call223 (B0 Tryz.call227 (B0 Tryz.call232 (B0 Tryz.call233 Bodies.nil))))))) (Eq.mp (by kernel_rfl) hvc)
def Jz(P:Program)(x:OA)(c g:Nat)(y:OA)(b z:Nat)(h:Heap)(K:Value->Heap->Prop):Prop:=
 wpH P (Instr.makeSlice 100 (I (B4 ((c:Int)+(b:Int)))) (I (B4 ((c:Int)+(b:Int))))) (fun A B=>∃ (i:OA) (e f:Nat),A= .slice i e f/\∃ (j:List Value->Heap->Prop) (l:List Value->Heap->Nat),j [I 0] B/\
 ∀ (a:Int),∀ d,j [I a] d->Br (decide (a<(c:Int))) ((0<=a/\a<=(e:Int))/\(0<=(if (c:Int)<(B4 (a+(b:Int))) then (c:Int) else B4 (a+(b:Int)))/\(if (c:Int)<(B4 (a+(b:Int))) then (c:Int) else B4 (a+(b:Int)))<=(g:Int))/\(0<=a/\a<=((((if (c:Int)<(B4 (a+(b:Int))) then (c:Int) else B4 (a+(b:Int)))).toNat:Nat):Int))/\FCall P I0 #[.slice (J6 x g (a.toNat) 1) ((((if (c:Int)<(B4 (a+(b:Int))) then (c:Int) else B4 (a+(b:Int)))).toNat)-(a.toNat)) (g-(a.toNat))] d (fun C k=>∃ (m:OA) (n o:Nat),C= .slice m n o/\Heap.le d k/\FCall P D3 #[.slice m n o,.slice y b z] k (fun D v=>∃ (p:OA) (q r:Nat),D= .slice p q r/\Heap.le k v/\FCall P R3 #[.slice (J6 i f (a.toNat) 1) (e-(a.toNat)) (f-(a.toNat)),.slice p q r] v (fun E w=>E= .tuple #[]/\j [I (B4 (a+(b:Int)))] w/\l [I (B4 (a+(b:Int)))] w<l [I a] d))))
 (FCall P I0 #[.slice i e f] d (fun F G=>∃ (s:OA) (t u:Nat),F= .slice s t u/\K (.slice s t u) G))) h
theorem Nl(a:OA)(b d:Nat)(e:OA)(f g:Nat)(hvc:Jz Tryz.prog a b d e f g h K):FCall Tryz.prog At #[.slice a b d,.slice e f g] h K:=
 B7 Tryz.func232 (c:=C2 Tryz.f232) (by kernel_rfl) (rs:=[.tmp 4]) (by kernel_rfl) (fa:=⟨[(3,⟨[6],[],[.int .i64 0],⟨([6,7]++Lrg 14 26),[]⟩⟩)],[],[(6,([0,1,2,3,4,5,6,8,7,9,10],[[],[],[0,1],[],[],[],[3,4,5],[3,4,5,6],[],[3,4,5,6,7,8],(Lrg 0 10)]))],[],[]⟩)
  (cfg:=⟨42,[],none,[200,203,233],[233],false⟩) (args:=[.slice a b d,.slice e f g]) (by kernel_rfl) (B0 Tryz.call200 (B0 Tryz.call203 (B0 Tryz.call233 Bodies.nil))) (Eq.mp (by kernel_rfl) hvc)
def Qm(P:Program)(t:OA)(c B:Nat)(u:Int)(h:Heap)(K:Value->Heap->Prop):Prop:=
 wpH P (Instr.makeSlice 100 (I (c:Int)) (I (c:Int))) (fun v w=>∃ (e:OA) (f j:Nat),v= .slice e f j/\∃ (g:List Value->Heap->Prop) (k:List Value->Heap->Nat),g [U 0,I (B4 ((c:Int)-1))] w/\
 ∀ (d:Int) (a:Int),∀ b,g [U d,I a] b->Br (decide (a>=(0:Int))) (∃ r,t=some r/\0<=a/\a<(c:Int)/\∃ (l:Int),b.cell? (r.add (a.toNat*1))=some (U l)/\FCall P Ea #[U d,U l,U u] b (fun x y=>∃ (m:Int) (i:Int),x= .tuple #[U m,U i]/\∃ s,e=some s/\0<=a/\a<(f:Int)/\wpH P (Instr.storeAt 130 (.pointer (some (s.add (a.toNat*1)))) (U m)) (fun _ q=>g [U i,I (B4 (a-1))] q/\k [U i,I (B4 (a-1))] q<k [U d,I a] b) y))
 (FCall P I0 #[.slice e f j] b (fun z A=>∃ (n:OA) (o p:Nat),z= .slice n o p/\K (.tuple #[.slice n o p,U d]) A))) h
theorem Rn(a:OA)(b d:Nat)(e:Int)(hvc:Qm Tryz.prog a b d e h K):FCall Tryz.prog Dt #[.slice a b d,U e] h K:=
 B7 Tryz.func265 (c:=C2 Tryz.f265) (by kernel_rfl) (rs:=[.tmp 4,.tmp 5]) (by kernel_rfl) (fa:=⟨[(4,⟨[7,8],[],[.int .u64 0,.int .i64 0],⟨([7,8]++Lrg 15 17),[]⟩⟩)],[],[],[],[]⟩)
  (cfg:=⟨35,[],none,[200,206],[],false⟩) (args:=[.slice a b d,U e]) (by kernel_rfl) (B0 Tryz.call200 (B0 Tryz.call206 Bodies.nil)) (Eq.mp (by kernel_rfl) hvc)
def Hg(P:Program)(l:OA)(f p:Nat)(m:Int)(h:Heap)(K:Value->Heap->Prop):Prop:=
 ∃ (d:List Value->Heap->Prop) (g:List Value->Heap->Nat),d [U 0,I (B4 ((f:Int)-1))] h/\
 ∀ (c:Int) (a:Int),∀ b,d [U c,I a] b->Br (decide (a>=(0:Int))) (∃ k,l=some k/\0<=a/\a<(f:Int)/\∃ (i:Int),b.cell? (k.add (a.toNat*1))=some (U i)/\FCall P Ea #[U c,U i,U m] b (fun o j=>∃ (n:Int) (e:Int),o= .tuple #[U n,U e]/\d [U e,I (B4 (a-1))] j/\g [U e,I (B4 (a-1))] j<g [U c,I a] b))
 (K (U c) b)
theorem Lq(a:OA)(b d:Nat)(e:Int)(hvc:Hg Tryz.prog a b d e h K):FCall Tryz.prog V9 #[.slice a b d,U e] h K:=
 B7 Tryz.func160 (c:=C2 Tryz.f160) (by kernel_rfl) (rs:=[.tmp 4]) (by kernel_rfl) (fa:=⟨[(3,⟨[5,6],[],[.int .u64 0,.int .i64 0],⟨([5,6]++Lrg 10 14),[]⟩⟩)],[],[],[],[]⟩)
  (cfg:=⟨25,[],none,[206],[],false⟩) (args:=[.slice a b d,U e]) (by kernel_rfl) (B0 Tryz.call206 Bodies.nil) (Eq.mp (by kernel_rfl) hvc)
def Nb(P:Program)(c:OA)(b d:Nat)(e:OA)(a f:Nat)(h:Heap)(K:Value->Heap->Prop):Prop:=
 Br (decide ((a:Int)>=(80:Int))) (Br (decide ((B4 ((b:Int)-(a:Int)))>=(80:Int))) (FCall P Aw #[.slice c b d,.slice e a f] h (fun z A=>∃ (g:OA) (i j:Nat) (k:OA) (l m:Nat),z= .tuple #[.slice g i j,.slice k l m]/\K (.tuple #[.slice g i j,.slice k l m]) A))
 (FCall P I8 #[.slice c b d,.slice e a f] h (fun B C=>∃ (n:OA) (o p:Nat) (q:OA) (r s:Nat),B= .tuple #[.slice n o p,.slice q r s]/\K (.tuple #[.slice n o p,.slice q r s]) C)))
 (FCall P I8 #[.slice c b d,.slice e a f] h (fun D E=>∃ (t:OA) (u v:Nat) (w:OA) (x y:Nat),D= .tuple #[.slice t u v,.slice w x y]/\K (.tuple #[.slice t u v,.slice w x y]) E))
theorem Ql(a:OA)(b d:Nat)(e:OA)(f g:Nat)(hvc:Nb Tryz.prog a b d e f g h K):FCall Tryz.prog N3 #[.slice a b d,.slice e f g] h K:=
 B7 Tryz.func219 (c:=C2 Tryz.f219) (by kernel_rfl) (rs:=[.tmp 4,.tmp 5]) (by kernel_rfl) (fa:=⟨[],[],[],[],[]⟩)
  (cfg:=⟨27,[],none,[245,246],[],false⟩) (args:=[.slice a b d,.slice e f g]) (by kernel_rfl) (B0 Tryz.call245 (B0 Tryz.call246 Bodies.nil)) (Eq.mp (by kernel_rfl) hvc)
def W5(P:Program)(d:Nat)(w:OA)(k:Nat)(e:OA)(f:Nat)(b:Int)(x:Int)(y:List Value->Heap->Prop)(z:Heap):Prop:=
 ∃ (i:List Value->Heap->Prop) (l:List Value->Heap->Nat),i [U 0,I 0] z/\
 ∀ (g:Int) (a:Int),∀ c,i [U g,I a] c->Br (decide (a<(k:Int))) (∃ r,w=some r/\0<=a/\a<(k:Int)/\∃ (m:Int),c.cell? (r.add (a.toNat*1))=some (U m)/\∃ s,e=some s/\0<=B4 (b+a)/\B4 (b+a)<(f:Int)/\∃ (n:Int),c.cell? (s.add ((B4 (b+a)).toNat*1))=some (U n)/\ECall P Q5 #[U n,U m,U g] c (fun A B=>∃ (o:Int) (j:Int),A= .tuple #[U o,U j]/\∃ t,e=some t/\0<=B4 (b+a)/\B4 (b+a)<(f:Int)/\wpH P (Instr.storeAt 130 (.pointer (some (t.add ((B4 (b+a)).toNat*1)))) (U o)) (fun _ q=>i [U j,I (B4 (a+1))] q/\l [U j,I (B4 (a+1))] q<l [U g,I a] c) B))
 (∃ u,e=some u/\0<=B4 (b+(d:Int))/\B4 (b+(d:Int))<(f:Int)/\∃ (p:Int),c.cell? (u.add ((B4 (b+(d:Int))).toNat*1))=some (U p)/\∃ v,e=some v/\0<=B4 (b+(d:Int))/\B4 (b+(d:Int))<(f:Int)/\wpH P (Instr.storeAt 130 (.pointer (some (v.add ((B4 (b+(d:Int))).toNat*1)))) (U (B9 (p+g)))) (fun _ C=>y [U (B9 (x-1))] C) c)
def Eo(P:Program)(b:Nat)(K:Value->Heap->Prop)(J:Int)(g:OA)(i n:Nat)(d:OA)(e c:Nat)(o:OA)(p L:Nat)(M:List Value->Heap->Prop)(q:List Value->Heap->Nat)(a:Int)(j:Heap):Prop:=
 Br (decide (a>=(0:Int))) ((0<=B4 ((B4 (a+(b:Int)))+1)/\B4 ((B4 (a+(b:Int)))+1)<=(c:Int))/\(0<=a/\a<=(((B4 ((B4 (a+(b:Int)))+1)).toNat:Nat):Int))/\FCall P Hw #[.slice (J6 d c (a.toNat) 1) (((B4 ((B4 (a+(b:Int)))+1)).toNat)-(a.toNat)) (c-(a.toNat)),.slice g i n] j (fun N O=>∃ (f:Int),N=U f/\(0<=B4 (a+(b:Int))/\B4 (a+(b:Int))<=(c:Int))/\(0<=a/\a<=(((B4 (a+(b:Int))).toNat:Nat):Int))/\FCall P R8 #[.slice (J6 d c (a.toNat) 1) (((B4 (a+(b:Int))).toNat)-(a.toNat)) (c-(a.toNat)),.slice g i n,U f] O (fun Q B=>∃ (k:Int),Q=U k/\∃ E,d=some E/\0<=B4 (a+(b:Int))/\B4 (a+(b:Int))<(e:Int)/\∃ (l:Int),B.cell? (E.add ((B4 (a+(b:Int))).toNat*1))=some (U l)/\∃ F,d=some F/\0<=B4 (a+(b:Int))/\B4 (a+(b:Int))<(e:Int)/\wpH P (Instr.storeAt 130 (.pointer (some (F.add ((B4 (a+(b:Int))).toNat*1)))) (U (B9 (l-k)))) (fun _ C=>∃ (m:List Value->Heap->Prop),(Br (decide (l<k)) (W5 P b g i d e a f m C)
 (m [U f] C))/\
 ∀ (r:Int),∀ G,m [U r] G->∃ H,o=some H/\0<=a/\a<(p:Int)/\wpH P (Instr.storeAt 130 (.pointer (some (H.add (a.toNat*1)))) (U r)) (fun _ D=>M [I (B4 (a-1))] D/\q [I (B4 (a-1))] D<q [I a] j) G) B)))
 (FCall P I0 #[.slice o p L] j (fun R S=>∃ (s:OA) (t u:Nat),R= .slice s t u/\FCall P I0 #[.slice d e c] S (fun T V=>∃ (v:OA) (w x:Nat),T= .slice v w x/\FCall P Z7 #[.slice v w x,U (B9 J)] V (fun W X=>∃ (y:OA) (z A:Nat),W= .slice y z A/\K (.tuple #[.slice s t u,.slice y z A]) X))))
def W6(P:Program)(e b:Nat)(K:Value->Heap->Prop)(f:Int)(g:OA)(i j:Nat)(k:OA)(l m:Nat)(n:OA)(o p:Nat)(q:Heap):Prop:=
 ∃ (a:List Value->Heap->Prop) (r:List Value->Heap->Nat),a [I (B4 ((e:Int)-(b:Int)))] q/\
 ∀ (c:Int),∀ d,a [I c] d->Eo P b K f g i j k l m n o p a r c d
def Kb(P:Program)(d:OA)(b e:Nat)(f:OA)(a l:Nat)(h:Heap)(K:Value->Heap->Prop):Prop:=
 FCall P H1 #[.slice d b e,.slice f a l] h (fun J c=>∃ (m:Int),J=I m/\Br (decide (m<(0:Int))) (K (.tuple #[.slice none 0 0,.slice d b e]) c)
 (Br ((a:Int)==(1:Int)) (∃ F,f=some F/\0<=(0:Int)/\(0:Int)<(a:Int)/\∃ (n:Int),c.cell? (F.add (((0:Int)).toNat*1))=some (U n)/\FCall P Dt #[.slice d b e,U n] c (fun L M=>∃ (o:OA) (p q:Nat) (r:Int),L= .tuple #[.slice o p q,U r]/\FCall P T7 #[U r] M (fun N O=>∃ (s:OA) (t u:Nat),N= .slice s t u/\K (.tuple #[.slice o p q,.slice s t u]) O)))
 (∃ G,f=some G/\0<=B4 ((a:Int)-1)/\B4 ((a:Int)-1)<(a:Int)/\∃ (v:Int),c.cell? (G.add ((B4 ((a:Int)-1)).toNat*1))=some (U v)/\FCall P J1 #[U v] c (fun Q R=>∃ (g:Int),Q=I g/\FCall P R1 #[.slice f a l,U (B9 g)] R (fun S T=>∃ (w:OA) (x y:Nat),S= .slice w x y/\wpH P (Instr.makeSlice 100 (I (B4 ((b:Int)+1))) (I (B4 ((b:Int)+1)))) (fun V W=>∃ (i:OA) (j k:Nat),V= .slice i j k/\FCall P R1 #[.slice d b e,U (B9 g)] W (fun X Z=>∃ (z:OA) (A B:Nat),X= .slice z A B/\wpH P (Builtin.copy_ #[100,100] 3 #[.slice i j k,.slice z A B]) (fun a0 a1=>∃ (H:Int),a0=I H/\wpH P (Instr.makeSlice 100 (I (B4 ((B4 ((b:Int)-(a:Int)))+1))) (I (B4 ((B4 ((b:Int)-(a:Int)))+1)))) (fun a2 a3=>∃ (C:OA) (D E:Nat),a2= .slice C D E/\W6 P b a K g w x y i j k C D E a3) a1) Z)) T)))))
theorem Nn(a:OA)(b d:Nat)(e:OA)(f g:Nat)(hvc:Kb Tryz.prog a b d e f g h K):FCall Tryz.prog I8 #[.slice a b d,.slice e f g] h K:=
 B7 Tryz.func246 (c:=C2 Tryz.f246) (by kernel_rfl) (rs:=[.tmp 4,.tmp 5]) (by kernel_rfl) (fa:=⟨[(13,⟨[13],[],[.int .i64 0],⟨([13,14,15,16,17,18,19]++Lrg 72 79),[]⟩⟩),(23,⟨[17,115],[],[.int .u64 0,.int .i64 0],⟨([17,18,19]++Lrg 115 23),[]⟩⟩)],[(28,⟨[14],[],[.int .u64 0],⟨([14,17,18,19]++Lrg 108 39),[]⟩⟩)],[],[],[]⟩)
  (cfg:=⟨157,[],none,[194,200,201,239,259,264,265,266,267],[267],false⟩) (args:=[.slice a b d,.slice e f g]) (by kernel_rfl) (B0 Tryz.call194 (B0 Tryz.call200 (B0 Tryz.call201 (B0 Tryz.call239 (B0 Tryz.call259 (B0 Tryz.call264 (B0 Tryz.call265 (B0 Tryz.call266 (B0 Tryz.call267 Bodies.nil))))))))) (Eq.mp (by kernel_rfl) hvc)
def Yq(P:Program)(f:OA)(g E:Nat)(m:OA)(a F:Nat)(h:Heap)(K:Value->Heap->Prop):Prop:=
 ∃ w,m=some w/\0<=B4 ((a:Int)-1)/\B4 ((a:Int)-1)<(a:Int)/\∃ (c:Int),h.cell? (w.add ((B4 ((a:Int)-1)).toNat*1))=some (U c)/\∃ x,m=some x/\0<=B4 ((a:Int)-2)/\B4 ((a:Int)-2)<(a:Int)/\∃ (n:Int),h.cell? (x.add ((B4 ((a:Int)-2)).toNat*1))=some (U n)/\∃ y,f=some y/\0<=(a:Int)/\(a:Int)<(g:Int)/\∃ (o:Int),h.cell? (y.add (((a:Int)).toNat*1))=some (U o)/\Br (decide (o>=c)) (K (U 18446744073709551615) h)
 (∃ z,f=some z/\0<=(a:Int)/\(a:Int)<(g:Int)/\∃ (p:Int),h.cell? (z.add (((a:Int)).toNat*1))=some (U p)/\∃ A,f=some A/\0<=B4 ((a:Int)-1)/\B4 ((a:Int)-1)<(g:Int)/\∃ (q:Int),h.cell? (A.add ((B4 ((a:Int)-1)).toNat*1))=some (U q)/\FCall P Ea #[U p,U q,U c] h (fun C v=>∃ (r:Int) (s:Int),C= .tuple #[U r,U s]/\Heap.le h v/\∃ (i:List Value->Heap->Prop) (j:List Value->Heap->Nat),i [U r,U s] v/\
 ∀ (b:Int) (d:Int),∀ k,i [U b,U d] k->FCall P Dz #[U b,U n] k (fun D e=>∃ (l:Int) (t:Int),D= .tuple #[U l,U t]/\Br (decide (l<d)) (K (U b) e)
 (Br (l==d) (∃ B,f=some B/\0<=B4 ((a:Int)-2)/\B4 ((a:Int)-2)<(g:Int)/\∃ (u:Int),e.cell? (B.add ((B4 ((a:Int)-2)).toNat*1))=some (U u)/\Br (decide (t<=u)) (K (U b) e)
 (Br (decide ((B9 (d+c))<c)) (K (U (B9 (b-1))) e)
 (i [U (B9 (b-1)),U (B9 (d+c))] e/\j [U (B9 (b-1)),U (B9 (d+c))] e<j [U b,U d] k)))
 (Br (decide ((B9 (d+c))<c)) (K (U (B9 (b-1))) e)
 (i [U (B9 (b-1)),U (B9 (d+c))] e/\j [U (B9 (b-1)),U (B9 (d+c))] e<j [U b,U d] k))))))
theorem Yp(a:OA)(b d:Nat)(e:OA)(f g:Nat)(hvc:Yq Tryz.prog a b d e f g h K):FCall Tryz.prog Hw #[.slice a b d,.slice e f g] h K:=
 B7 Tryz.func266 (c:=C2 Tryz.f266) (by kernel_rfl) (rs:=[.tmp 4]) (by kernel_rfl) (fa:=⟨[(6,⟨[8,9],[],[.int .u64 0,.int .u64 0],⟨([4,8,9,10,11]++Lrg 44 33),[]⟩⟩)],[],[(2,((Lrg 0 12),[[],[],[1],[0,1,2],[0,1,2,3],[],[],[6],[5,6,7],[5,6,7,8],[0,1,2,3,4],(Lrg 0 11)])),(5,((Lrg 0 16),[[],[],[0,1],[0,1,2],[],[],[5],[4,5,6],[4,5,6,7],[],(Lrg 0 10),(Lrg 0 11),(Lrg 0 12),(Lrg 0 12),(Lrg 0 13),(Lrg 0 15)]))],[],[]⟩)
  (cfg:=⟨77,[],none,[190,206],[],false⟩) (args:=[.slice a b d,.slice e f g]) (by kernel_rfl) (B0 Tryz.call190 (B0 Tryz.call206 Bodies.nil)) (Eq.mp (by kernel_rfl) hvc)
def Yk(P:Program)(g:OA)(a c:Nat)(b:Int)(h:Heap)(K:Value->Heap->Prop):Prop:=
 (0<=(if (a:Int)<b then (a:Int) else b)/\(if (a:Int)<b then (a:Int) else b)<=(c:Int))/\FCall P I0 #[.slice (J6 g c 0 1) ((((if (a:Int)<b then (a:Int) else b)).toNat)-0) (c-0)] h (fun i j=>∃ (d:OA) (e f:Nat),i= .slice d e f/\K (.slice d e f) j)
theorem Yj(a:OA)(b d:Nat)(e:Int)(hvc:Yk Tryz.prog a b d e h K):FCall Tryz.prog Au #[.slice a b d,I e] h K:=
 B7 Tryz.func260 (c:=C2 Tryz.f260) (by kernel_rfl) (rs:=[.tmp 4]) (by kernel_rfl) (fa:=⟨[],[],[],[],[]⟩)
  (cfg:=⟨12,[],none,[200],[],false⟩) (args:=[.slice a b d,I e]) (by kernel_rfl) (B0 Tryz.call200 Bodies.nil) (Eq.mp (by kernel_rfl) hvc)
def St(P:Program)(d:OA)(a c:Nat)(b:Int)(h:Heap)(K:Value->Heap->Prop):Prop:=
 (0<=(if (a:Int)<b then (a:Int) else b)/\(if (a:Int)<b then (a:Int) else b)<=(a:Int))/\K (.slice (J6 d c (((if (a:Int)<b then (a:Int) else b)).toNat) 1) (a-(((if (a:Int)<b then (a:Int) else b)).toNat)) (c-(((if (a:Int)<b then (a:Int) else b)).toNat))) h
theorem Vn(a:OA)(b d:Nat)(e:Int)(hvc:St Tryz.prog a b d e h K):FCall Tryz.prog R2 #[.slice a b d,I e] h K:=
 B7 Tryz.func261 (c:=C2 Tryz.f261) (by kernel_rfl) (rs:=[.tmp 4]) (by kernel_rfl) (fa:=⟨[],[],[],[],[]⟩)
  (cfg:=⟨11,[],none,[],[],false⟩) (args:=[.slice a b d,I e]) (by kernel_rfl) Bodies.nil (Eq.mp (by kernel_rfl) hvc)
def B66(P:Program)(j:OA)(e k:Nat)(l:OA)(m n:Nat)(a:Int)(h:Heap)(K:Value->Heap->Prop):Prop:=
 wpH P (Instr.makeSlice 100 (I (B4 (a+(e:Int)))) (I (B4 (a+(e:Int))))) (fun q r=>∃ (d:OA) (b c:Nat),q= .slice d b c/\wpH P (Builtin.copy_ #[100,100] 3 #[.slice d b c,.slice l m n]) (fun s t=>∃ (o:Int),s=I o/\(0<=a/\a<=(b:Int))/\wpH P (Builtin.copy_ #[100,100] 3 #[.slice (J6 d c (a.toNat) 1) (b-(a.toNat)) (c-(a.toNat)),.slice j e k]) (fun u v=>∃ (p:Int),u=I p/\FCall P I0 #[.slice d b c] v (fun w x=>∃ (f:OA) (g i:Nat),w= .slice f g i/\K (.slice f g i) x)) t) r) h
theorem B0m(a:OA)(b d:Nat)(e:OA)(f g:Nat)(i:Int)(hvc:B66 Tryz.prog a b d e f g i h K):FCall Tryz.prog Hv #[.slice a b d,.slice e f g,I i] h K:=
 B7 Tryz.func263 (c:=C2 Tryz.f263) (by kernel_rfl) (rs:=[.tmp 6]) (by kernel_rfl) (fa:=⟨[],[],[],[],[]⟩)
  (cfg:=⟨23,[],none,[200],[],false⟩) (args:=[.slice a b d,.slice e f g,I i]) (by kernel_rfl) (B0 Tryz.call200 Bodies.nil) (Eq.mp (by kernel_rfl) hvc)
def W7(P:Program)(c:Nat)(K:Value->Heap->Prop)(a:Int)(M:Int)(N:OA)(O Q:Nat)(R:OA)(o S:Nat)(p:OA)(i j:Nat)(T:Heap):Prop:=
 ∃ (k:List Value->Heap->Prop) (q:List Value->Heap->Nat),k [.slice none 0 0,I (B4 ((B4 (Int.tdiv (B4 ((o:Int)-1)) (B4 ((B4 (Int.tdiv (B4 ((B4 ((c:Int)+a))-1)) a))*a))))*(B4 ((B4 (Int.tdiv (B4 ((B4 ((c:Int)+a))-1)) a))*a))))] T/\
 ∀ (d:OA) (e f:Nat) (b:Int),∀ g,k [.slice d e f,I b] g->Br (decide (b>=(0:Int))) (FCall P R2 #[.slice R o S,I b] g (fun W X=>∃ (r:OA) (s t:Nat),W= .slice r s t/\FCall P Au #[.slice r s t,I (B4 ((B4 (Int.tdiv (B4 ((B4 ((c:Int)+a))-1)) a))*a))] X (fun Z a0=>∃ (u:OA) (v w:Nat),Z= .slice u v w/\FCall P Hv #[.slice d e f,.slice u v w,I (B4 ((B4 (Int.tdiv (B4 ((B4 ((c:Int)+a))-1)) a))*a))] a0 (fun a1 a2=>∃ (x:OA) (y z:Nat),a1= .slice x y z/\FCall P S1 #[.slice x y z,.slice N O Q] a2 (fun a3 a4=>∃ (A:OA) (B C:Nat) (l:OA) (m n:Nat),a3= .tuple #[.slice A B C,.slice l m n]/\(0<=b/\b<=(i:Int))/\wpH P (Builtin.copy_ #[100,100] 3 #[.slice (J6 p j (b.toNat) 1) (i-(b.toNat)) (j-(b.toNat)),.slice A B C]) (fun a5 L=>∃ (V:Int),a5=I V/\k [.slice l m n,I (B4 (b-(B4 ((B4 (Int.tdiv (B4 ((B4 ((c:Int)+a))-1)) a))*a))))] L/\q [.slice l m n,I (B4 (b-(B4 ((B4 (Int.tdiv (B4 ((B4 ((c:Int)+a))-1)) a))*a))))] L<q [.slice d e f,I b] g) a4)))))
 (FCall P I0 #[.slice p i j] g (fun a6 a7=>∃ (D:OA) (E F:Nat),a6= .slice D E F/\FCall P Z7 #[.slice d e f,U (B9 (B4 ((B4 ((64:Int)*(B4 ((B4 ((B4 (Int.tdiv (B4 ((B4 ((c:Int)+a))-1)) a))*a))-(c:Int)))))+M)))] a7 (fun a8 a9=>∃ (G:OA) (H J:Nat),a8= .slice G H J/\K (.tuple #[.slice D E F,.slice G H J]) a9)))
def Gb(P:Program)(t:OA)(u v:Nat)(g:OA)(b w:Nat)(h:Heap)(K:Value->Heap->Prop):Prop:=
 ∃ (f:List Value->Heap->Prop) (i:List Value->Heap->Nat),f [I 1] h/\
 ∀ (a:Int),∀ c,f [I a] c->Br (decide (a=0)) False
 (Br (decide ((B4 (Int.tdiv (B4 ((B4 ((b:Int)+a))-1)) a))>=(80:Int))) (f [I (B4 (a*(2:Int)))] c/\i [I (B4 (a*(2:Int)))] c<i [I a] c)
 (Br (decide (a=0)) False
 (∃ s,g=some s/\0<=B4 ((b:Int)-1)/\B4 ((b:Int)-1)<(b:Int)/\∃ (j:Int),c.cell? (s.add ((B4 ((b:Int)-1)).toNat*1))=some (U j)/\FCall P J1 #[U j] c (fun x y=>∃ (d:Int),x=I d/\FCall P R1 #[.slice g b w,U (B9 (B4 ((B4 ((64:Int)*(B4 ((B4 ((B4 (Int.tdiv (B4 ((B4 ((b:Int)+a))-1)) a))*a))-(b:Int)))))+d)))] y (fun z A=>∃ (k:OA) (l m:Nat),z= .slice k l m/\FCall P R1 #[.slice t u v,U (B9 (B4 ((B4 ((64:Int)*(B4 ((B4 ((B4 (Int.tdiv (B4 ((B4 ((b:Int)+a))-1)) a))*a))-(b:Int)))))+d)))] A (fun B C=>∃ (n:OA) (e o:Nat),B= .slice n e o/\wpH P (Instr.makeSlice 100 (I (B4 ((e:Int)+(B4 ((B4 (Int.tdiv (B4 ((B4 ((b:Int)+a))-1)) a))*a))))) (I (B4 ((e:Int)+(B4 ((B4 (Int.tdiv (B4 ((B4 ((b:Int)+a))-1)) a))*a)))))) (fun D E=>∃ (p:OA) (q r:Nat),D= .slice p q r/\Br (decide (B4 ((B4 (Int.tdiv (B4 ((B4 ((b:Int)+a))-1)) a))*a)=0)) False
 (W7 P b K a d k l m n e o p q r E)) C))))))
def Kd(P:Program)(a:OA)(b c:Nat)(d:OA)(e f:Nat)(h:Heap)(K:Value->Heap->Prop):Prop:=
 Gb P a b c d e f h K
theorem Np(a:OA)(b d:Nat)(e:OA)(f g:Nat)(hvc:Kd Tryz.prog a b d e f g h K):FCall Tryz.prog Aw #[.slice a b d,.slice e f g] h K:=
 B7 Tryz.func245 (c:=C2 Tryz.f245) (by kernel_rfl) (rs:=[.tmp 4,.tmp 5]) (by kernel_rfl) (fa:=⟨[(3,⟨[7],[],[.int .i64 0],⟨([7]++Lrg 20 9),[]⟩⟩),(11,⟨[13,14],[],[.slice none 0 0,.int .i64 0],⟨([13,14,15,16,17]++Lrg 67 25),[]⟩⟩)],[],[],[],[]⟩)
  (cfg:=⟨97,[],none,[200,239,259,260,261,262,263,264],[],false⟩) (args:=[.slice a b d,.slice e f g]) (by kernel_rfl) (B0 Tryz.call200 (B0 Tryz.call239 (B0 Tryz.call259 (B0 Tryz.call260 (B0 Tryz.call261 (B0 Tryz.call262 (B0 Tryz.call263 (B0 Tryz.call264 Bodies.nil)))))))) (Eq.mp (by kernel_rfl) hvc)
def Kc(P:Program)(b:OA)(c d:Nat)(e:OA)(a f:Nat)(h:Heap)(K:Value->Heap->Prop):Prop:=
 Br (decide ((a:Int)<(80:Int))) (FCall P I8 #[.slice b c d,.slice e a f] h (fun V W=>∃ (g:OA) (i j:Nat) (k:OA) (l m:Nat),V= .tuple #[.slice g i j,.slice k l m]/\K (.tuple #[.slice g i j,.slice k l m]) W))
 (Br ((Int.tmod (a:Int) (2:Int)) != (0:Int)) (FCall P I8 #[.slice b c d,.slice e a f] h (fun X Z=>∃ (n:OA) (o p:Nat) (q:OA) (r s:Nat),X= .tuple #[.slice n o p,.slice q r s]/\K (.tuple #[.slice n o p,.slice q r s]) Z))
 (FCall P R2 #[.slice b c d,I (B4 (Int.tdiv (a:Int) (2:Int)))] h (fun a0 a1=>∃ (t:OA) (u v:Nat),a0= .slice t u v/\FCall P S0 #[.slice t u v,.slice e a f] a1 (fun a2 a3=>∃ (w:OA) (x y:Nat) (z:OA) (A B:Nat),a2= .tuple #[.slice w x y,.slice z A B]/\FCall P Au #[.slice b c d,I (B4 (Int.tdiv (a:Int) (2:Int)))] a3 (fun a4 a5=>∃ (C:OA) (D E:Nat),a4= .slice C D E/\FCall P Hv #[.slice z A B,.slice C D E,I (B4 (Int.tdiv (a:Int) (2:Int)))] a5 (fun a6 a7=>∃ (F:OA) (G H:Nat),a6= .slice F G H/\FCall P S0 #[.slice F G H,.slice e a f] a7 (fun a8 a9=>∃ (J:OA) (L M:Nat) (N:OA) (O Q:Nat),a8= .tuple #[.slice J L M,.slice N O Q]/\FCall P Hv #[.slice w x y,.slice J L M,I (B4 (Int.tdiv (a:Int) (2:Int)))] a9 (fun b0 b1=>∃ (R:OA) (S T:Nat),b0= .slice R S T/\K (.tuple #[.slice R S T,.slice N O Q]) b1))))))))
theorem No(a:OA)(b d:Nat)(e:OA)(f g:Nat)(hvc:Kc Tryz.prog a b d e f g h K):FCall Tryz.prog S1 #[.slice a b d,.slice e f g] h K:=
 B7 Tryz.func262 (c:=C2 Tryz.f262) (by kernel_rfl) (rs:=[.tmp 4,.tmp 5]) (by kernel_rfl) (fa:=⟨[],[],[],[],[]⟩)
  (cfg:=⟨51,[],none,[246,260,261,263,269],[],false⟩) (args:=[.slice a b d,.slice e f g]) (by kernel_rfl) (B0 Tryz.call246 (B0 Tryz.call260 (B0 Tryz.call261 (B0 Tryz.call263 (B0 Tryz.call269 Bodies.nil))))) (Eq.mp (by kernel_rfl) hvc)
def W4(P:Program)(C:OA)(D E:Nat)(K:Value->Heap->Prop)(F:OA)(G H:Nat)(p:OA)(q r:Nat)(J:OA)(L M:Nat)(N:Heap):Prop:=
 ∃ (g:List Value->Heap->Prop) (s:List Value->Heap->Nat),g [.slice F G H,.slice J L M] N/\
 ∀ (d:OA) (e f:Nat) (a:OA) (b c:Nat),∀ o,g [.slice d e f,.slice a b c] o->FCall P H1 #[.slice a b c,.slice p q r] o (fun O A=>∃ (t:Int),O=I t/\Br (decide (t<(0:Int))) (FCall P M0 #[.slice a b c,.slice C D E] A (fun Q R=>∃ (i:OA) (j k:Nat),Q= .slice i j k/\wpH P (Instr.buildSlice 100 1 #[(0,U 1)]) (fun S T=>∃ (u:OA) (v w:Nat),S= .slice u v w/\FCall P G1 #[.slice d e f,.slice u v w] T (fun V B=>∃ (l:OA) (m n:Nat),V= .slice l m n/\g [.slice l m n,.slice i j k] B/\s [.slice l m n,.slice i j k] B<s [.slice d e f,.slice a b c] o)) R))
 (FCall P G1 #[.slice a b c,.slice p q r] A (fun W X=>∃ (x:OA) (y z:Nat),W= .slice x y z/\K (.tuple #[.slice d e f,.slice x y z]) X)))
def Ka(P:Program)(d:OA)(e f:Nat)(c:OA)(a b:Nat)(h:Heap)(K:Value->Heap->Prop):Prop:=
 (0<=B4 (Int.tdiv (a:Int) (2:Int))/\B4 (Int.tdiv (a:Int) (2:Int))<=(b:Int))/\(0<=B4 (Int.tdiv (a:Int) (2:Int))/\B4 (Int.tdiv (a:Int) (2:Int))<=(a:Int))/\FCall P I0 #[.slice (J6 c b 0 1) (((B4 (Int.tdiv (a:Int) (2:Int))).toNat)-0) (b-0)] h (fun b0 a7=>∃ (o:OA) (p q:Nat),b0= .slice o p q/\Heap.le h a7/\FCall P R2 #[.slice d e f,I (B4 (Int.tdiv (a:Int) (2:Int)))] a7 (fun b1 b2=>∃ (g:OA) (i j:Nat),b1= .slice g i j/\∃ (k:List Value->Heap->Prop),(FCall P R2 #[.slice d e f,I (B4 ((2:Int)*(B4 (Int.tdiv (a:Int) (2:Int)))))] b2 (fun b3 b4=>∃ (r:OA) (s t:Nat),b3= .slice r s t/\FCall P H1 #[.slice r s t,.slice (J6 c b ((B4 (Int.tdiv (a:Int) (2:Int))).toNat) 1) (a-((B4 (Int.tdiv (a:Int) (2:Int))).toNat)) (b-((B4 (Int.tdiv (a:Int) (2:Int))).toNat))] b4 (fun b5 a8=>∃ (u:Int),b5=I u/\Br (decide (u<(0:Int))) (FCall P S1 #[.slice g i j,.slice (J6 c b ((B4 (Int.tdiv (a:Int) (2:Int))).toNat) 1) (a-((B4 (Int.tdiv (a:Int) (2:Int))).toNat)) (b-((B4 (Int.tdiv (a:Int) (2:Int))).toNat))] a8 (fun b6 b7=>∃ (v:OA) (w x:Nat) (y:OA) (z A:Nat),b6= .tuple #[.slice v w x,.slice y z A]/\k [.slice v w x,.slice y z A] b7))
 (wpH P (Instr.buildSlice 100 1 #[(0,U 18446744073709551615)]) (fun b8 b9=>∃ (B:OA) (C D:Nat),b8= .slice B C D/\FCall P Pe #[.slice B C D,I (B4 (Int.tdiv (a:Int) (2:Int)))] b9 (fun c0 c1=>∃ (E:OA) (F G:Nat),c0= .slice E F G/\FCall P Hv #[.slice (J6 c b ((B4 (Int.tdiv (a:Int) (2:Int))).toNat) 1) (a-((B4 (Int.tdiv (a:Int) (2:Int))).toNat)) (b-((B4 (Int.tdiv (a:Int) (2:Int))).toNat)),.slice none 0 0,I (B4 (Int.tdiv (a:Int) (2:Int)))] c1 (fun c2 c3=>∃ (H:OA) (J L:Nat),c2= .slice H J L/\FCall P G1 #[.slice g i j,.slice H J L] c3 (fun c4 c5=>∃ (M:OA) (N O:Nat),c4= .slice M N O/\FCall P M0 #[.slice M N O,.slice (J6 c b ((B4 (Int.tdiv (a:Int) (2:Int))).toNat) 1) (a-((B4 (Int.tdiv (a:Int) (2:Int))).toNat)) (b-((B4 (Int.tdiv (a:Int) (2:Int))).toNat))] c5 (fun c6 c7=>∃ (Q:OA) (R S:Nat),c6= .slice Q R S/\k [.slice E F G,.slice Q R S] c7))))) a8))))/\
 ∀ (l:OA) (m n:Nat) (T:OA) (V W:Nat),∀ a9,k [.slice l m n,.slice T V W] a9->FCall P D3 #[.slice l m n,.slice o p q] a9 (fun c8 c9=>∃ (X:OA) (Z a0:Nat),c8= .slice X Z a0/\FCall P Au #[.slice d e f,I (B4 (Int.tdiv (a:Int) (2:Int)))] c9 (fun d0 d1=>∃ (a1:OA) (a2 a3:Nat),d0= .slice a1 a2 a3/\FCall P Hv #[.slice T V W,.slice a1 a2 a3,I (B4 (Int.tdiv (a:Int) (2:Int)))] d1 (fun d2 d3=>∃ (a4:OA) (a5 a6:Nat),d2= .slice a4 a5 a6/\W4 P c a b K l m n X Z a0 a4 a5 a6 d3)))))
theorem Nm(a:OA)(b d:Nat)(e:OA)(f g:Nat)(hvc:Ka Tryz.prog a b d e f g h K):FCall Tryz.prog S0 #[.slice a b d,.slice e f g] h K:=
 B7 Tryz.func269 (c:=C2 Tryz.f269) (by kernel_rfl) (rs:=[.tmp 4,.tmp 5]) (by kernel_rfl) (fa:=⟨[(11,⟨[10,11],[],[.slice none 0 0,.slice none 0 0],⟨([10,11]++Lrg 58 10),[]⟩⟩)],[(9,⟨[10,11],[],[.slice none 0 0,.slice none 0 0],⟨([10,11]++Lrg 26 23),[]⟩⟩)],[(2,([0,1,2,4,5,6,3,7,8],[[],[],[0,1],[0,1,2],[],[],[4,5],[0,1,2,3],(Lrg 0 8)]))],[],[]⟩)
  (cfg:=⟨72,[],none,[200,201,203,222,223,260,261,262,263,270],[],false⟩) (args:=[.slice a b d,.slice e f g]) (by kernel_rfl) (B0 Tryz.call200 (B0 Tryz.call201 (B0 Tryz.call203 (B0 Tryz.call222 (B0 Tryz.call223 (B0 Tryz.call260 (B0 Tryz.call261 (B0 Tryz.call262 (B0 Tryz.call263 (B0 Tryz.call270 Bodies.nil)))))))))) (Eq.mp (by kernel_rfl) hvc)
def A2k(P:Program)(d:Int)(e:Int)(h:Heap)(K:Value->Heap->Prop):Prop:=
 Br (d==(0:Int)) (K (U (bor .u64 d e)) h)
 (Br (e==(0:Int)) (K (U (bor .u64 d e)) h)
 (FCall P K4 #[U (bor .u64 d e)] h (fun m n=>∃ (k:Int),m=I k/\FCall P K4 #[U d] n (fun o p=>∃ (l:Int),o=I l/\Br (decide (l<0)) False
 (∃ (g:List Value->Heap->Prop) (i:List Value->Heap->Nat),g [U (Int.fdiv d (2^(min l.toNat 64))),U e] p/\
 ∀ (b:Int) (a:Int),∀ f,g [U b,U a] f->Br (a != (0:Int)) (FCall P K4 #[U a] f (fun q j=>∃ (c:Int),q=I c/\Br (decide (c<0)) False
 (Br (decide (b>(Int.fdiv a (2^(min c.toNat 64))))) (g [U (Int.fdiv a (2^(min c.toNat 64))),U (B9 (b-(Int.fdiv a (2^(min c.toNat 64)))))] j/\i [U (Int.fdiv a (2^(min c.toNat 64))),U (B9 (b-(Int.fdiv a (2^(min c.toNat 64)))))] j<i [U b,U a] f)
 (g [U b,U (B9 ((Int.fdiv a (2^(min c.toNat 64)))-b))] j/\i [U b,U (B9 ((Int.fdiv a (2^(min c.toNat 64)))-b))] j<i [U b,U a] f))))
 (Br (decide (k<0)) False
 (K (U (B9 (b*2^(min k.toNat 64)))) f)))))))
theorem A17(a:Int)(b:Int)(hvc:A2k Tryz.prog a b h K):FCall Tryz.prog Lc #[U a,U b] h K:=
 B7 Tryz.func221 (c:=C2 Tryz.f221) (by kernel_rfl) (rs:=[.tmp 4]) (by kernel_rfl) (fa:=⟨[(5,⟨[0,1],[],[.int .u64 0,.int .u64 0],⟨([0,1]++Lrg 23 14),[]⟩⟩)],[],[],[],[]⟩)
  (cfg:=⟨40,[],none,[249],[],false⟩) (args:=[U a,U b]) (by kernel_rfl) (B0 Tryz.call249 Bodies.nil) (Eq.mp (by kernel_rfl) hvc)
def Na(P:Program)(C:List Value->Heap->Prop)(s:List Value->Heap->Nat)(f:OA)(d g:Nat)(t:OA)(u v:Nat)(D:Int)(E:Int)(F:Int)(G:Int)(H:Bool)(J:Heap)(L:Heap):Prop:=
 ∃ (i:List Value->Heap->Prop) (w:List Value->Heap->Nat),i [.slice t u v] J/\
 ∀ (b:OA) (a c:Nat),∀ e,i [.slice b a c] e->Br (decide ((a:Int)<(d:Int))) (wpH P (Instr.buildSlice 100 1 #[(0,U 0)]) (fun M N=>∃ (x:OA) (y z:Nat),M= .slice x y z/\wpH P (Builtin.append_ #[100,100] 100 #[.slice b a c,.slice x y z]) (fun O A=>∃ (j:OA) (k l:Nat),O= .slice j k l/\i [.slice j k l] A/\w [.slice j k l] A<w [.slice b a c] e) N) e)
 (FCall P Uq #[.agg #[U D,U E,U F,U G,.bool H],.slice f d g,.slice b a c] e (fun Q R=>Q= .tuple #[]/\FCall P I0 #[.slice f d g] R (fun S T=>∃ (m:OA) (n o:Nat),S= .slice m n o/\FCall P I0 #[.slice b a c] T (fun V B=>∃ (p:OA) (q r:Nat),V= .slice p q r/\C [.slice m n o,.slice p q r] B/\s [.slice m n o,.slice p q r] B<s [.slice f d g,.slice t u v] L))))
def Ib(P:Program)(K:Value->Heap->Prop)(L:OA)(M N:Nat)(O:OA)(Q R:Nat)(S:Heap):Prop:=
 ∃ (i:List Value->Heap->Prop) (j:List Value->Heap->Nat),i [.slice L M N,.slice O Q R] S/\
 ∀ (d:OA) (e f:Nat) (b:OA) (a g:Nat),∀ c,i [.slice d e f,.slice b a g] c->Br (decide ((a:Int)>(1:Int))) (FCall P Hu #[.slice d e f,.slice b a g] c (fun X E=>∃ (q:Int) (r:Int) (k:Int) (s:Int) (t:Bool),X= .agg #[U q,U r,U k,U s,.bool t]/\Br (k==(0:Int)) (FCall P N3 #[.slice d e f,.slice b a g] E (fun Z a0=>∃ (T:OA) (V W:Nat) (u:OA) (v w:Nat),Z= .tuple #[.slice T V W,.slice u v w]/\FCall P Du #[.slice u v w] a0 (fun a1 F=>∃ (l:OA) (m n:Nat),a1= .slice l m n/\i [.slice b a g,.slice l m n] F/\j [.slice b a g,.slice l m n] F<j [.slice d e f,.slice b a g] c)))
 (Na P i j d e f b a g q r k s t E c)))
 (Br ((a:Int)==(0:Int)) (K (.slice d e f) c)
 (∃ H,b=some H/\0<=(0:Int)/\(0:Int)<(a:Int)/\∃ (x:Int),c.cell? (H.add (((0:Int)).toNat*1))=some (U x)/\∃ J,b=some J/\0<=(0:Int)/\(0:Int)<(a:Int)/\∃ (y:Int),c.cell? (J.add (((0:Int)).toNat*1))=some (U y)/\FCall P V9 #[.slice d e f,U y] c (fun a2 o=>∃ (z:Int),a2=U z/\Heap.le c o/\FCall P Lc #[U x,U z] o (fun a3 p=>∃ (A:Int),a3=U A/\Heap.le o p/\FCall P T7 #[U A] p (fun a4 G=>∃ (B:OA) (C D:Nat),a4= .slice B C D/\Heap.le p G/\K (.slice B C D) G)))))
def Ym(P:Program)(a:OA)(b c:Nat)(d:OA)(e f:Nat)(h:Heap)(K:Value->Heap->Prop):Prop:=
 ∃ (g:List Value->Heap->Prop),(FCall P H1 #[.slice a b c,.slice d e f] h (fun x w=>∃ (n:Int),x=I n/\Br (decide (n<(0:Int))) (g [.slice d e f,.slice a b c] w)
 (g [.slice a b c,.slice d e f] w)))/\
 ∀ (i:OA) (j k:Nat) (o:OA) (l p:Nat),∀ m,g [.slice i j k,.slice o l p] m->Br ((l:Int)==(0:Int)) (K (.slice i j k) m)
 (FCall P Du #[.slice i j k] m (fun y z=>∃ (q:OA) (r s:Nat),y= .slice q r s/\FCall P Du #[.slice o l p] z (fun A B=>∃ (t:OA) (u v:Nat),A= .slice t u v/\Ib P K q r s t u v B)))
theorem Yl(a:OA)(b d:Nat)(e:OA)(f g:Nat)(hvc:Ym Tryz.prog a b d e f g h K):FCall Tryz.prog Ds #[.slice a b d,.slice e f g] h K:=
 B7 Tryz.func180 (c:=C2 Tryz.f180) (by kernel_rfl) (rs:=[.tmp 4]) (by kernel_rfl) (fa:=⟨[(6,⟨[5,6],[],[.slice none 0 0,.slice none 0 0],⟨([5,6,7,8,9]++Lrg 24 34),[7]⟩⟩),(11,⟨[6],[],[.slice none 0 0],⟨([6]++Lrg 42 8),[]⟩⟩)],[(3,⟨[0,1],[],[.slice none 0 0,.slice none 0 0],⟨[0,1,10,11,12,13,14,15],[]⟩⟩)],[(17,((Lrg 0 11),[[],[0],[0,1],[],[],[4],[4,5],[3,4,5,6],(Lrg 0 8),(Lrg 0 9),(Lrg 0 10)]))],[],[]⟩)
  (cfg:=⟨72,[7],none,[160,194,200,201,217,218,219,220,221],[220],false⟩) (args:=[.slice a b d,.slice e f g]) (by kernel_rfl) (B0 Tryz.call160 (B0 Tryz.call194 (B0 Tryz.call200 (B0 Tryz.call201 (B0 Tryz.call217 (B0 Tryz.call218 (B0 Tryz.call219 (B0 Tryz.call220 (B0 Tryz.call221 Bodies.nil))))))))) (Eq.mp (by kernel_rfl) hvc)
def Ga(P:Program)(K:Value->Heap->Prop)(m:Int)(o:Int)(p:Int)(q:Int)(r:Heap):Prop:=
 ∃ (l:List Value->Heap->Prop) (n:List Value->Heap->Nat),l [U (bor .u64 (B9 (o*2^(min (B9 m).toNat 64))) (Int.fdiv p (2^(min (B9 ((64:Int)-(B9 m))).toNat 64)))),U q,U 0,U 1,U 0,U 1,U 0,U 0,.bool false] r/\
 ∀ (b:Int) (a:Int) (f:Int) (d:Int) (j:Int) (e:Int) (k:Int) (c:Int) (g:Bool),∀ i,l [U b,U a,U f,U d,U j,U e,U k,U c,.bool g] i->Br (decide (a>=d)) (Br (decide ((B9 (b-a))>=(B9 (c+d)))) (Br (decide (a=0)) False
 (Br (decide (a=0)) False
 (l [U a,U (Int.tmod b a),U (B9 (e+(B9 ((B9 (Int.tdiv b a))*f)))),U (B9 (c+(B9 ((B9 (Int.tdiv b a))*d)))),U e,U f,U c,U d,.bool (!g)] i/\n [U a,U (Int.tmod b a),U (B9 (e+(B9 ((B9 (Int.tdiv b a))*f)))),U (B9 (c+(B9 ((B9 (Int.tdiv b a))*d)))),U e,U f,U c,U d,.bool (!g)] i<n [U b,U a,U f,U d,U j,U e,U k,U c,.bool g] i)))
 (K (.agg #[U j,U e,U k,U c,.bool g]) i))
 (K (.agg #[U j,U e,U k,U c,.bool g]) i)
def Yi(P:Program)(f:OA)(a x:Nat)(g:OA)(d y:Nat)(h:Heap)(K:Value->Heap->Prop):Prop:=
 ∃ p,f=some p/\0<=B4 ((a:Int)-1)/\B4 ((a:Int)-1)<(a:Int)/\∃ (i:Int),h.cell? (p.add ((B4 ((a:Int)-1)).toNat*1))=some (U i)/\FCall P J1 #[U i] h (fun w c=>∃ (b:Int),w=I b/\∃ q,f=some q/\0<=B4 ((a:Int)-1)/\B4 ((a:Int)-1)<(a:Int)/\∃ (j:Int),c.cell? (q.add ((B4 ((a:Int)-1)).toNat*1))=some (U j)/\Br (decide (B9 b<0)) False
 (∃ r,f=some r/\0<=B4 ((a:Int)-2)/\B4 ((a:Int)-2)<(a:Int)/\∃ (k:Int),c.cell? (r.add ((B4 ((a:Int)-2)).toNat*1))=some (U k)/\Br (decide (B9 ((64:Int)-(B9 b))<0)) False
 (∃ (e:List Value->Heap->Prop),(Br ((d:Int)==(a:Int)) (∃ s,g=some s/\0<=B4 ((a:Int)-1)/\B4 ((a:Int)-1)<(d:Int)/\∃ (l:Int),c.cell? (s.add ((B4 ((a:Int)-1)).toNat*1))=some (U l)/\Br (decide (B9 b<0)) False
 (∃ t,g=some t/\0<=B4 ((a:Int)-2)/\B4 ((a:Int)-2)<(d:Int)/\∃ (m:Int),c.cell? (t.add ((B4 ((a:Int)-2)).toNat*1))=some (U m)/\Br (decide (B9 ((64:Int)-(B9 b))<0)) False
 (e [U (bor .u64 (B9 (l*2^(min (B9 b).toNat 64))) (Int.fdiv m (2^(min (B9 ((64:Int)-(B9 b))).toNat 64))))] c)))
 (Br ((d:Int)==(B4 ((a:Int)-1))) (∃ u,g=some u/\0<=B4 ((a:Int)-2)/\B4 ((a:Int)-2)<(d:Int)/\∃ (n:Int),c.cell? (u.add ((B4 ((a:Int)-2)).toNat*1))=some (U n)/\Br (decide (B9 ((64:Int)-(B9 b))<0)) False
 (e [U (Int.fdiv n (2^(min (B9 ((64:Int)-(B9 b))).toNat 64)))] c))
 (e [U 0] c)))/\
 ∀ (o:Int),∀ v,e [U o] v->Ga P K b j k o v)))
theorem Yh(a:OA)(b d:Nat)(e:OA)(f g:Nat)(hvc:Yi Tryz.prog a b d e f g h K):FCall Tryz.prog Hu #[.slice a b d,.slice e f g] h K:=
 B7 Tryz.func218 (c:=C2 Tryz.f218) (by kernel_rfl) (rs:=[.cell 4 260]) (by kernel_rfl) (fa:=⟨[(13,⟨[7,8,10,11],[(9,5)],[.int .u64 0,.int .u64 0,.int .u64 0,.int .u64 0,.int .u64 0,.int .u64 0,.int .u64 0,.int .u64 0,.bool false],⟨([7,8,10,11,12]++Lrg 72 46),[9]⟩⟩)],[(10,⟨[8],[],[.int .u64 0],⟨([8]++Lrg 38 33),[]⟩⟩)],[(3,((Lrg 0 17),[[],[],[1],[0,1,2],[0,1,2,3],[],[0,1,2,3,4,5],[],[],[8],[7,8,9],[7,8,9,10],[],[12],[7,8,9,10,11,12,13],(Lrg 0 15),(Lrg 0 16)])),(7,((Lrg 0 17),[[],[],[1],[0,1,2],[0,1,2,3],[],[0,1,2,3,4,5],[],[],[8],[7,8,9],[7,8,9,10],[],[12],[7,8,9,10,11,12,13],(Lrg 0 15),(Lrg 0 16)])),(15,([0,1,2,3,4,5],[[],[],[],[1,2],[0,1],[0,1,2,3,4]]))],[],[]⟩)
  (cfg:=⟨119,[4,9],none,[239],[],false⟩) (args:=[.slice a b d,.slice e f g]) (by kernel_rfl) (B0 Tryz.call239 Bodies.nil) (Eq.mp (by kernel_rfl) hvc)
def Mz(P:Program)(e:Int)(f:Int)(g:Int)(h:Heap)(K:Value->Heap->Prop):Prop:=
 FCall P Dz #[U e,U f] h (fun i j=>∃ (a:Int) (b:Int),i= .tuple #[U a,U b]/\ECall P Q5 #[U b,U g,U 0] j (fun k l=>∃ (c:Int) (d:Int),k= .tuple #[U c,U d]/\K (.tuple #[U c,U (B9 (a+d))]) l))
theorem Qk(a:Int)(b:Int)(d:Int)(hvc:Mz Tryz.prog a b d h K):FCall Tryz.prog K8 #[U a,U b,U d] h K:=
 B7 Tryz.func247 (c:=C2 Tryz.f247) (by kernel_rfl) (rs:=[.tmp 6,.tmp 7]) (by kernel_rfl) (fa:=⟨[],[],[],[],[]⟩)
  (cfg:=⟨27,[],none,[190],[],false⟩) (args:=[U a,U b,U d]) (by kernel_rfl) (B0 Tryz.call190 Bodies.nil) (Eq.mp (by kernel_rfl) hvc)
def A7p(P:Program)(d:Bool)(b:OA)(a c:Nat)(h:Heap)(K:Value->Heap->Prop):Prop:=
 Br d (K (.agg #[.bool (decide ((a:Int)>(0:Int))),.slice b a c]) h)
 (K (.agg #[.bool false,.slice b a c]) h)
theorem A42(a:Bool)(b:OA)(d e:Nat)(hvc:A7p Tryz.prog a b d e h K):FCall Tryz.prog O2 #[.bool a,.slice b d e] h K:=
 B7 Tryz.func197 (c:=C2 Tryz.f197) (by kernel_rfl) (rs:=[.cell 4 102]) (by kernel_rfl) (fa:=⟨[],[],[],[],[]⟩)
  (cfg:=⟨13,[4],none,[],[],false⟩) (args:=[.bool a,.slice b d e]) (by kernel_rfl) Bodies.nil (Eq.mp (by kernel_rfl) hvc)
def B98(P:Program)(a:Int)(h:Heap)(K:Value->Heap->Prop):Prop:=
 Br (decide (a<(0:Int))) (FCall P T7 #[U (B9 (0-(B9 a)))] h (fun i j=>∃ (b:OA) (c d:Nat),i= .slice b c d/\K (.agg #[.bool true,.slice b c d]) j))
 (FCall P T7 #[U (B9 a)] h (fun k l=>∃ (e:OA) (f g:Nat),k= .slice e f g/\K (.agg #[.bool false,.slice e f g]) l))
theorem B42(a:Int)(hvc:B98 Tryz.prog a h K):FCall Tryz.prog Pf #[I a] h K:=
 B7 Tryz.func139 (c:=C2 Tryz.f139) (by kernel_rfl) (rs:=[.cell 2 102]) (by kernel_rfl) (fa:=⟨[],[],[],[],[]⟩)
  (cfg:=⟨14,[2],none,[194],[],false⟩) (args:=[I a]) (by kernel_rfl) (B0 Tryz.call194 Bodies.nil) (Eq.mp (by kernel_rfl) hvc)
def B22(P:Program)(d:ByteArray)(h:Heap)(K:Value->Heap->Prop):Prop:=
 FCall P Dr #[.string d] h (fun e f=>∃ (a:OA) (b c:Nat),e= .slice a b c/\K (.agg #[.bool false,.slice a b c]) f)
theorem A7r(a:ByteArray)(hvc:B22 Tryz.prog a h K):FCall Tryz.prog Nw #[.string a] h K:=
 B7 Tryz.func114 (c:=C2 Tryz.f114) (by kernel_rfl) (rs:=[.cell 2 102]) (by kernel_rfl) (fa:=⟨[],[],[],[],[]⟩)
  (cfg:=⟨6,[2],none,[179],[],false⟩) (args:=[.string a]) (by kernel_rfl) (B0 Tryz.call179 Bodies.nil) (Eq.mp (by kernel_rfl) hvc)
def Qh(P:Program)(d:ByteArray)(h:Heap)(K:Value->Heap->Prop):Prop:=
 Br (decide (((ByteArray.size d:Nat):Int)>(570:Int))) (wpH P (Instr.buildSlice 100 1 #[(0,U 10000000000000000000)]) (fun N O=>∃ (n:OA) (o p:Nat),N= .slice n o p/\wpH P (Instr.buildSlice 137 1 #[(0,.slice n o p)]) (fun Q R=>∃ (q:OA) (r s:Nat),Q= .slice q r s/\wpH P (Builtin.append_ #[137,137] 137 #[.slice none 0 0,.slice q r s]) (fun S T=>∃ (t:OA) (u v:Nat),S= .slice t u v/\∃ (f:List Value->Heap->Prop) (w:List Value->Heap->Nat),f [.slice t u v] T/\
 ∀ (b:OA) (a e:Nat),∀ c,f [.slice b a e] c->Br (decide ((a:Int)<0)) False
 (Br (decide ((B4 ((19:Int)*2^(min ((a:Int)).toNat 64)))<((ByteArray.size d:Nat):Int))) (∃ M,b=some M/\0<=B4 ((a:Int)-1)/\B4 ((a:Int)-1)<(a:Int)/\∃ (g:OA) (i j:Nat),c.cell? (M.add ((B4 ((a:Int)-1)).toNat*1))=some (.slice g i j)/\FCall P D3 #[.slice g i j,.slice g i j] c (fun V W=>∃ (x:OA) (y z:Nat),V= .slice x y z/\wpH P (Instr.buildSlice 137 1 #[(0,.slice x y z)]) (fun X Z=>∃ (A:OA) (B C:Nat),X= .slice A B C/\wpH P (Builtin.append_ #[137,137] 137 #[.slice b a e,.slice A B C]) (fun a0 L=>∃ (k:OA) (l m:Nat),a0= .slice k l m/\f [.slice k l m] L/\w [.slice k l m] L<w [.slice b a e] c) Z) W))
 (FCall P K3 #[.string d,.slice b a e] c (fun a1 a2=>∃ (D:OA) (E F:Nat),a1= .slice D E F/\K (.slice D E F) a2)))) R) O) h)
 (FCall P K3 #[.string d,.slice none 0 0] h (fun a3 a4=>∃ (G:OA) (H J:Nat),a3= .slice G H J/\K (.slice G H J) a4))
theorem Rl(a:ByteArray)(hvc:Qh Tryz.prog a h K):FCall Tryz.prog Dr #[.string a] h K:=
 B7 Tryz.func179 (c:=C2 Tryz.f179) (by kernel_rfl) (rs:=[.tmp 2]) (by kernel_rfl) (fa:=⟨[(4,⟨[3],[],[.slice none 0 0],⟨([3,4]++Lrg 12 18),[]⟩⟩)],[],[],[],[]⟩)
  (cfg:=⟨33,[],none,[203,216],[],false⟩) (args:=[.string a]) (by kernel_rfl) (B0 Tryz.call203 (B0 Tryz.call216 Bodies.nil)) (Eq.mp (by kernel_rfl) hvc)
def Qi(P:Program)(b:ByteArray)(e:OA)(f d:Nat)(h:Heap)(K:Value->Heap->Prop):Prop:=
 ∃ (g:List Value->Heap->Prop) (o:List Value->Heap->Nat),g [I (B4 ((f:Int)-1))] h/\
 ∀ (a:Int),∀ c,g [I a] c->Br (decide (a>=(0:Int))) (Br (decide (a<0)) False
 (Br (decide ((B4 ((19:Int)*2^(min a.toNat 64)))>=((ByteArray.size b:Nat):Int))) (g [I (B4 (a-1))] c/\o [I (B4 (a-1))] c<o [I a] c)
 (Br (decide (a<(0:Int))) (FCall P K7 #[.string b] c (fun b4 b5=>∃ (p:OA) (q r:Nat),b4= .slice p q r/\K (.slice p q r) b5))
 (Br (decide (((ByteArray.size b:Nat):Int)<=(570:Int))) (FCall P K7 #[.string b] c (fun b6 b7=>∃ (s:OA) (t u:Nat),b6= .slice s t u/\K (.slice s t u) b7))
 (Br (decide (a<0)) False
 ((0<=B4 (((ByteArray.size b:Nat):Int)-(B4 ((19:Int)*2^(min a.toNat 64))))/\B4 (((ByteArray.size b:Nat):Int)-(B4 ((19:Int)*2^(min a.toNat 64))))<=(((b).size:Nat):Int))/\(0<=a/\a<=(d:Int))/\∃ b2,e=some b2/\0<=a/\a<(f:Int)/\∃ (v:OA) (w x:Nat),c.cell? (b2.add (a.toNat*1))=some (.slice v w x)/\FCall P K3 #[.string ((b).extract 0 ((B4 (((ByteArray.size b:Nat):Int)-(B4 ((19:Int)*2^(min a.toNat 64))))).toNat)),.slice (J6 e d 0 1) ((a.toNat)-0) (d-0)] c (fun b8 i=>∃ (y:OA) (z A:Nat),b8= .slice y z A/\Heap.le c i/\FCall P D3 #[.slice y z A,.slice v w x] i (fun b9 j=>∃ (B:OA) (C D:Nat),b9= .slice B C D/\Heap.le i j/\(0<=B4 (((ByteArray.size b:Nat):Int)-(B4 ((19:Int)*2^(min a.toNat 64))))/\B4 (((ByteArray.size b:Nat):Int)-(B4 ((19:Int)*2^(min a.toNat 64))))<=(((b).size:Nat):Int))/\(0<=a/\a<=(d:Int))/\FCall P K3 #[.string ((b).extract ((B4 (((ByteArray.size b:Nat):Int)-(B4 ((19:Int)*2^(min a.toNat 64))))).toNat) ((b).size)),.slice (J6 e d 0 1) ((a.toNat)-0) (d-0)] j (fun c0 k=>∃ (E:OA) (F G:Nat),c0= .slice E F G/\Heap.le j k/\FCall P M0 #[.slice B C D,.slice E F G] k (fun c1 b0=>∃ (H:OA) (J L:Nat),c1= .slice H J L/\Heap.le k b0/\K (.slice H J L) b0))))))))))
 (Br (decide (a<(0:Int))) (FCall P K7 #[.string b] c (fun c2 c3=>∃ (M:OA) (N O:Nat),c2= .slice M N O/\K (.slice M N O) c3))
 (Br (decide (((ByteArray.size b:Nat):Int)<=(570:Int))) (FCall P K7 #[.string b] c (fun c4 c5=>∃ (Q:OA) (R S:Nat),c4= .slice Q R S/\K (.slice Q R S) c5))
 (Br (decide (a<0)) False
 ((0<=B4 (((ByteArray.size b:Nat):Int)-(B4 ((19:Int)*2^(min a.toNat 64))))/\B4 (((ByteArray.size b:Nat):Int)-(B4 ((19:Int)*2^(min a.toNat 64))))<=(((b).size:Nat):Int))/\(0<=a/\a<=(d:Int))/\∃ b3,e=some b3/\0<=a/\a<(f:Int)/\∃ (T:OA) (V W:Nat),c.cell? (b3.add (a.toNat*1))=some (.slice T V W)/\FCall P K3 #[.string ((b).extract 0 ((B4 (((ByteArray.size b:Nat):Int)-(B4 ((19:Int)*2^(min a.toNat 64))))).toNat)),.slice (J6 e d 0 1) ((a.toNat)-0) (d-0)] c (fun c6 l=>∃ (X:OA) (Z a0:Nat),c6= .slice X Z a0/\Heap.le c l/\FCall P D3 #[.slice X Z a0,.slice T V W] l (fun c7 m=>∃ (a1:OA) (a2 a3:Nat),c7= .slice a1 a2 a3/\Heap.le l m/\(0<=B4 (((ByteArray.size b:Nat):Int)-(B4 ((19:Int)*2^(min a.toNat 64))))/\B4 (((ByteArray.size b:Nat):Int)-(B4 ((19:Int)*2^(min a.toNat 64))))<=(((b).size:Nat):Int))/\(0<=a/\a<=(d:Int))/\FCall P K3 #[.string ((b).extract ((B4 (((ByteArray.size b:Nat):Int)-(B4 ((19:Int)*2^(min a.toNat 64))))).toNat) ((b).size)),.slice (J6 e d 0 1) ((a.toNat)-0) (d-0)] m (fun c8 n=>∃ (a4:OA) (a5 a6:Nat),c8= .slice a4 a5 a6/\Heap.le m n/\FCall P M0 #[.slice a1 a2 a3,.slice a4 a5 a6] n (fun c9 b1=>∃ (a7:OA) (a8 a9:Nat),c9= .slice a7 a8 a9/\Heap.le n b1/\K (.slice a7 a8 a9) b1))))))))
theorem Rm(a:ByteArray)(b:OA)(d e:Nat)(hvc:Qi Tryz.prog a b d e h K):FCall Tryz.prog K3 #[.string a,.slice b d e] h K:=
 B7 Tryz.func216 (c:=C2 Tryz.f216) (by kernel_rfl) (rs:=[.tmp 4]) (by kernel_rfl) (fa:=⟨[(2,⟨[5],[],[.int .i64 0],⟨([5]++Lrg 11 11),[]⟩⟩)],[],[(7,([0,1,2,3,4,5,7,8,9,10,6,11,12],[[],[],[0,1],[],[],[3,4],[0,1,2,3,4,5],[],[],[7,8],[7,8,9],(Lrg 0 11),(Lrg 0 12)])),(8,((Lrg 0 10),[[],[],[],[1,2],[],[],[4,5],[1,2,3,4,5,6],(Lrg 0 8),(Lrg 0 9)]))],[],[]⟩)
  (cfg:=⟨57,[],none,[203,216,222,244],[],false⟩) (args:=[.string a,.slice b d e]) (by kernel_rfl) (B0 Tryz.call203 (B0 Tryz.call216 (B0 Tryz.call222 (B0 Tryz.call244 Bodies.nil)))) (Eq.mp (by kernel_rfl) hvc)
def S6(P:Program)(o:List Value->Heap->Prop)(i:List Value->Heap->Nat)(a:ByteArray)(d:OA)(c f:Nat)(A:Int)(B:Int)(p:Heap)(C:Heap):Prop:=
 ∃ (j:List Value->Heap->Prop) (q:List Value->Heap->Nat),j [U A,I 0] C/\
 ∀ (g:Int) (b:Int),∀ e,j [U g,I b] e->Br (decide (b<(c:Int))) (∃ y,d=some y/\0<=b/\b<(c:Int)/\∃ (r:Int),e.cell? (y.add (b.toNat*1))=some (U r)/\FCall P K8 #[U r,U B,U g] e (fun D E=>∃ (s:Int) (k:Int),D= .tuple #[U s,U k]/\∃ z,d=some z/\0<=b/\b<(c:Int)/\wpH P (Instr.storeAt 130 (.pointer (some (z.add (b.toNat*1)))) (U s)) (fun _ w=>j [U k,I (B4 (b+1))] w/\q [U k,I (B4 (b+1))] w<q [U g,I b] e) E))
 (Br (g != (0:Int)) (wpH P (Instr.buildSlice 100 1 #[(0,U g)]) (fun F G=>∃ (t:OA) (u v:Nat),F= .slice t u v/\wpH P (Builtin.append_ #[100,100] 100 #[.slice d c f,.slice t u v]) (fun H x=>∃ (l:OA) (m n:Nat),H= .slice l m n/\o [.string ((a).extract ((B4 ((Int.tmod (B4 (((ByteArray.size a:Nat):Int)-1)) (19:Int))+1)).toNat) ((a).size)),.slice l m n] x/\i [.string ((a).extract ((B4 ((Int.tmod (B4 (((ByteArray.size a:Nat):Int)-1)) (19:Int))+1)).toNat) ((a).size)),.slice l m n] x<i [.string a,.slice d c f] p) G) e)
 (o [.string ((a).extract ((B4 ((Int.tmod (B4 (((ByteArray.size a:Nat):Int)-1)) (19:Int))+1)).toNat) ((a).size)),.slice d c f] e/\i [.string ((a).extract ((B4 ((Int.tmod (B4 (((ByteArray.size a:Nat):Int)-1)) (19:Int))+1)).toNat) ((a).size)),.slice d c f] e<i [.string a,.slice d c f] p))
def Bv(P:Program)(l:List Value->Heap->Prop)(m:List Value->Heap->Nat)(e:ByteArray)(n:OA)(o p:Nat)(q:OA)(i:Nat)(r:Heap)(s:Heap):Prop:=
 ∃ (f:List Value->Heap->Prop) (j:List Value->Heap->Nat),f [U 0,U 1,I 0] r/\
 ∀ (c:Int) (d:Int) (a:Int),∀ b,f [U c,U d,I a] b->Br (decide (a<(i:Int))) (∃ k,q=some k/\0<=a/\a<(i:Int)/\∃ (g:Int),b.cell? (k.add (a.toNat*1))=some (Y g)/\f [U (B9 ((B9 ((10:Int)*c))+(B9 (wu8 (g-48))))),U (B9 (d*(10:Int))),I (B4 (a+1))] b/\j [U (B9 ((B9 ((10:Int)*c))+(B9 (wu8 (g-48))))),U (B9 (d*(10:Int))),I (B4 (a+1))] b<j [U c,U d,I a] b)
 ((0<=B4 ((Int.tmod (B4 (((ByteArray.size e:Nat):Int)-1)) (19:Int))+1)/\B4 ((Int.tmod (B4 (((ByteArray.size e:Nat):Int)-1)) (19:Int))+1)<=(((e).size:Nat):Int))/\S6 P l m e n o p c d s b)
def Hh(P:Program)(j:ByteArray)(h:Heap)(K:Value->Heap->Prop):Prop:=
 ∃ (c:List Value->Heap->Prop) (k:List Value->Heap->Nat),c [.string j,.slice none 0 0] h/\
 ∀ (a:ByteArray) (d:OA) (e f:Nat),∀ b,c [.string a,.slice d e f] b->Br (decide (((ByteArray.size a:Nat):Int)>(0:Int))) ((0<=B4 ((Int.tmod (B4 (((ByteArray.size a:Nat):Int)-1)) (19:Int))+1)/\B4 ((Int.tmod (B4 (((ByteArray.size a:Nat):Int)-1)) (19:Int))+1)<=(((a).size:Nat):Int))/\wpH P (convert 9 199 (.string ((a).extract 0 ((B4 ((Int.tmod (B4 (((ByteArray.size a:Nat):Int)-1)) (19:Int))+1)).toNat)))) (fun m n=>∃ (g:OA) (i l:Nat),m= .slice g i l/\Bv P c k a d e f g i n b) b)
 (K (.slice d e f) b)
def My(P:Program)(a:ByteArray)(h:Heap)(K:Value->Heap->Prop):Prop:=
 Hh P a h K
theorem Qj(a:ByteArray)(hvc:My Tryz.prog a h K):FCall Tryz.prog K7 #[.string a] h K:=
 B7 Tryz.func244 (c:=C2 Tryz.f244) (by kernel_rfl) (rs:=[.tmp 2]) (by kernel_rfl) (fa:=⟨[(2,⟨[0,3],[],[.string ⟨#[]⟩,.slice none 0 0],⟨([0,3,4,5,6]++Lrg 8 58),[]⟩⟩),(6,⟨[5,6,25],[],[.int .u64 0,.int .u64 0,.int .i64 0],⟨([5,6,8]++Lrg 25 13),[]⟩⟩),(14,⟨[9,44],[],[.int .u64 0,.int .i64 0],⟨([9,10,11]++Lrg 44 16),[]⟩⟩)],[],[],[],[]⟩)
  (cfg:=⟨67,[],none,[247],[],false⟩) (args:=[.string a]) (by kernel_rfl) (B0 Tryz.call247 Bodies.nil) (Eq.mp (by kernel_rfl) hvc)
def Nc(P:Program)(f:OA)(g i:Nat)(j:OA)(b r:Nat)(h:Heap)(K:Value->Heap->Prop):Prop:=
 Br ((b:Int)==(0:Int)) (wpH P (Instr.buildSlice 199 1 #[(0,Y (48:Int))]) (fun a7 a8=>∃ (s:OA) (t u:Nat),a7= .slice s t u/\wpH P (Builtin.append_ #[199,199] 199 #[.slice f g i,.slice s t u]) (fun a9 b0=>∃ (v:OA) (w x:Nat),a9= .slice v w x/\K (.slice v w x) b0) a8) h)
 (Br ((b:Int)==(1:Int)) (∃ a2,j=some a2/\0<=(0:Int)/\(0:Int)<(b:Int)/\∃ (y:Int),h.cell? (a2.add (((0:Int)).toNat*1))=some (U y)/\FCall P 225 #[.slice f g i,U y,I 10] h (fun b1 b2=>∃ (z:OA) (A B:Nat),b1= .slice z A B/\K (.slice z A B) b2))
 (wpH P (Instr.buildSlice 100 1 #[(0,U 10000000000000000000)]) (fun b3 b4=>∃ (C:OA) (D E:Nat),b3= .slice C D E/\wpH P (Instr.buildSlice 137 1 #[(0,.slice C D E)]) (fun b5 b6=>∃ (F:OA) (G H:Nat),b5= .slice F G H/\∃ (k:List Value->Heap->Prop) (J:List Value->Heap->Nat),k [.slice F G H] b6/\
 ∀ (c:OA) (a e:Nat),∀ d,k [.slice c a e] d->Br (decide ((b:Int)>(30:Int))) (∃ a3,c=some a3/\0<=B4 ((a:Int)-1)/\B4 ((a:Int)-1)<(a:Int)/\∃ (a5:OA) (L a6:Nat),d.cell? (a3.add ((B4 ((a:Int)-1)).toNat*1))=some (.slice a5 L a6)/\Br (decide ((B4 ((2:Int)*(L:Int)))<=(b:Int))) (∃ a4,c=some a4/\0<=B4 ((a:Int)-1)/\B4 ((a:Int)-1)<(a:Int)/\∃ (l:OA) (m n:Nat),d.cell? (a4.add ((B4 ((a:Int)-1)).toNat*1))=some (.slice l m n)/\FCall P D3 #[.slice l m n,.slice l m n] d (fun b7 b8=>∃ (M:OA) (N O:Nat),b7= .slice M N O/\wpH P (Instr.buildSlice 137 1 #[(0,.slice M N O)]) (fun b9 c0=>∃ (Q:OA) (R S:Nat),b9= .slice Q R S/\wpH P (Builtin.append_ #[137,137] 137 #[.slice c a e,.slice Q R S]) (fun c1 a1=>∃ (o:OA) (p q:Nat),c1= .slice o p q/\k [.slice o p q] a1/\J [.slice o p q] a1<J [.slice c a e] d) c0) b8))
 (FCall P G7 #[.slice f g i,.slice j b r,I 0,.slice c a e] d (fun c2 c3=>∃ (T:OA) (V W:Nat),c2= .slice T V W/\K (.slice T V W) c3)))
 (FCall P G7 #[.slice f g i,.slice j b r,I 0,.slice c a e] d (fun c4 c5=>∃ (X:OA) (Z a0:Nat),c4= .slice X Z a0/\K (.slice X Z a0) c5))) b4) h))
theorem Qn(a:OA)(b d:Nat)(e:OA)(f g:Nat)(hvc:Nc Tryz.prog a b d e f g h K):FCall Tryz.prog U4 #[.slice a b d,.slice e f g] h K:=
 B7 Tryz.func198 (c:=C2 Tryz.f198) (by kernel_rfl) (rs:=[.tmp 4]) (by kernel_rfl) (fa:=⟨[(6,⟨[5],[],[.slice none 0 0],⟨([5,6]++Lrg 23 28),[]⟩⟩)],[],[],[],[]⟩)
  (cfg:=⟨55,[],none,[203,225,226],[],false⟩) (args:=[.slice a b d,.slice e f g]) (by kernel_rfl) (B0 Tryz.call203 (B0 Tryz.call225 (B0 Tryz.call226 Bodies.nil))) (Eq.mp (by kernel_rfl) hvc)
def Ge(P:Program)(e:OA)(f g:Nat)(n:OA)(i o:Nat)(c:Int)(d:OA)(a b:Nat)(h:Heap)(K:Value->Heap->Prop):Prop:=
 Br (decide ((B4 ((a:Int)-1))<(0:Int))) (FCall P S2 #[.slice e f g,.slice n i o,I c] h (fun V W=>∃ (s:OA) (t u:Nat),V= .slice s t u/\K (.slice s t u) W))
 (Br (decide ((i:Int)<=(30:Int))) (FCall P S2 #[.slice e f g,.slice n i o,I c] h (fun X Z=>∃ (v:OA) (w x:Nat),X= .slice v w x/\K (.slice v w x) Z))
 (∃ T,d=some T/\0<=B4 ((a:Int)-1)/\B4 ((a:Int)-1)<(a:Int)/\∃ (y:OA) (z A:Nat),h.cell? (T.add ((B4 ((a:Int)-1)).toNat*1))=some (.slice y z A)/\FCall P N3 #[.slice n i o,.slice y z A] h (fun a0 r=>∃ (p:OA) (j q:Nat) (k:OA) (l m:Nat),a0= .tuple #[.slice p j q,.slice k l m]/\Br (decide (B4 ((a:Int)-1)<0)) False
 (Br ((j:Int)==(0:Int)) (Br (c==(0:Int)) ((0<=B4 ((a:Int)-1)/\B4 ((a:Int)-1)<=(b:Int))/\FCall P G7 #[.slice e f g,.slice k l m,I 0,.slice (J6 d b 0 1) (((B4 ((a:Int)-1)).toNat)-0) (b-0)] r (fun a1 a2=>∃ (B:OA) (C D:Nat),a1= .slice B C D/\K (.slice B C D) a2))
 ((0<=B4 ((a:Int)-1)/\B4 ((a:Int)-1)<=(b:Int))/\FCall P G7 #[.slice e f g,.slice p j q,I (if (0:Int)>(B4 (c-(B4 ((19:Int)*2^(min (B4 ((a:Int)-1)).toNat 64))))) then (0:Int) else B4 (c-(B4 ((19:Int)*2^(min (B4 ((a:Int)-1)).toNat 64))))),.slice (J6 d b 0 1) (((B4 ((a:Int)-1)).toNat)-0) (b-0)] r (fun a3 a4=>∃ (E:OA) (F G:Nat),a3= .slice E F G/\(0<=B4 ((a:Int)-1)/\B4 ((a:Int)-1)<=(b:Int))/\FCall P G7 #[.slice E F G,.slice k l m,I (B4 ((19:Int)*2^(min (B4 ((a:Int)-1)).toNat 64))),.slice (J6 d b 0 1) (((B4 ((a:Int)-1)).toNat)-0) (b-0)] a4 (fun a5 a6=>∃ (H:OA) (J L:Nat),a5= .slice H J L/\K (.slice H J L) a6))))
 ((0<=B4 ((a:Int)-1)/\B4 ((a:Int)-1)<=(b:Int))/\FCall P G7 #[.slice e f g,.slice p j q,I (if (0:Int)>(B4 (c-(B4 ((19:Int)*2^(min (B4 ((a:Int)-1)).toNat 64))))) then (0:Int) else B4 (c-(B4 ((19:Int)*2^(min (B4 ((a:Int)-1)).toNat 64))))),.slice (J6 d b 0 1) (((B4 ((a:Int)-1)).toNat)-0) (b-0)] r (fun a7 a8=>∃ (M:OA) (N O:Nat),a7= .slice M N O/\(0<=B4 ((a:Int)-1)/\B4 ((a:Int)-1)<=(b:Int))/\FCall P G7 #[.slice M N O,.slice k l m,I (B4 ((19:Int)*2^(min (B4 ((a:Int)-1)).toNat 64))),.slice (J6 d b 0 1) (((B4 ((a:Int)-1)).toNat)-0) (b-0)] a8 (fun a9 b0=>∃ (Q:OA) (R S:Nat),a9= .slice Q R S/\K (.slice Q R S) b0)))))))
theorem Gd(a:OA)(b d:Nat)(e:OA)(f g:Nat)(i:Int)(j:OA)(k l:Nat)(hvc:Ge Tryz.prog a b d e f g i j k l h K):FCall Tryz.prog G7 #[.slice a b d,.slice e f g,I i,.slice j k l] h K:=
 B7 Tryz.func226 (c:=C2 Tryz.f226) (by kernel_rfl) (rs:=[.tmp 8]) (by kernel_rfl) (fa:=⟨[],[],[],[],[]⟩)
  (cfg:=⟨68,[],none,[219,226,250],[],false⟩) (args:=[.slice a b d,.slice e f g,I i,.slice j k l]) (by kernel_rfl) (B0 Tryz.call219 (B0 Tryz.call226 (B0 Tryz.call250 Bodies.nil))) (Eq.mp (by kernel_rfl) hvc)
def By(P:Program)(H:Nat)(J:List Value->Heap->Prop)(p:List Value->Heap->Nat)(q:OA)(r s:Nat)(j:Int)(L:Int)(M:Heap)(N:Heap):Prop:=
 ∃ (k:List Value->Heap->Prop) (l:List Value->Heap->Nat),k [.slice q r s,U L,I (B4 (j+(H:Int)))] M/\
 ∀ (c:OA) (b d:Nat) (f:Int) (a:Int),∀ e,k [.slice c b d,U f,I a] e->Br (f != (0:Int)) (Br (a==(b:Int)) (wpH P (Instr.buildSlice 100 1 #[(0,U 0)]) (fun O Q=>∃ (t:OA) (u v:Nat),O= .slice t u v/\wpH P (Builtin.append_ #[100,100] 100 #[.slice c b d,.slice t u v]) (fun R A=>∃ (g:OA) (i m:Nat),R= .slice g i m/\∃ D,g=some D/\0<=a/\a<(i:Int)/\∃ (w:Int),A.cell? (D.add (a.toNat*1))=some (U w)/\ECall P Q5 #[U w,U f,U 0] A (fun S T=>∃ (x:Int) (n:Int),S= .tuple #[U x,U n]/\∃ E,g=some E/\0<=a/\a<(i:Int)/\wpH P (Instr.storeAt 130 (.pointer (some (E.add (a.toNat*1)))) (U x)) (fun _ B=>k [.slice g i m,U n,I (B4 (a+1))] B/\l [.slice g i m,U n,I (B4 (a+1))] B<l [.slice c b d,U f,I a] e) T)) Q) e)
 (∃ F,c=some F/\0<=a/\a<(b:Int)/\∃ (y:Int),e.cell? (F.add (a.toNat*1))=some (U y)/\ECall P Q5 #[U y,U f,U 0] e (fun V W=>∃ (z:Int) (o:Int),V= .tuple #[U z,U o]/\∃ G,c=some G/\0<=a/\a<(b:Int)/\wpH P (Instr.storeAt 130 (.pointer (some (G.add (a.toNat*1)))) (U z)) (fun _ C=>k [.slice c b d,U o,I (B4 (a+1))] C/\l [.slice c b d,U o,I (B4 (a+1))] C<l [.slice c b d,U f,I a] e) W)))
 (J [.slice c b d,I (B4 (j+1))] e/\p [.slice c b d,I (B4 (j+1))] e<p [.slice q r s,I j] N)
def Ef(P:Program)(K:Value->Heap->Prop)(m:OA)(b n:Nat)(o:OA)(i:Nat)(p:OA)(q r:Nat)(s:Heap):Prop:=
 ∃ (f:List Value->Heap->Prop) (t:List Value->Heap->Nat),f [.slice p q r,I 0] s/\
 ∀ (e:OA) (g c:Nat) (a:Int),∀ d,f [.slice e g c,I a] d->Br (decide (a<(i:Int))) (∃ l,o=some l/\0<=a/\a<(i:Int)/\∃ (j:Int),d.cell? (l.add (a.toNat*1))=some (U j)/\(0<=B4 (a+(b:Int))/\B4 (a+(b:Int))<=(c:Int))/\(0<=a/\a<=(((B4 (a+(b:Int))).toNat:Nat):Int))/\FCall P Z8 #[.slice (J6 e c (a.toNat) 1) (((B4 (a+(b:Int))).toNat)-(a.toNat)) (c-(a.toNat)),.slice m b n,U j] d (fun u v=>∃ (k:Int),u=U k/\By P b f t e g c a k v d))
 (K (.slice e g c) d)
def Kg(P:Program)(q:OA)(r s:Nat)(K:Value->Heap->Prop)(t:OA)(j u:Nat)(v:OA)(k:Nat)(w:Heap):Prop:=
 ∃ (e:List Value->Heap->Prop) (l:List Value->Heap->Nat),e [.slice q r s] w/\
 ∀ (b:OA) (a c:Nat),∀ d,e [.slice b a c] d->Br (decide ((a:Int)<(B4 ((j:Int)+(k:Int))))) (wpH P (Instr.buildSlice 100 1 #[(0,U 0)]) (fun x y=>∃ (m:OA) (n o:Nat),x= .slice m n o/\wpH P (Builtin.append_ #[100,100] 100 #[.slice b a c,.slice m n o]) (fun z p=>∃ (f:OA) (g i:Nat),z= .slice f g i/\e [.slice f g i] p/\l [.slice f g i] p<l [.slice b a c] d) y) d)
 (Ef P K t j u v k b a c d)
def Qp(P:Program)(C:OA)(D E:Nat)(m:OA)(b n:Nat)(o:OA)(c p:Nat)(h:Heap)(K:Value->Heap->Prop):Prop:=
 ∃ (d:List Value->Heap->Prop),(Br (decide ((b:Int)<(c:Int))) (d [.slice o c p,.slice m b n] h)
 (d [.slice m b n,.slice o c p] h))/\
 ∀ (e:OA) (f g:Nat) (i:OA) (a j:Nat),∀ l,d [.slice e f g,.slice i a j] l->∃ (k:List Value->Heap->Prop),(Br (decide ((a:Int)>=(40:Int))) (FCall P D3 #[.slice e f g,.slice i a j] l (fun G H=>∃ (q:OA) (r s:Nat),G= .slice q r s/\wpH P (Instr.buildSlice 100 1 #[(0,U 1)]) (fun J L=>∃ (t:OA) (u v:Nat),J= .slice t u v/\k [.slice q r s,.slice t u v] L) H))
 (k [.slice e f g,.slice i a j] l))/\
 ∀ (w:OA) (x y:Nat) (z:OA) (A F:Nat),∀ B,k [.slice w x y,.slice z A F] B->Kg P C D E K w x y z A B
theorem Rp(a:OA)(b d:Nat)(e:OA)(f g:Nat)(i:OA)(j k:Nat)(hvc:Qp Tryz.prog a b d e f g i j k h K):FCall Tryz.prog Z9 #[.slice a b d,.slice e f g,.slice i j k] h K:=
 B7 Tryz.func199 (c:=C2 Tryz.f199) (by kernel_rfl) (rs:=[.tmp 6]) (by kernel_rfl) (fa:=⟨[(5,⟨[0],[],[.slice none 0 0],⟨([0]++Lrg 25 11),[]⟩⟩),(8,⟨[0,38],[],[.slice none 0 0,.int .i64 0],⟨([0,7,8,9,10]++Lrg 38 43),[]⟩⟩),(12,⟨[0,9,10],[],[.slice none 0 0,.int .u64 0,.int .i64 0],⟨([0,9,10]++Lrg 57 23),[]⟩⟩)],[(3,⟨[1,2],[],[.slice none 0 0,.slice none 0 0],⟨[1,2,11,12,13,14,15,16,17],[]⟩⟩),(5,⟨[1,2],[],[.slice none 0 0,.slice none 0 0],⟨[1,2,18,19,20,21,22,23,24],[]⟩⟩)],[],[],[]⟩)
  (cfg:=⟨82,[],none,[203,227],[227],false⟩) (args:=[.slice a b d,.slice e f g,.slice i j k]) (by kernel_rfl) (B0 Tryz.call203 (B0 Tryz.call227 Bodies.nil)) (Eq.mp (by kernel_rfl) hvc)
def Gc(P:Program)(i:OA)(d j:Nat)(k:OA)(l m:Nat)(h:Heap)(K:Value->Heap->Prop):Prop:=
 wpH P (Instr.makeSlice 100 (I (d:Int)) (I (d:Int))) (fun o p=>∃ (a:OA) (b c:Nat),o= .slice a b c/\wpH P (Builtin.copy_ #[100,100] 3 #[.slice a b c,.slice i d j]) (fun q r=>∃ (n:Int),q=I n/\FCall P R9 #[.slice a b c,.slice k l m] r (fun s t=>s= .tuple #[]/\FCall P I0 #[.slice a b c] t (fun u v=>∃ (e:OA) (f g:Nat),u= .slice e f g/\K (.slice e f g) v))) p) h
theorem Ke(a:OA)(b d:Nat)(e:OA)(f g:Nat)(hvc:Gc Tryz.prog a b d e f g h K):FCall Tryz.prog P0 #[.slice a b d,.slice e f g] h K:=
 B7 Tryz.func202 (c:=C2 Tryz.f202) (by kernel_rfl) (rs:=[.tmp 4]) (by kernel_rfl) (fa:=⟨[],[],[],[],[]⟩)
  (cfg:=⟨17,[],none,[200,231],[231],false⟩) (args:=[.slice a b d,.slice e f g]) (by kernel_rfl) (B0 Tryz.call200 (B0 Tryz.call231 Bodies.nil)) (Eq.mp (by kernel_rfl) hvc)
def B20(P:Program)(b:Bool)(e:OA)(c f:Nat)(h:Heap)(K:Value->Heap->Prop):Prop:=
 Br ((c:Int)==(0:Int)) (K (.tuple #[I 0,.bool true]) h)
 (∃ d,e=some d/\0<=(0:Int)/\(0:Int)<(c:Int)/\∃ (a:Int),h.cell? (d.add (((0:Int)).toNat*1))=some (U a)/\Br (decide ((c:Int)>(1:Int))) (K (.tuple #[I 0,.bool false]) h)
 (Br b (Br (decide (a<=(9223372036854775808:Int))) (K (.tuple #[I (B4 (B9 (0-a))),.bool true]) h)
 (Br (!b) (Br (decide (a<=(9223372036854775807:Int))) (K (.tuple #[I (B4 a),.bool true]) h)
 (K (.tuple #[I 0,.bool false]) h))
 (K (.tuple #[I 0,.bool false]) h)))
 (Br (!b) (Br (decide (a<=(9223372036854775807:Int))) (K (.tuple #[I (B4 a),.bool true]) h)
 (K (.tuple #[I 0,.bool false]) h))
 (K (.tuple #[I 0,.bool false]) h))))
theorem A7m(a:Bool)(b:OA)(d e:Nat)(hvc:B20 Tryz.prog a b d e h K):FCall Tryz.prog Uo #[.agg #[.bool a,.slice b d e]] h K:=
 B7 Tryz.func147 (c:=C2 Tryz.f147) (by kernel_rfl) (rs:=[.tmp 2,.tmp 3]) (by kernel_rfl) (fa:=⟨[],[],[],[],[]⟩)
  (cfg:=⟨38,[1],none,[],[],false⟩) (args:=[.agg #[.bool a,.slice b d e]]) (by kernel_rfl) Bodies.nil (Eq.mp (by kernel_rfl) hvc)
def A7o(P:Program)(t:Bool)(a:OA)(b c:Nat)(d:OA)(e f:Nat)(h:Heap)(K:Value->Heap->Prop):Prop:=
 Br t (wpH P (Instr.buildSlice 199 1 #[(0,Y (45:Int))]) (fun u v=>∃ (g:OA) (i j:Nat),u= .slice g i j/\wpH P (Builtin.append_ #[199,199] 199 #[.slice d e f,.slice g i j]) (fun w x=>∃ (k:OA) (l m:Nat),w= .slice k l m/\FCall P U4 #[.slice k l m,.slice a b c] x (fun y z=>∃ (n:OA) (o p:Nat),y= .slice n o p/\K (.slice n o p) z)) v) h)
 (FCall P U4 #[.slice d e f,.slice a b c] h (fun A B=>∃ (q:OA) (r s:Nat),A= .slice q r s/\K (.slice q r s) B))
theorem A41(a:Bool)(b:OA)(d e:Nat)(f:OA)(g i:Nat)(hvc:A7o Tryz.prog a b d e f g i h K):FCall Tryz.prog Fn #[.agg #[.bool a,.slice b d e],.slice f g i] h K:=
 B7 Tryz.func150 (c:=C2 Tryz.f150) (by kernel_rfl) (rs:=[.tmp 4]) (by kernel_rfl) (fa:=⟨[],[],[],[],[]⟩)
  (cfg:=⟨14,[2],none,[198],[],false⟩) (args:=[.agg #[.bool a,.slice b d e],.slice f g i]) (by kernel_rfl) (B0 Tryz.call198 Bodies.nil) (Eq.mp (by kernel_rfl) hvc)
def A7i(P:Program)(e:Bool)(f:OA)(g i:Nat)(h:Heap)(K:Value->Heap->Prop):Prop:=
 FCall P Fn #[.agg #[.bool e,.slice f g i],.slice none 0 0] h (fun j k=>∃ (a:OA) (b c:Nat),j= .slice a b c/\wpH P (convert 199 9 (.slice a b c)) (fun l m=>∃ (d:ByteArray),l= .string d/\K (.string d) m) k)
theorem A3y(a:Bool)(b:OA)(d e:Nat)(hvc:A7i Tryz.prog a b d e h K):FCall Tryz.prog Pb #[.agg #[.bool a,.slice b d e]] h K:=
 B7 Tryz.func149 (c:=C2 Tryz.f149) (by kernel_rfl) (rs:=[.tmp 2]) (by kernel_rfl) (fa:=⟨[],[],[],[],[]⟩)
  (cfg:=⟨6,[1],none,[150],[],false⟩) (args:=[.agg #[.bool a,.slice b d e]]) (by kernel_rfl) (B0 Tryz.call150 Bodies.nil) (Eq.mp (by kernel_rfl) hvc)
def B64(P:Program)(a:Bool)(c:OA)(b d:Nat)(h:Heap)(K:Value->Heap->Prop):Prop:=
 Br ((b:Int)==(0:Int)) (K (I 0) h)
 (Br a (K (I (-1:Int)) h)
 (K (I 1) h))
theorem B0j(a:Bool)(b:OA)(d e:Nat)(hvc:B64 Tryz.prog a b d e h K):FCall Tryz.prog Pc #[.agg #[.bool a,.slice b d e]] h K:=
 B7 Tryz.func184 (c:=C2 Tryz.f184) (by kernel_rfl) (rs:=[.tmp 2]) (by kernel_rfl) (fa:=⟨[],[],[],[],[]⟩)
  (cfg:=⟨11,[1],none,[],[],false⟩) (args:=[.agg #[.bool a,.slice b d e]]) (by kernel_rfl) Bodies.nil (Eq.mp (by kernel_rfl) hvc)
def A7k(P:Program)(b:Bool)(c:OA)(a d:Nat)(h:Heap)(K:Value->Heap->Prop):Prop:=
 K (.bool ((a:Int)==(0:Int))) h
theorem A40(a:Bool)(b:OA)(d e:Nat)(hvc:A7k Tryz.prog a b d e h K):FCall Tryz.prog E9 #[.agg #[.bool a,.slice b d e]] h K:=
 B7 Tryz.func138 (c:=C2 Tryz.f138) (by kernel_rfl) (rs:=[.tmp 2]) (by kernel_rfl) (fa:=⟨[],[],[],[],[]⟩)
  (cfg:=⟨7,[1],none,[],[],false⟩) (args:=[.agg #[.bool a,.slice b d e]]) (by kernel_rfl) Bodies.nil (Eq.mp (by kernel_rfl) hvc)
def B1z(P:Program)(d:Bool)(e:OA)(a f:Nat)(h:Heap)(K:Value->Heap->Prop):Prop:=
 Br (!d) (Br ((a:Int)==(1:Int)) (∃ c,e=some c/\0<=(0:Int)/\(0:Int)<(a:Int)/\∃ (b:Int),h.cell? (c.add (((0:Int)).toNat*1))=some (U b)/\K (.bool (b==(1:Int))) h)
 (K (.bool false) h))
 (K (.bool false) h)
theorem A7l(a:Bool)(b:OA)(d e:Nat)(hvc:B1z Tryz.prog a b d e h K):FCall Tryz.prog Z6 #[.agg #[.bool a,.slice b d e]] h K:=
 B7 Tryz.func116 (c:=C2 Tryz.f116) (by kernel_rfl) (rs:=[.tmp 2]) (by kernel_rfl) (fa:=⟨[],[],[],[],[]⟩)
  (cfg:=⟨19,[1],none,[],[],false⟩) (args:=[.agg #[.bool a,.slice b d e]]) (by kernel_rfl) Bodies.nil (Eq.mp (by kernel_rfl) hvc)
def B21(P:Program)(b:Bool)(c:OA)(d e:Nat)(f:Bool)(g:OA)(i j:Nat)(h:Heap)(K:Value->Heap->Prop):Prop:=
 Br (b==f) (FCall P H1 #[.slice c d e,.slice g i j] h (fun k l=>∃ (a:Int),k=I a/\K (.bool (a==(0:Int))) l))
 (K (.bool false) h)
theorem A7n(a:Bool)(b:OA)(d e:Nat)(f:Bool)(g:OA)(i j:Nat)(hvc:B21 Tryz.prog a b d e f g i j h K):FCall Tryz.prog Up #[.agg #[.bool a,.slice b d e],.agg #[.bool f,.slice g i j]] h K:=
 B7 Tryz.func192 (c:=C2 Tryz.f192) (by kernel_rfl) (rs:=[.tmp 4]) (by kernel_rfl) (fa:=⟨[],[],[],[],[]⟩)
  (cfg:=⟨18,[2,3],none,[201],[],false⟩) (args:=[.agg #[.bool a,.slice b d e],.agg #[.bool f,.slice g i j]]) (by kernel_rfl) (B0 Tryz.call201 Bodies.nil) (Eq.mp (by kernel_rfl) hvc)
def B93(P:Program)(e:Bool)(f:OA)(g i:Nat)(h:Heap)(K:Value->Heap->Prop):Prop:=
 FCall P O2 #[.bool (!e),.slice f g i] h (fun j k=>∃ (a:Bool) (b:OA) (c d:Nat),j= .agg #[.bool a,.slice b c d]/\K (.agg #[.bool a,.slice b c d]) k)
theorem B3x(a:Bool)(b:OA)(d e:Nat)(hvc:B93 Tryz.prog a b d e h K):FCall Tryz.prog Jj #[.agg #[.bool a,.slice b d e]] h K:=
 B7 Tryz.func145 (c:=C2 Tryz.f145) (by kernel_rfl) (rs:=[.cell 2 102]) (by kernel_rfl) (fa:=⟨[],[],[],[],[]⟩)
  (cfg:=⟨9,[1,2],none,[197],[],false⟩) (args:=[.agg #[.bool a,.slice b d e]]) (by kernel_rfl) (B0 Tryz.call197 Bodies.nil) (Eq.mp (by kernel_rfl) hvc)
def B97(P:Program)(i:Bool)(a:OA)(b c:Nat)(m:Bool)(d:OA)(e f:Nat)(h:Heap)(K:Value->Heap->Prop):Prop:=
 Br (i==m) (FCall P M0 #[.slice a b c,.slice d e f] h (fun O j=>∃ (n:OA) (o p:Nat),O= .slice n o p/\Heap.le h j/\FCall P O2 #[.bool i,.slice n o p] j (fun Q L=>∃ (q:Bool) (r:OA) (s t:Nat),Q= .agg #[.bool q,.slice r s t]/\Heap.le j L/\K (.agg #[.bool q,.slice r s t]) L)))
 (FCall P H1 #[.slice a b c,.slice d e f] h (fun R g=>∃ (u:Int),R=I u/\Br (decide (u>=(0:Int))) (FCall P G1 #[.slice a b c,.slice d e f] g (fun S k=>∃ (v:OA) (w x:Nat),S= .slice v w x/\Heap.le g k/\FCall P O2 #[.bool i,.slice v w x] k (fun T M=>∃ (y:Bool) (z:OA) (A B:Nat),T= .agg #[.bool y,.slice z A B]/\Heap.le k M/\K (.agg #[.bool y,.slice z A B]) M)))
 (FCall P G1 #[.slice d e f,.slice a b c] g (fun V l=>∃ (C:OA) (D E:Nat),V= .slice C D E/\Heap.le g l/\FCall P O2 #[.bool m,.slice C D E] l (fun W N=>∃ (F:Bool) (G:OA) (H J:Nat),W= .agg #[.bool F,.slice G H J]/\Heap.le l N/\K (.agg #[.bool F,.slice G H J]) N)))))
theorem B41(a:Bool)(b:OA)(d e:Nat)(f:Bool)(g:OA)(i j:Nat)(hvc:B97 Tryz.prog a b d e f g i j h K):FCall Tryz.prog Sf #[.agg #[.bool a,.slice b d e],.agg #[.bool f,.slice g i j]] h K:=
 B7 Tryz.func183 (c:=C2 Tryz.f183) (by kernel_rfl) (rs:=[.cell 4 102]) (by kernel_rfl) (fa:=⟨[],[],[(2,((Lrg 0 9),[[],[0],[],[2],[],[4],[2,3,4,5],[0,1,2,3,4,5,6],(Lrg 0 8)])),(4,((Lrg 0 9),[[],[0],[],[2],[],[4],[2,3,4,5],[0,1,2,3,4,5,6],(Lrg 0 8)])),(5,((Lrg 0 9),[[],[0],[],[2],[],[4],[2,3,4,5],[0,1,2,3,4,5,6],(Lrg 0 8)]))],[],[]⟩)
  (cfg:=⟨40,[2,3,4],none,[197,201,222,223],[],false⟩) (args:=[.agg #[.bool a,.slice b d e],.agg #[.bool f,.slice g i j]]) (by kernel_rfl) (B0 Tryz.call197 (B0 Tryz.call201 (B0 Tryz.call222 (B0 Tryz.call223 Bodies.nil)))) (Eq.mp (by kernel_rfl) hvc)
def B94(P:Program)(k:Bool)(l:OA)(m n:Nat)(o:Bool)(p:OA)(q r:Nat)(h:Heap)(K:Value->Heap->Prop):Prop:=
 FCall P D3 #[.slice l m n,.slice p q r] h (fun s a=>∃ (b:OA) (c d:Nat),s= .slice b c d/\Heap.le h a/\FCall P O2 #[.bool (!(k==o)),.slice b c d] a (fun t j=>∃ (e:Bool) (f:OA) (g i:Nat),t= .agg #[.bool e,.slice f g i]/\Heap.le a j/\K (.agg #[.bool e,.slice f g i]) j))
theorem B3y(a:Bool)(b:OA)(d e:Nat)(f:Bool)(g:OA)(i j:Nat)(hvc:B94 Tryz.prog a b d e f g i j h K):FCall Tryz.prog Cl #[.agg #[.bool a,.slice b d e],.agg #[.bool f,.slice g i j]] h K:=
 B7 Tryz.func154 (c:=C2 Tryz.f154) (by kernel_rfl) (rs:=[.cell 4 102]) (by kernel_rfl) (fa:=⟨[],[],[(1,((Lrg 0 12),[[],[0],[],[2],[0,1,2,3],[],[5],[],[7],[5,6,7,8],(Lrg 0 10),(Lrg 0 11)]))],[],[]⟩)
  (cfg:=⟨16,[2,3,4],none,[197,203],[],false⟩) (args:=[.agg #[.bool a,.slice b d e],.agg #[.bool f,.slice g i j]]) (by kernel_rfl) (B0 Tryz.call197 (B0 Tryz.call203 Bodies.nil)) (Eq.mp (by kernel_rfl) hvc)
def A7j(P:Program)(b:Bool)(u:OA)(v w:Nat)(x:Bool)(y:OA)(c z:Nat)(h:Heap)(K:Value->Heap->Prop):Prop:=
 Br ((c:Int)==(0:Int)) (K (.tuple #[.agg #[.bool false,.slice none 0 0],.agg #[.bool false,.slice none 0 0]]) h)
 (FCall P N3 #[.slice u v w,.slice y c z] h (fun A s=>∃ (d:OA) (e f:Nat) (g:OA) (i j:Nat),A= .tuple #[.slice d e f,.slice g i j]/\FCall P O2 #[.bool (!(b==x)),.slice d e f] s (fun B a=>∃ (k:Bool) (l:OA) (m n:Nat),B= .agg #[.bool k,.slice l m n]/\Heap.le s a/\FCall P O2 #[.bool b,.slice g i j] a (fun C t=>∃ (o:Bool) (p:OA) (q r:Nat),C= .agg #[.bool o,.slice p q r]/\Heap.le a t/\K (.tuple #[.agg #[.bool k,.slice l m n],.agg #[.bool o,.slice p q r]]) t))))
theorem A3z(a:Bool)(b:OA)(d e:Nat)(f:Bool)(g:OA)(i j:Nat)(hvc:A7j Tryz.prog a b d e f g i j h K):FCall Tryz.prog Pd #[.agg #[.bool a,.slice b d e],.agg #[.bool f,.slice g i j]] h K:=
 B7 Tryz.func195 (c:=C2 Tryz.f195) (by kernel_rfl) (rs:=[.cell 4 102,.cell 5 102]) (by kernel_rfl) (fa:=⟨[],[],[(4,([0,1,2,3,4,5,7,8,9,6,10,11,12],[[],[0],[],[2],[0,1,2,3],[],[0,1,2,3,4,5],[],[7],[],(Lrg 0 10),(Lrg 0 11),(Lrg 0 12)]))],[],[]⟩)
  (cfg:=⟨33,[2,3,4,5],none,[197,219],[],false⟩) (args:=[.agg #[.bool a,.slice b d e],.agg #[.bool f,.slice g i j]]) (by kernel_rfl) (B0 Tryz.call197 (B0 Tryz.call219 Bodies.nil)) (Eq.mp (by kernel_rfl) hvc)
def B92(P:Program)(a:Bool)(b:OA)(c d:Nat)(e:Bool)(f:OA)(g i:Nat)(h:Heap)(K:Value->Heap->Prop):Prop:=
 FCall P Z6 #[.agg #[.bool e,.slice f g i]] h (fun t o=>∃ (j:Bool),t= .bool j/\Br j (K (.agg #[.bool a,.slice b c d]) o)
 (FCall P Pd #[.agg #[.bool a,.slice b c d],.agg #[.bool e,.slice f g i]] o (fun u v=>∃ (k:Bool) (l:OA) (m n:Nat) (p:Bool) (q:OA) (r s:Nat),u= .tuple #[.agg #[.bool k,.slice l m n],.agg #[.bool p,.slice q r s]]/\K (.agg #[.bool k,.slice l m n]) v)))
theorem B3w(a:Bool)(b:OA)(d e:Nat)(f:Bool)(g:OA)(i j:Nat)(hvc:B92 Tryz.prog a b d e f g i j h K):FCall Tryz.prog Ck #[.agg #[.bool a,.slice b d e],.agg #[.bool f,.slice g i j]] h K:=
 B7 Tryz.func140 (c:=C2 Tryz.f140) (by kernel_rfl) (rs:=[.cell 4 102]) (by kernel_rfl) (fa:=⟨[],[],[],[],[]⟩)
  (cfg:=⟨17,[2,3,4,5,6],none,[116,195],[],false⟩) (args:=[.agg #[.bool a,.slice b d e],.agg #[.bool f,.slice g i j]]) (by kernel_rfl) (B0 Tryz.call116 (B0 Tryz.call195 Bodies.nil)) (Eq.mp (by kernel_rfl) hvc)
def B96(P:Program)(m:Bool)(d:OA)(e f:Nat)(n:Bool)(g:OA)(i j:Nat)(h:Heap)(K:Value->Heap->Prop):Prop:=
 FCall P Ds #[.slice d e f,.slice g i j] h (fun k l=>∃ (a:OA) (b c:Nat),k= .slice a b c/\K (.agg #[.bool false,.slice a b c]) l)
theorem B40(a:Bool)(b:OA)(d e:Nat)(f:Bool)(g:OA)(i j:Nat)(hvc:B96 Tryz.prog a b d e f g i j h K):FCall Tryz.prog Ml #[.agg #[.bool a,.slice b d e],.agg #[.bool f,.slice g i j]] h K:=
 B7 Tryz.func115 (c:=C2 Tryz.f115) (by kernel_rfl) (rs:=[.cell 4 102]) (by kernel_rfl) (fa:=⟨[],[],[],[],[]⟩)
  (cfg:=⟨11,[2,3,4],none,[180],[],false⟩) (args:=[.agg #[.bool a,.slice b d e],.agg #[.bool f,.slice g i j]]) (by kernel_rfl) (B0 Tryz.call180 Bodies.nil) (Eq.mp (by kernel_rfl) hvc)
def B95(P:Program)(z:Bool)(d:OA)(a e:Nat)(A:Bool)(f:OA)(b g:Nat)(h:Heap)(K:Value->Heap->Prop):Prop:=
 Br ((a:Int)==(0:Int)) (K (.agg #[.bool false,.slice none 0 0]) h)
 (Br ((b:Int)==(0:Int)) (K (.agg #[.bool false,.slice none 0 0]) h)
 (FCall P Ds #[.slice d a e,.slice f b g] h (fun v c=>∃ (i:OA) (j k:Nat),v= .slice i j k/\Heap.le h c/\FCall P N3 #[.slice f b g,.slice i j k] c (fun w r=>∃ (l:OA) (m n:Nat) (s:OA) (t u:Nat),w= .tuple #[.slice l m n,.slice s t u]/\Heap.le c r/\FCall P D3 #[.slice d a e,.slice l m n] r (fun x y=>∃ (o:OA) (p q:Nat),x= .slice o p q/\K (.agg #[.bool false,.slice o p q]) y)))))
theorem B3z(a:Bool)(b:OA)(d e:Nat)(f:Bool)(g:OA)(i j:Nat)(hvc:B95 Tryz.prog a b d e f g i j h K):FCall Tryz.prog A6m #[.agg #[.bool a,.slice b d e],.agg #[.bool f,.slice g i j]] h K:=
 B7 Tryz.func193 (c:=C2 Tryz.f193) (by kernel_rfl) (rs:=[.cell 4 102]) (by kernel_rfl) (fa:=⟨[],[],[(3,((Lrg 0 13),[[],[0],[],[2],[],[4],[2,3,4,5],[0,1,2,3,4,5,6],(Lrg 0 8),(Lrg 0 9),(Lrg 0 9),(Lrg 0 10),(Lrg 0 12)]))],[],[]⟩)
  (cfg:=⟨34,[2,3,4],none,[180,203,219],[],false⟩) (args:=[.agg #[.bool a,.slice b d e],.agg #[.bool f,.slice g i j]]) (by kernel_rfl) (B0 Tryz.call180 (B0 Tryz.call203 (B0 Tryz.call219 Bodies.nil))) (Eq.mp (by kernel_rfl) hvc)
def B27(P:Program)(i:OA)(h:Heap)(K:Value->Heap->Prop):Prop:=
 ∃ G,i=some G/\∃ (j:OA) (k l:Nat),h.cell? (G.add 0)=some (.slice j k l)/\∃ H,i=some H/\∃ (m:OA) (n o:Nat),h.cell? (H.add 1)=some (.slice m n o)/\FCall P I0 #[.slice j k l] h (fun J g=>∃ (a:OA) (b c:Nat),J= .slice a b c/\Heap.le h g/\FCall P I0 #[.slice m n o] g (fun L E=>∃ (d:OA) (e f:Nat),L= .slice d e f/\Heap.le g E/\FCall P H1 #[.slice a b c,.slice d e f] E (fun M F=>∃ (p:Int),M=I p/\Br (decide (p>=(0:Int))) (FCall P P0 #[.slice a b c,.slice d e f] F (fun N O=>∃ (q:OA) (r s:Nat),N= .slice q r s/\FCall P O2 #[.bool false,.slice q r s] O (fun Q R=>∃ (t:Bool) (u:OA) (v w:Nat),Q= .agg #[.bool t,.slice u v w]/\K (.agg #[.bool t,.slice u v w]) R)))
 (FCall P P0 #[.slice d e f,.slice a b c] F (fun S T=>∃ (x:OA) (y z:Nat),S= .slice x y z/\FCall P O2 #[.bool true,.slice x y z] T (fun V W=>∃ (A:Bool) (B:OA) (C D:Nat),V= .agg #[.bool A,.slice B C D]/\K (.agg #[.bool A,.slice B C D]) W))))))
theorem A7y(a:OA)(hvc:B27 Tryz.prog a h K):FCall Tryz.prog Us #[.pointer a] h K:=
 B7 Tryz.func153 (c:=C2 Tryz.f153) (by kernel_rfl) (rs:=[.cell 2 102]) (by kernel_rfl) (fa:=⟨[],[],[(1,([0,1,2,3,5,6,7,8,4,9,10,11],[[],[0],[0,1],[0,1,2],[0,1,2,3],[],[5],[5,6],[5,6,7],(Lrg 0 9),(Lrg 0 10),(Lrg 0 11)]))],[],[]⟩)
  (cfg:=⟨27,[2],none,[197,200,201,202],[],false⟩) (args:=[.pointer a]) (by kernel_rfl) (B0 Tryz.call197 (B0 Tryz.call200 (B0 Tryz.call201 (B0 Tryz.call202 Bodies.nil)))) (Eq.mp (by kernel_rfl) hvc)
def B24(P:Program)(T:Int)(V:Int)(W:Int)(X:Int)(Z:Bool)(q:OA)(j b7:Nat)(r:OA)(s b8:Nat)(h:Heap)(K:Value->Heap->Prop):Prop:=
 ∃ (k:List Value->Heap->Prop) (l:List Value->Heap->Nat),k [U 0,U 0,U 0,U 0,U 0,U 0,I 0] h/\
 ∀ (m:Int) (n:Int) (o:Int) (p:Int) (c:Int) (d:Int) (a:Int),∀ b,k [U m,U n,U o,U p,U c,U d,I a] b->Br (decide (a<(j:Int))) (∃ M,q=some M/\0<=a/\a<(j:Int)/\∃ (t:Int),b.cell? (M.add (a.toNat*1))=some (U t)/\∃ N,r=some N/\0<=a/\a<(s:Int)/\∃ (u:Int),b.cell? (N.add (a.toNat*1))=some (U u)/\FCall P K8 #[U t,U T,U m] b (fun a0 a1=>∃ (v:Int) (e:Int),a0= .tuple #[U v,U e]/\FCall P K8 #[U u,U W,U n] a1 (fun a2 a3=>∃ (w:Int) (f:Int),a2= .tuple #[U w,U f]/\FCall P K8 #[U u,U X,U o] a3 (fun a4 a5=>∃ (x:Int) (g:Int),a4= .tuple #[U x,U g]/\FCall P K8 #[U t,U V,U p] a5 (fun a6 H=>∃ (y:Int) (i:Int),a6= .tuple #[U y,U i]/\Br Z (ECall P Af #[U v,U w,U c] H (fun a7 a8=>∃ (D:Int) (z:Int),a7= .tuple #[U D,U z]/\∃ O,q=some O/\0<=a/\a<(j:Int)/\wpH P (Instr.storeAt 130 (.pointer (some (O.add (a.toNat*1)))) (U D)) (fun _ a9=>ECall P Af #[U x,U y,U d] a9 (fun b0 b1=>∃ (E:Int) (A:Int),b0= .tuple #[U E,U A]/\∃ Q,r=some Q/\0<=a/\a<(s:Int)/\wpH P (Instr.storeAt 130 (.pointer (some (Q.add (a.toNat*1)))) (U E)) (fun _ J=>k [U e,U f,U g,U i,U z,U A,I (B4 (a+1))] J/\l [U e,U f,U g,U i,U z,U A,I (B4 (a+1))] J<l [U m,U n,U o,U p,U c,U d,I a] b) b1)) a8))
 (ECall P Af #[U w,U v,U c] H (fun b2 b3=>∃ (F:Int) (B:Int),b2= .tuple #[U F,U B]/\∃ R,q=some R/\0<=a/\a<(j:Int)/\wpH P (Instr.storeAt 130 (.pointer (some (R.add (a.toNat*1)))) (U F)) (fun _ b4=>ECall P Af #[U y,U x,U d] b4 (fun b5 b6=>∃ (G:Int) (C:Int),b5= .tuple #[U G,U C]/\∃ S,r=some S/\0<=a/\a<(s:Int)/\wpH P (Instr.storeAt 130 (.pointer (some (S.add (a.toNat*1)))) (U G)) (fun _ L=>k [U e,U f,U g,U i,U B,U C,I (B4 (a+1))] L/\l [U e,U f,U g,U i,U B,U C,I (B4 (a+1))] L<l [U m,U n,U o,U p,U c,U d,I a] b) b6)) b3)))))))
 (K (.tuple #[]) b)
theorem A7t(a:Int)(b:Int)(d:Int)(e:Int)(f:Bool)(g:OA)(i j:Nat)(k:OA)(l m:Nat)(hvc:B24 Tryz.prog a b d e f g i j k l m h K):FCall Tryz.prog Uq #[.agg #[U a,U b,U d,U e,.bool f],.slice g i j,.slice k l m] h K:=
 B7 Tryz.func220 (c:=C2 Tryz.f220) (by kernel_rfl) (rs:=[]) (by kernel_rfl) (fa:=⟨[(4,⟨[6,7,8,9,10,11,21],[],[.int .u64 0,.int .u64 0,.int .u64 0,.int .u64 0,.int .u64 0,.int .u64 0,.int .i64 0],⟨(Lrg 6 13++Lrg 21 68),[]⟩⟩)],[],[],[],[]⟩)
  (cfg:=⟨89,[3],none,[247],[],false⟩) (args:=[.agg #[U a,U b,U d,U e,.bool f],.slice g i j,.slice k l m]) (by kernel_rfl) (B0 Tryz.call247 Bodies.nil) (Eq.mp (by kernel_rfl) hvc)
def Zf(P:Program)(i:Int)(f:Int)(c:Int)(a:Int)(l:List Value->Heap->Prop)(n:Heap):Prop:=
 ∃ (j:List Value->Heap->Prop) (m:List Value->Heap->Nat),j [U (B9 (Int.tdiv (bor .u64 (B9 (i*2^(min (B9 a).toNat 64))) (Int.fdiv f (2^(min (B9 ((64:Int)-(B9 a))).toNat 64)))) (Int.fdiv (B9 (c*2^(min (B9 a).toNat 64))) (2^(min ((32:Int)).toNat 64))))),U (B9 ((bor .u64 (B9 (i*2^(min (B9 a).toNat 64))) (Int.fdiv f (2^(min (B9 ((64:Int)-(B9 a))).toNat 64))))-(B9 ((B9 (Int.tdiv (bor .u64 (B9 (i*2^(min (B9 a).toNat 64))) (Int.fdiv f (2^(min (B9 ((64:Int)-(B9 a))).toNat 64)))) (Int.fdiv (B9 (c*2^(min (B9 a).toNat 64))) (2^(min ((32:Int)).toNat 64)))))*(Int.fdiv (B9 (c*2^(min (B9 a).toNat 64))) (2^(min ((32:Int)).toNat 64)))))))] n/\
 ∀ (b:Int) (d:Int),∀ e,j [U b,U d] e->∃ (k:List Value->Heap->Prop),(Br (decide (b>=(4294967296:Int))) (k [] e)
 (Br (decide ((B9 (b*(Ni .u64 (B9 (c*2^(min (B9 a).toNat 64))) (4294967295:Int))))>(B9 ((B9 ((4294967296:Int)*d))+(Int.fdiv (B9 (f*2^(min (B9 a).toNat 64))) (2^(min ((32:Int)).toNat 64))))))) (k [] e)
 (l [U b] e)))/\
 ∀ g,k [] g->Br (decide ((B9 (d+(Int.fdiv (B9 (c*2^(min (B9 a).toNat 64))) (2^(min ((32:Int)).toNat 64)))))>=(4294967296:Int))) (l [U (B9 (b-1))] g)
 (j [U (B9 (b-1)),U (B9 (d+(Int.fdiv (B9 (c*2^(min (B9 a).toNat 64))) (2^(min ((32:Int)).toNat 64)))))] g/\m [U (B9 (b-1)),U (B9 (d+(Int.fdiv (B9 (c*2^(min (B9 a).toNat 64))) (2^(min ((32:Int)).toNat 64)))))] g<m [U b,U d] e)
def Ze(P:Program)(i:Int)(d:Int)(b:Int)(a:Int)(j:Int)(m:List Value->Heap->Prop)(o:Heap):Prop:=
 ∃ (k:List Value->Heap->Prop) (n:List Value->Heap->Nat),k [U (B9 ((B9 ((B9 ((B9 ((bor .u64 (B9 (i*2^(min (B9 a).toNat 64))) (Int.fdiv d (2^(min (B9 ((64:Int)-(B9 a))).toNat 64))))*(4294967296:Int)))+(Int.fdiv (B9 (d*2^(min (B9 a).toNat 64))) (2^(min ((32:Int)).toNat 64)))))-(B9 (j*(B9 (b*2^(min (B9 a).toNat 64)))))))-(B9 ((B9 (Int.tdiv (B9 ((B9 ((B9 ((bor .u64 (B9 (i*2^(min (B9 a).toNat 64))) (Int.fdiv d (2^(min (B9 ((64:Int)-(B9 a))).toNat 64))))*(4294967296:Int)))+(Int.fdiv (B9 (d*2^(min (B9 a).toNat 64))) (2^(min ((32:Int)).toNat 64)))))-(B9 (j*(B9 (b*2^(min (B9 a).toNat 64))))))) (Int.fdiv (B9 (b*2^(min (B9 a).toNat 64))) (2^(min ((32:Int)).toNat 64)))))*(Int.fdiv (B9 (b*2^(min (B9 a).toNat 64))) (2^(min ((32:Int)).toNat 64))))))),U (B9 (Int.tdiv (B9 ((B9 ((B9 ((bor .u64 (B9 (i*2^(min (B9 a).toNat 64))) (Int.fdiv d (2^(min (B9 ((64:Int)-(B9 a))).toNat 64))))*(4294967296:Int)))+(Int.fdiv (B9 (d*2^(min (B9 a).toNat 64))) (2^(min ((32:Int)).toNat 64)))))-(B9 (j*(B9 (b*2^(min (B9 a).toNat 64))))))) (Int.fdiv (B9 (b*2^(min (B9 a).toNat 64))) (2^(min ((32:Int)).toNat 64)))))] o/\
 ∀ (e:Int) (c:Int),∀ f,k [U e,U c] f->∃ (l:List Value->Heap->Prop),(Br (decide (c>=(4294967296:Int))) (l [] f)
 (Br (decide ((B9 (c*(Ni .u64 (B9 (b*2^(min (B9 a).toNat 64))) (4294967295:Int))))>(B9 ((B9 ((4294967296:Int)*e))+(Ni .u64 (B9 (d*2^(min (B9 a).toNat 64))) (4294967295:Int)))))) (l [] f)
 (m [U c] f)))/\
 ∀ g,l [] g->Br (decide ((B9 (e+(Int.fdiv (B9 (b*2^(min (B9 a).toNat 64))) (2^(min ((32:Int)).toNat 64)))))>=(4294967296:Int))) (m [U (B9 (c-1))] g)
 (k [U (B9 (e+(Int.fdiv (B9 (b*2^(min (B9 a).toNat 64))) (2^(min ((32:Int)).toNat 64))))),U (B9 (c-1))] g/\n [U (B9 (e+(Int.fdiv (B9 (b*2^(min (B9 a).toNat 64))) (2^(min ((32:Int)).toNat 64))))),U (B9 (c-1))] g<n [U e,U c] f)
def Zg(P:Program)(f:Int)(b:Int)(c:Int)(K:Value->Heap->Prop)(a:Int)(d:Int)(e:Int)(g:Heap):Prop:=
 Br (decide (B9 a<0)) False
 (K (.tuple #[U (B9 ((B9 (d*(4294967296:Int)))+e)),U (Int.fdiv (B9 ((B9 ((B9 ((B9 ((B9 ((B9 ((bor .u64 (B9 (f*2^(min (B9 a).toNat 64))) (Int.fdiv b (2^(min (B9 ((64:Int)-(B9 a))).toNat 64))))*(4294967296:Int)))+(Int.fdiv (B9 (b*2^(min (B9 a).toNat 64))) (2^(min ((32:Int)).toNat 64)))))-(B9 (d*(B9 (c*2^(min (B9 a).toNat 64)))))))*(4294967296:Int)))+(Ni .u64 (B9 (b*2^(min (B9 a).toNat 64))) (4294967295:Int))))-(B9 (e*(B9 (c*2^(min (B9 a).toNat 64))))))) (2^(min (B9 a).toNat 64)))]) g)
def Zh(P:Program)(c:Int)(d:Int)(a:Int)(K:Value->Heap->Prop)(b:Int)(e:Int)(j:Heap):Prop:=
 Br (decide (Int.fdiv (B9 (a*2^(min (B9 b).toNat 64))) (2^(min ((32:Int)).toNat 64))=0)) False
 (∃ (f:List Value->Heap->Prop),(Ze P c d a b e f j)/\
 ∀ (g:Int),∀ i,f [U g] i->Zg P c d a K b e g i)
def B2i(P:Program)(c:Int)(d:Int)(a:Int)(h:Heap)(K:Value->Heap->Prop):Prop:=
 Br (a==(0:Int)) (∃ (i:Value),h.cell? (⟨0,0,none⟩)=some (i)/\False)
 (Br (decide (a<=c)) (∃ (j:Value),h.cell? (⟨1,0,none⟩)=some (j)/\False)
 (Br (c==(0:Int)) (Br (decide (a=0)) False
 (Br (decide (a=0)) False
 (K (.tuple #[U (B9 (Int.tdiv d a)),U (Int.tmod d a)]) h)))
 (FCall P J1 #[U a] h (fun k l=>∃ (b:Int),k=I b/\Br (decide (B9 b<0)) False
 (Br (decide (B9 b<0)) False
 (Br (decide (B9 ((64:Int)-(B9 b))<0)) False
 (Br (decide (B9 b<0)) False
 (Br (decide (Int.fdiv (B9 (a*2^(min (B9 b).toNat 64))) (2^(min ((32:Int)).toNat 64))=0)) False
 (∃ (e:List Value->Heap->Prop),(Zf P c d a b e l)/\
 ∀ (f:Int),∀ g,e [U f] g->Zh P c d a K b f g)))))))))
theorem A8n(a:Int)(b:Int)(d:Int)(hvc:B2i Tryz.prog a b d h K):FCall Tryz.prog Ea #[U a,U b,U d] h K:=
 B7 Tryz.func206 (c:=C2 Tryz.f206) (by kernel_rfl) (rs:=[.tmp 6,.tmp 7]) (by kernel_rfl) (fa:=⟨[(17,⟨[15,16],[],[.int .u64 0,.int .u64 0],⟨([15,16]++Lrg 67 19),[]⟩⟩),(24,⟨[16,18],[],[.int .u64 0,.int .u64 0],⟨([16,18]++Lrg 102 19),[]⟩⟩)],[(18,⟨[],[],[],⟨(Lrg 67 12),[]⟩⟩),(21,⟨[15],[],[.int .u64 0],⟨([15,16]++Lrg 67 19),[]⟩⟩),(25,⟨[],[],[],⟨(Lrg 102 12),[]⟩⟩),(28,⟨[18],[],[.int .u64 0],⟨([16,18]++Lrg 102 19),[]⟩⟩)],[(6,((Lrg 0 8),[[],[],[0,1],[],[],[3,4],[0,1,2],[0,1,2,3,4,5,6]]))],[],[]⟩)
  (cfg:=⟨135,[],none,[239],[],false⟩) (args:=[U a,U b,U d]) (by kernel_rfl) (B0 Tryz.call239 Bodies.nil) (Eq.mp (by kernel_rfl) hvc)
def B2g(P:Program)(a:Int)(b:Int)(h:Heap)(K:Value->Heap->Prop):Prop:=
 K (.tuple #[U (B9 ((B9 ((B9 ((Int.fdiv a (2^(min ((32:Int)).toNat 64)))*(Int.fdiv b (2^(min ((32:Int)).toNat 64)))))+(Int.fdiv (B9 ((B9 ((Int.fdiv a (2^(min ((32:Int)).toNat 64)))*(Ni .u64 b (4294967295:Int))))+(Int.fdiv (B9 ((Ni .u64 a (4294967295:Int))*(Ni .u64 b (4294967295:Int)))) (2^(min ((32:Int)).toNat 64))))) (2^(min ((32:Int)).toNat 64)))))+(Int.fdiv (B9 ((Ni .u64 (B9 ((B9 ((Int.fdiv a (2^(min ((32:Int)).toNat 64)))*(Ni .u64 b (4294967295:Int))))+(Int.fdiv (B9 ((Ni .u64 a (4294967295:Int))*(Ni .u64 b (4294967295:Int)))) (2^(min ((32:Int)).toNat 64))))) (4294967295:Int))+(B9 ((Ni .u64 a (4294967295:Int))*(Int.fdiv b (2^(min ((32:Int)).toNat 64))))))) (2^(min ((32:Int)).toNat 64))))),U (B9 (a*b))]) h
theorem A8l(a:Int)(b:Int)(hvc:B2g Tryz.prog a b h K):FCall Tryz.prog Dz #[U a,U b] h K:=
 B7 Tryz.func190 (c:=C2 Tryz.f190) (by kernel_rfl) (rs:=[.tmp 4,.tmp 5]) (by kernel_rfl) (fa:=⟨[],[],[],[],[]⟩)
  (cfg:=⟨51,[],none,[],[],false⟩) (args:=[U a,U b]) (by kernel_rfl) Bodies.nil (Eq.mp (by kernel_rfl) hvc)
def Gk(P:Program)(b:Int)(h:Heap)(K:Value->Heap->Prop):Prop:=
 FCall P Ny #[U b] h (fun c d=>∃ (a:Int),c=I a/\K (I (B4 ((64:Int)-a))) d)
theorem Kl(a:Int)(hvc:Gk Tryz.prog a h K):FCall Tryz.prog J1 #[U a] h K:=
 B7 Tryz.func239 (c:=C2 Tryz.f239) (by kernel_rfl) (rs:=[.tmp 2]) (by kernel_rfl) (fa:=⟨[],[],[],[],[]⟩)
  (cfg:=⟨6,[],none,[254],[],false⟩) (args:=[U a]) (by kernel_rfl) (B0 Tryz.call254 Bodies.nil) (Eq.mp (by kernel_rfl) hvc)
def Es(P:Program)(a:Int)(h:Heap)(K:Value->Heap->Prop):Prop:=
 Br (a==(0:Int)) (K (I 64) h)
 ((0<=Int.fdiv (B9 ((Ni .u64 a (B9 (0-a)))*(285870213051353865:Int))) (2^(min ((58:Int)).toNat 64))/\Int.fdiv (B9 ((Ni .u64 a (B9 (0-a)))*(285870213051353865:Int))) (2^(min ((58:Int)).toNat 64))<(64:Int))/\∃ (b:Int),h.cell? (Addr.add (⟨3,0,none⟩) ((Int.fdiv (B9 ((Ni .u64 a (B9 (0-a)))*(285870213051353865:Int))) (2^(min ((58:Int)).toNat 64))).toNat*1))=some (Y b)/\K (I (B4 b)) h)
theorem Ic(a:Int)(hvc:Es Tryz.prog a h K):FCall Tryz.prog K4 #[U a] h K:=
 B7 Tryz.func249 (c:=C2 Tryz.f249) (by kernel_rfl) (rs:=[.tmp 2]) (by kernel_rfl) (fa:=⟨[],[],[],[],[]⟩)
  (cfg:=⟨14,[],none,[],[],false⟩) (args:=[U a]) (by kernel_rfl) Bodies.nil (Eq.mp (by kernel_rfl) hvc)
def A23:ByteArray:={ data:=#[0,1,2,2,3,3,3,3,4,4,4,4,4,4,4,4,5,5,5,5,5,5,5,5,5,5,5,5,5,5,5,5,6,6,6,6,6,6,6,6,6,6,6,6,6,6,6,6,6,6,6,6,6,6,6,6,6,6,6,6,6,6,6,6,7,7,7,7,7,7,7,7,7,7,7,7,7,7,7,7,7,7,7,7,7,7,7,7,7,7,7,7,7,7,7,7,7,7,7,7,7,7,7,7,7,7,7,7,7,7,7,7,7,7,7,7,7,7,7,7,7,7,7,7,7,7,7,7,8,8,8,8,8,8,8,8,8,8,8,8,8,8,8,8,8,8,8,8,8,8,8,8,8,8,8,8,8,8,8,8,8,8,8,8,8,8,8,8,8,8,8,8,8,8,8,8,8,8,8,8,8,8,8,8,8,8,8,8,8,8,8,8,8,8,8,8,8,8,8,8,8,8,8,8,8,8,8,8,8,8,8,8,8,8,8,8,8,8,8,8,8,8,8,8,8,8,8,8,8,8,8,8,8,8,8,8,8,8,8,8,8,8,8,8,8,8,8,8,8,8,8,8,8,8,8,8] }
def B2h(P:Program)(c:Int)(h:Heap)(K:Value->Heap->Prop):Prop:=
 ∃ (d:List Value->Heap->Prop),(Br (decide (c>=(4294967296:Int))) (d [U (Int.fdiv c (2^(min ((32:Int)).toNat 64))),I 32] h)
 (d [U c,I 0] h))/\
 ∀ (a:Int) (e:Int),∀ k,d [U a,I e] k->∃ (f:List Value->Heap->Prop),(Br (decide (a>=(65536:Int))) (f [U (Int.fdiv a (2^(min ((16:Int)).toNat 64))),I (B4 (e+16))] k)
 (f [U a,I e] k))/\
 ∀ (b:Int) (g:Int),∀ l,f [U b,I g] l->∃ (i:List Value->Heap->Prop),(Br (decide (b>=(256:Int))) (i [U (Int.fdiv b (2^(min ((8:Int)).toNat 64))),I (B4 (g+8))] l)
 (i [U b,I g] l))/\
 ∀ (j:Int) (m:Int),∀ o,i [U j,I m] o->∃ (n:UInt8),(0<=wu8 j/\((A23:ByteArray))[(wu8 j).toNat]? = some n)/\K (I (B4 (m+(B4 ((n.toNat:Nat):Int))))) o
theorem A8m(a:Int)(hvc:B2h Tryz.prog a h K):FCall Tryz.prog Ny #[U a] h K:=
 B7 Tryz.func254 (c:=C2 Tryz.f254) (by kernel_rfl) (rs:=[.tmp 2]) (by kernel_rfl) (fa:=⟨[],[(4,⟨[0,2],[],[.int .u64 0,.int .i64 0],⟨[0,2,3,4,5,6],[]⟩⟩),(7,⟨[0,2],[],[.int .u64 0,.int .i64 0],⟨[0,2,7,8,9,10,11,12],[]⟩⟩),(10,⟨[0,2],[],[.int .u64 0,.int .i64 0],⟨[0,2,13,14,15,16,17,18],[]⟩⟩)],[],[],[]⟩)
  (cfg:=⟨25,[],none,[],[],false⟩) (args:=[U a]) (by kernel_rfl) Bodies.nil (Eq.mp (by kernel_rfl) hvc)
theorem A4k:B8g Tryz.prog Q5 (fun a=>do
 let (x,y,c)<-Extern.MathBitsCarry.three "Add64" a
 pure (Extern.MathBitsCarry.pair ((x+y+c)%Extern.MathBitsCarry.m64) ((x+y+c)/Extern.MathBitsCarry.m64))):=⟨Tryz.f228,Tryz.func228,by kernel_rfl,by kernel_rfl,by kernel_rfl,by kernel_rfl⟩
theorem A4j:B8g Tryz.prog Af (fun a=>do
 let (x,y,c)<-Extern.MathBitsCarry.three "Sub64" a
 pure (Extern.MathBitsCarry.pair ((x+Extern.MathBitsCarry.m64-y-c)%Extern.MathBitsCarry.m64) (if x<y+c then 1 else 0))):=⟨Tryz.f248,Tryz.func248,by kernel_rfl,by kernel_rfl,by kernel_rfl,by kernel_rfl⟩
def B9i(P:Program)(c:Int)(d:Int)(h:Heap)(K:Value->Heap->Prop):Prop:=
 FCall P Dz #[U c,U d] h (fun e f=>∃ (a:Int) (b:Int),e= .tuple #[U a,U b]/\K (.tuple #[U a,U b]) f)
theorem B4d(a:Int)(b:Int)(hvc:B9i Tryz.prog a b h K):FCall Tryz.prog A6r #[U a,U b] h K:=
 B7 Tryz.func134 (c:=C2 Tryz.f134) (by kernel_rfl) (rs:=[.tmp 4,.tmp 5]) (by kernel_rfl) (fa:=⟨[],[],[],[],[]⟩)
  (cfg:=⟨30,[],none,[190],[],false⟩) (args:=[U a,U b]) (by kernel_rfl) (B0 Tryz.call190 Bodies.nil) (Eq.mp (by kernel_rfl) hvc)
def B23(P:Program)(a:OA)(i j:Nat)(h:Heap)(K:Value->Heap->Prop):Prop:=
 Br (Option.isNone a) (K (.slice none 0 0) h)
 (wpH P (Instr.buildSlice 100 0 #[]) (fun k l=>∃ (b:OA) (c d:Nat),k= .slice b c d/\wpH P (Builtin.append_ #[100,100] 100 #[.slice b c d,.slice a i j]) (fun m n=>∃ (e:OA) (f g:Nat),m= .slice e f g/\K (.slice e f g) n) l) h)
theorem A7s(a:OA)(b d:Nat)(hvc:B23 Tryz.prog a b d h K):FCall Tryz.prog Du #[.slice a b d] h K:=
 B7 Tryz.func217 (c:=C2 Tryz.f217) (by kernel_rfl) (rs:=[.tmp 2]) (by kernel_rfl) (fa:=⟨[],[],[],[],[]⟩)
  (cfg:=⟨8,[],none,[],[],false⟩) (args:=[.slice a b d]) (by kernel_rfl) Bodies.nil (Eq.mp (by kernel_rfl) hvc)
def A7q(P:Program)(p:OA)(j q:Nat)(k:Int)(h:Heap)(K:Value->Heap->Prop):Prop:=
 Br (decide (k<(0:Int))) (False)
 (FCall P A6r #[U (B9 (j:Int)),U (B9 k)] h (fun r s=>∃ (l:Int) (e:Int),r= .tuple #[U l,U e]/\Br (decide (l>(0:Int))) (False)
 (Br (decide (e>(9223372036854775807:Int))) (False)
 (wpH P (Instr.makeSlice 100 (I (B4 e)) (I (B4 e))) (fun t u=>∃ (d:OA) (c b:Nat),t= .slice d c b/\wpH P (Builtin.copy_ #[100,100] 3 #[.slice d c b,.slice p j q]) (fun v w=>∃ (m:Int),v=I m/\∃ (g:List Value->Heap->Prop) (n:List Value->Heap->Nat),g [I m] w/\
 ∀ (a:Int),∀ f,g [I a] f->Br (decide (a<(c:Int))) ((0<=a/\a<=(c:Int))/\(0<=a/\a<=(b:Int))/\wpH P (Builtin.copy_ #[100,100] 3 #[.slice (J6 d b (a.toNat) 1) (c-(a.toNat)) (b-(a.toNat)),.slice (J6 d b 0 1) ((a.toNat)-0) (b-0)]) (fun x o=>∃ (i:Int),x=I i/\g [I (B4 (a+i))] o/\n [I (B4 (a+i))] o<n [I a] f) f)
 (K (.slice d c b) f)) u) s))))
theorem A43(a:OA)(b d:Nat)(e:Int)(hvc:A7q Tryz.prog a b d e h K):FCall Tryz.prog Pe #[.slice a b d,I e] h K:=
 B7 Tryz.func270 (c:=C2 Tryz.f270) (by kernel_rfl) (rs:=[.tmp 4]) (by kernel_rfl) (fa:=⟨[(8,⟨[8],[],[.int .i64 0],⟨([8]++Lrg 34 13),[]⟩⟩)],[],[(9,((Lrg 0 10),[[],[],[],[1,2],[],[],[4,5],[1,2,3,4,5,6],(Lrg 0 8),(Lrg 0 9)]))],[],[]⟩)
  (cfg:=⟨48,[],none,[134],[],false⟩) (args:=[.slice a b d,I e]) (by kernel_rfl) (B0 Tryz.call134 Bodies.nil) (Eq.mp (by kernel_rfl) hvc)
def B2f(P:Program)(b:Int)(c:Int)(h:Heap)(K:Value->Heap->Prop):Prop:=
 FCall P Gw #[I b] h (fun f g=>∃ (e:Bool),f= .bool e/\FCall P Gw #[I c] g (fun i a=>∃ (d:Bool),i= .bool d/\Br e (Br d (K (I 0) a)
 (K (I (-1:Int)) a))
 (Br d (K (I 1) a)
 (Br (decide (b<c)) (K (I (-1:Int)) a)
 (Br (decide (b>c)) (K (I 1) a)
 (K (I 0) a))))))
theorem A8k(a:Int)(b:Int)(hvc:B2f Tryz.prog a b h K):FCall Tryz.prog Uy #[I a,I b] h K:=
 B7 Tryz.func229 (c:=C2 Tryz.f229) (by kernel_rfl) (rs:=[.tmp 4]) (by kernel_rfl) (fa:=⟨[],[],[],[],[]⟩)
  (cfg:=⟨20,[],none,[251],[],false⟩) (args:=[I a,I b]) (by kernel_rfl) (B0 Tryz.call251 Bodies.nil) (Eq.mp (by kernel_rfl) hvc)
def A2u(P:Program)(a:Int)(h:Heap)(K:Value->Heap->Prop):Prop:=
 K (.bool (a != a)) h
theorem A1f(a:Int)(hvc:A2u Tryz.prog a h K):FCall Tryz.prog Gw #[I a] h K:=
 B7 Tryz.func251 (c:=C2 Tryz.f251) (by kernel_rfl) (rs:=[.tmp 2]) (by kernel_rfl) (fa:=⟨[],[],[],[],[]⟩)
  (cfg:=⟨6,[],none,[],[],false⟩) (args:=[I a]) (by kernel_rfl) Bodies.nil (Eq.mp (by kernel_rfl) hvc)
def Zd(P:Program)(b:Int)(c:Int)(h:Heap)(K:Value->Heap->Prop):Prop:=
 FCall P Ae #[U b] h (fun f g=>∃ (e:Bool),f= .bool e/\FCall P Ae #[U c] g (fun i a=>∃ (d:Bool),i= .bool d/\Br e (Br d (K (I 0) a)
 (K (I (-1:Int)) a))
 (Br d (K (I 1) a)
 (Br (decide (b<c)) (K (I (-1:Int)) a)
 (Br (decide (b>c)) (K (I 1) a)
 (K (I 0) a))))))
theorem Zc(a:Int)(b:Int)(hvc:Zd Tryz.prog a b h K):FCall Tryz.prog Hz #[U a,U b] h K:=
 B7 Tryz.func230 (c:=C2 Tryz.f230) (by kernel_rfl) (rs:=[.tmp 4]) (by kernel_rfl) (fa:=⟨[],[],[],[],[]⟩)
  (cfg:=⟨20,[],none,[252],[],false⟩) (args:=[U a,U b]) (by kernel_rfl) (B0 Tryz.call252 Bodies.nil) (Eq.mp (by kernel_rfl) hvc)
def Qx(P:Program)(a:Int)(h:Heap)(K:Value->Heap->Prop):Prop:=
 K (.bool (a != a)) h
theorem Ru(a:Int)(hvc:Qx Tryz.prog a h K):FCall Tryz.prog Ae #[U a] h K:=
 B7 Tryz.func252 (c:=C2 Tryz.f252) (by kernel_rfl) (rs:=[.tmp 2]) (by kernel_rfl) (fa:=⟨[],[],[],[],[]⟩)
  (cfg:=⟨6,[],none,[],[],false⟩) (args:=[U a]) (by kernel_rfl) Bodies.nil (Eq.mp (by kernel_rfl) hvc)
end Go.Proofs.YtajkakhfcokljaaGreatDoor
