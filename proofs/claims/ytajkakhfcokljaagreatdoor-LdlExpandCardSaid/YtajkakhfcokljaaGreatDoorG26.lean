/-
  Texts of this proof, merged by a program of ours.
-/
import Derived.Test.YtajkakhfcokljaaGreatDoorG25
set_option linter.all false
open List renaming getElem?_eq_none->C34,append_assoc->C35,getElem?_append_left->C36
namespace Go.Proofs.YtajkakhfcokljaaGreatDoor
open Go
structure Sep (h g o:Heap):Prop where
 own:∀ k x,o k=some x->h k=some x
 rest:∀ k,o k=none->h k=g k
 dis:∀ k x,o k=some x->g k=none
def Ig:Heap:=fun _=>none
theorem Sep.refl(h:Heap):Sep h h Ig:=⟨fun _ _ e=>(by cases e),fun _ _=>rfl,fun _ _ e=>(by cases e)⟩
section
variable {h g o:Heap} {P:Program}
theorem Sep.le(s:Sep h g o):g.le h:=fun k x e=>by
 cases ho:o k with
 | none=>rw [s.rest k ho];exact e
 | some y=>rw [s.dis k y ho] at e;cases e
theorem Sep.ole(s:Sep h g o):o.le h:=fun k x e=>s.own k x e
theorem Sep.cell(s:Sep h g o){a:Addr}{v:Value}(e:o.cell? a=some v):h.cell? a=some v:=B9 s.ole e
theorem Sep.call{f:FuncId}{args:Array Value}{K:VP}(s:Sep h g o)(x:FCall P f args g (fun r g'=>∀ h',Sep h' g' o->K r h')):FCall P f args h K:=by
 intro W hs
 have hs':Sim g W:=fun k o' e=>hs k o' (s.le k o' e)
 refine (x W hs').mono ?_
 rintro e W' ⟨r,g',he,hK,fr⟩
 have hlt:∀ k x,o k=some x->k<W.heap.size:=by
  intro k x e
  have hW:=hs k x (s.own k x e)
  by_cases h:k<W.heap.size
  ·exact h
  ·rw [Array.getElem?_eq_none (by omega)] at hW;cases hW
 have gn:∀ k x,o k=some x->g' k=none:=by
  intro k x e
  cases hx:g' k with
  | none=>rfl
  | some o'=>have:=fr.new k o' (s.dis k x e) hx;have:=hlt k x e;omega
 let h':Heap:=fun k=>match o k with|some x=>some x|none=>g' k
 have e1:∀ k x,o k=some x->h' k=some x:=fun k x e=>by show (match o k with|some x=>some x|none=>g' k)=_;rw [e]
 have e2:∀ k,o k=none->h' k=g' k:=fun k e=>by show (match o k with|some x=>some x|none=>g' k)=_;rw [e]
 refine ⟨r,h',he,hK h' ⟨e1,e2,gn⟩,⟨fun k o' e=>?_,fr.os,fr.tape,fr.output,fr.size,fun k hl e=>?_,fun k o' e e'=>?_⟩⟩
 ·cases hx:o k with
  | some y=>
   rw [e1 k y hx] at e
   cases e
   rw [fr.keep k (hlt k _ hx) (s.dis k _ hx)]
   exact hs k _ (s.own k _ hx)
  | none=>rw [e2 k hx] at e;exact fr.sim k o' e
 ·cases hx:o k with
  | some y=>rw [s.own k y hx] at e;cases e
  | none=>rw [s.rest k hx] at e;exact fr.keep k hl e
 ·cases hx:o k with
  | some y=>rw [s.own k y hx] at e;cases e
  | none=>rw [s.rest k hx] at e;rw [e2 k hx] at e';exact fr.new k o' e e'
theorem Sep.vis(s:Sep h g o){b:Nat}(hb:h b=none)(x:Obj):Sep (h.put b x) (g.put b x) o:=by
 have ho:∀ k y,o k=some y->k≠b:=by rintro k y e rfl;rw [s.own k y e] at hb;cases hb
 refine ⟨fun k y e=>?_,fun k e=>?_,fun k y e=>?_⟩
 ·rw [B8 _ _ (ho k y e)];exact s.own k y e
 ·by_cases hk:k=b
  ·subst hk;rw [C3,C3]
  ·rw [B8 _ _ hk,B8 _ _ hk];exact s.rest k e
 ·rw [B8 _ _ (ho k y e)];exact s.dis k y e
theorem Sep.new(s:Sep h g o){b:Nat}(hb:h b=none)(x:Obj):Sep (h.put b x) g (o.put b x):=by
 refine ⟨fun k y e=>?_,fun k e=>?_,fun k y e=>?_⟩
 ·by_cases hk:k=b
  ·subst hk;rw [C3] at e ⊢;exact e
  ·rw [B8 _ _ hk] at e ⊢;exact s.own k y e
 ·by_cases hk:k=b
  ·subst hk;rw [C3] at e;cases e
  ·rw [B8 _ _ hk] at e ⊢;exact s.rest k e
 ·by_cases hk:k=b
  ·subst hk
   cases hg:g k with
   | none=>rfl
   | some z=>rw [s.le k z hg] at hb;cases hb
  ·rw [B8 _ _ hk] at e;exact s.dis k y e
theorem Sep.upd(s:Sep h g o){b:Nat}{x:Obj}(hb:o b=some x)(y:Obj):Sep (h.put b y) g (o.put b y):=by
 refine ⟨fun k z e=>?_,fun k e=>?_,fun k z e=>?_⟩
 ·by_cases hk:k=b
  ·subst hk;rw [C3] at e ⊢;exact e
  ·rw [B8 _ _ hk] at e ⊢;exact s.own k z e
 ·by_cases hk:k=b
  ·subst hk;rw [C3] at e;cases e
  ·rw [B8 _ _ hk] at e ⊢;exact s.rest k e
 ·by_cases hk:k=b
  ·subst hk;exact s.dis k x hb
  ·rw [B8 _ _ hk] at e;exact s.dis k z e
theorem Sep.after(s:Sep h g o){h':Heap}(hl:h.le h'):∃ g',g.le g'/\Sep h' g' o:=by
 let g':Heap:=fun k=>match o k with|some _=>none|none=>h' k
 have e1:∀ k x,o k=some x->g' k=none:=fun k x e=>by show (match o k with|some _=>none|none=>h' k)=_;rw [e]
 have e2:∀ k,o k=none->g' k=h' k:=fun k e=>by show (match o k with|some _=>none|none=>h' k)=_;rw [e]
 refine ⟨g',fun k x e=>?_,fun k x e=>hl k x (s.own k x e),fun k e=>(e2 k e).symm,e1⟩
 cases ho:o k with
 | none=>rw [e2 k ho];exact hl k x (by rw [s.rest k ho];exact e)
 | some y=>rw [s.dis k y ho] at e;cases e
def Heap.join(o p:Heap):Heap:=fun k=>match p k with|some x=>some x|none=>o k
theorem Sep.join{g2 p:Heap}(s:Sep h g o)(t:Sep g g2 p):Sep h g2 (o.join p):=by
 have e1:∀ k x,p k=some x->(o.join p) k=some x:=fun k x e=>by show (match p k with|some x=>some x|none=>o k)=_;rw [e]
 have e2:∀ k,p k=none->(o.join p) k=o k:=fun k e=>by show (match p k with|some x=>some x|none=>o k)=_;rw [e]
 refine ⟨fun k x e=>?_,fun k e=>?_,fun k x e=>?_⟩
 ·cases hp:p k with
  | some y=>rw [e1 k y hp] at e;cases e;exact s.le k _ (t.own k _ hp)
  | none=>rw [e2 k hp] at e;exact s.own k x e
 ·cases hp:p k with
  | some y=>rw [e1 k y hp] at e;cases e
  | none=>rw [e2 k hp] at e;rw [s.rest k e,t.rest k hp]
 ·cases hp:p k with
  | some y=>exact t.dis k y hp
  | none=>rw [e2 k hp] at e;have:=s.dis k x e;rw [t.rest k hp] at this;exact this
theorem Di{b:Nat}{x:Obj}(hb:g b=none):Sep (g.put b x) g (Ig.put b x):=(Sep.refl g).new hb x
end
section
variable {α:Type} [E:Enc α]
def RowB(o:Heap)(b:Nat)(xs:List α):Prop:=∃ (e:TypeId) (ex:List Value),o b=some (.cells (xs.flatMap enc++ex).toArray e)
theorem RowB.other{o:Heap}{b k:Nat}{xs:List α}(r:RowB o b xs)(hk:b≠k)(x:Obj):RowB (o.put k x) b xs:=by
 obtain ⟨e,ex,hb⟩:=r
 exact ⟨e,ex,by rw [B8 _ _ hk];exact hb⟩
theorem RowB.mk{o:Heap}{b:Nat}{xs:List α}{e:TypeId}:RowB (o.put b (.cells (xs.flatMap enc).toArray e)) b xs:=⟨e,[],by rw [C3,List.append_nil]⟩
theorem RowB.cell{o:Heap}{b:Nat}{xs:List α}(r:RowB o b xs){i:Nat}(hi:i<xs.length){j:Nat}{v:Value}(hv:(enc xs[i])[j]? = some v):o.cell? ⟨b,i*E.default.size+j,none⟩=some v:=by
 obtain ⟨e,ex,hb⟩:=r
 have hj:j<E.default.size:=by
  by_cases hj:j<E.default.size
  ·exact hj
  ·rw [C34 (by rw [E.default.len];omega)] at hv;cases hv
 have hf:=A2w xs hi hj
 rw [hv] at hf
 unfold Heap.cell?
 simp only [hb]
 have hlt:i*E.default.size+j<(xs.flatMap enc).length:=by
  by_cases h:i*E.default.size+j<(xs.flatMap enc).length
  ·exact h
  ·rw [C34 (by omega)] at hf;cases hf
 simp only [Option.isSome_none,Bool.false_eq_true,if_false,List.getElem?_toArray]
 rw [C36 hlt];exact hf
theorem RowB.slF{o h:Heap}{b:Nat}{xs:List α}(r:RowB o b xs)(hl:o.le h):SlF h (some ⟨b,0,none⟩) xs:=by
 obtain ⟨e,ex,hb⟩:=r
 right
 refine ⟨_,rfl,fun i v hv=>?_⟩
 rw [D8,Nat.zero_add]
 unfold Heap.cell?
 simp only [hl b _ hb]
 have hlt:i<(xs.flatMap enc).length:=by
  by_cases h:i<(xs.flatMap enc).length
  ·exact h
  ·rw [C34 (by omega)] at hv;cases hv
 simp only [Option.isSome_none,Bool.false_eq_true,if_false,List.getElem?_toArray]
 rw [C36 hlt];exact hv
theorem Sep.store{P:Program}{t:TypeId}(one:P.cellsOf t=E.default.size/\(P.info? t).isSome=true){v:Value}{y:α}(hv:v.cells=(enc y).toArray){h g o:Heap}(s:Sep h g o){b:Nat}{xs:List α}(r:RowB o b xs){i:Nat}(hi:i<xs.length){off:Nat}(hoff:off=i*E.default.size){K:Unit->Heap->Prop}
 (x:∀ h' o' x',o'=o.put b x'->Sep h' g o'->RowB o' b (xs.set i y)->K () h'):wpH P (Instr.storeAt t (.pointer (some ⟨b,off,none⟩)) v) K h:=by
 subst hoff
 obtain ⟨e,ex,hb⟩:=r
 obtain ⟨ti,hti⟩:=Option.isSome_iff_exists.1 one.2
 have hs:ti.size=E.default.size:=by simpa [Program.cellsOf,hti] using one.1
 have hl:=E.default.len y
 have hle:(i+1)*E.default.size<=xs.length*E.default.size:=Nat.mul_le_mul_right _ hi
 rw [Nat.add_mul,Nat.one_mul] at hle
 have hput:(h.without b).put b (.cells (xs.flatMap enc++ex).toArray e)=h:=K5 (s.own b _ hb)
 unfold Instr.storeAt
 simp only [C6,Instr.sureAddr,F7,storeVar,K4 hti,hs,hv,List.size_toArray,hl,ne_eq,not_true_eq_false,if_false]
 rw [<- hput]
 refine I0 (enc y) (i*E.default.size) 0 _ (by rw [List.length_append,J9,hl];omega) (E.default.one y) ?_
 have hsp:J7 (xs.flatMap enc++ex) (i*E.default.size+0) (enc y)=(xs.set i y).flatMap enc++ex:=by
  rw [Nat.add_zero,<- Xh xs hi]
  unfold J7
  rw [List.take_append_of_le_length (by rw [J9];omega),List.drop_append_of_le_length (by rw [J9,hl];omega),C35,C35,C35]
 rw [hsp]
 have hp2:(h.without b).put b (.cells ((xs.set i y).flatMap enc++ex).toArray e)=h.put b (.cells ((xs.set i y).flatMap enc++ex).toArray e):=by
  rw [<- hput,Hd,hput]
 rw [hp2]
 exact x _ _ _ rfl (s.upd hb _) ⟨e,ex,C3 _ _ _⟩
def RowX(o:Heap)(b:Nat)(xs:List α):Prop:=∃ e:TypeId,o b=some (.cells (xs.flatMap enc).toArray e)
theorem RowX.rowB{o:Heap}{b:Nat}{xs:List α}(r:RowX o b xs):RowB o b xs:=by
 obtain ⟨e,h⟩:=r
 exact ⟨e,[],by rw [h,List.append_nil]⟩
theorem RowX.mk{o:Heap}{b:Nat}{xs:List α}{e:TypeId}:RowX (o.put b (.cells (xs.flatMap enc).toArray e)) b xs:=⟨e,C3 _ _ _⟩
theorem RowX.other{o:Heap}{b k:Nat}{xs:List α}(r:RowX o b xs)(hk:b≠k)(x:Obj):RowX (o.put k x) b xs:=by
 obtain ⟨e,hb⟩:=r
 exact ⟨e,by rw [B8 _ _ hk];exact hb⟩
theorem RowX.keep{o o':Heap}{b:Nat}{xs:List α}(r:RowX o b xs)(h:∀ x,o b=some x->o' b=some x):RowX o' b xs:=by
 obtain ⟨e,hb⟩:=r
 exact ⟨e,h _ hb⟩
theorem Dh{P:Program}{t:TypeId}(one:P.cellsOf t=E.default.size/\(P.info? t).isSome=true){v:Value}{y:α}(hv:v.cells=(enc y).toArray){h g o:Heap}(s:Sep h g o){b:Nat}{xs:List α}(r:RowX o b xs){i:Nat}(hi:i<xs.length){K:Unit->Heap->Prop}
 (x:∀ h' o' x',o'=o.put b x'->Sep h' g o'->RowX o' b (xs.set i y)->K () h'):wpH P (Instr.storeAt t (.pointer (some (Addr.add ⟨b,0,none⟩ (i*E.default.size)))) v) K h:=by
 obtain ⟨e,hb⟩:=r
 have hput:B4v e (h.without b) b xs=h:=K5 (s.own b _ hb)
 rw [<- hput]
 refine A7q one hv hi ?_
 have hp2:B4v e (h.without b) b (xs.set i y)=h.put b (.cells ((xs.set i y).flatMap enc).toArray e):=by
  funext k
  by_cases hk:k=b
  ·subst hk
   show Heap.put _ _ _ k=_
   rw [C3,C3]
  ·show Heap.put _ _ _ k=_
   rw [B8 _ _ hk,B8 _ _ hk]
   unfold Heap.without
   rw [if_neg hk]
 rw [hp2]
 exact x _ _ _ rfl (s.upd hb _) RowX.mk
end
theorem A0t{a:Addr}{m l s:Nat}(h:l<m):K0 (some a) m l s=some (a.add (l*s)):=by unfold K0;rw [if_neg (by omega)];rfl
structure IV where
 s:Bool
 A:Option Addr
 n:Nat
 c:Nat
abbrev IV.v(w:IV):Value:=.agg #[.bool w.s,.slice w.A w.n w.c]
instance:Enc IV:=⟨⟨fun w=>[.bool w.s,.slice w.A w.n w.c],2,fun _=>rfl,fun w v hv=>by simp at hv;rcases hv with rfl|rfl<;>rfl⟩⟩
end Go.Proofs.YtajkakhfcokljaaGreatDoor
