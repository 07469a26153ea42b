/- A part. -/
import Derived.Test.YteppbhimdjmabaaGreatDoorG22
set_option linter.all false
open _root_.Go.Instr renaming storeAt->aF
open List renaming append_assoc->aE
open _root_.Go.Proofs.YteppbhimdjmabaaGreatDoor renaming Heap->aC
namespace Go.Proofs.YteppbhimdjmabaaGreatDoor
open Go
structure Sep (h g o:aC):Prop where
 own:∀ k x,o k=some x->h k=some x
 rest:∀ k,o k=none->h k=g k
 dis:∀ k x,o k=some x->g k=none
def Ag:aC:=fun _=>none
def Sep.refl(h:aC):Sep h h Ag:=⟨fun _ _ e=>(by cases e),fun _ _=>rfl,fun _ _ e=>(by cases e)⟩
section
variable {h g o:aC} {P:Program}
def Sep.le(s:Sep h g o):g.le h:=fun k x e=>by
 cases ho:o k with
 |none=>rw[s.rest k ho];exact e
 |some y=>rw[s.dis k y ho]at e;cases e
def Sep.ole(s:Sep h g o):o.le h:=fun k x e=>s.own k x e
def Sep.cell(s:Sep h g o){a:Addr}{v:Value}(e:o.cell? a=some v):h.cell? a=some v:=C2 s.ole e
def Sep.call{f:FuncId}{args:Array Value}{K:VP}(s:Sep h g o)(x:FCall P f args g (fun r g'=>∀h',Sep h' g' o->K r h')):FCall P f args h K:=by
 intro W hs;have d:Sim g W:=fun k b e=>hs k b (s.le k b e);refine(x W d).mono ?_;rintro e W' ⟨r,g',n,p,a⟩
 have c:∀k x,o k=some x->k<W.heap.size:=by
  intro k x e;have q:=hs k x (s.own k x e);grind
 have m:∀k x,o k=some x->g' k=none:=by
  intro k x e
  cases hx:g' k with
  |none=>rfl
  |some b=>have:=a.new k b (s.dis k x e) hx;grind
 let h':aC:=fun k=>match o k with|some x=>some x|none=>g' k
 have j:∀k x,o k=some x->h' k=some x:=fun k x e=>by grind
 have i:∀k,o k=none->h' k=g' k:=fun k e=>by grind
 refine⟨r,h',n,p h' ⟨j,i,m⟩,⟨fun k b e=>?_,a.os,a.tape,a.output,a.size,fun k hl e=>?_,fun k b e l=>?_⟩⟩
 ·cases hx:o k with
  |some y=>
   rw[j k y hx]at e;cases e;rw[a.keep k (c k _ hx) (s.dis k _ hx)];exact hs k _ (s.own k _ hx)
  |none=>rw[i k hx]at e;exact a.sim k b e
 ·cases hx:o k with
  |some y=>rw[s.own k y hx]at e;cases e
  |none=>rw[s.rest k hx]at e;exact a.keep k hl e
 ·cases hx:o k with
  |some y=>rw[s.own k y hx]at e;cases e
  |none=>rw[s.rest k hx]at e;rw[i k hx]at l;exact a.new k b e l
def Sep.vis(s:Sep h g o){b:Nat}(hb:h b=none)(x:Obj):Sep (h.put b x) (g.put b x) o:=by have c:∀k y,o k=some y->k≠b:=by{rintro k y e rfl;rw[s.own k y e]at hb;cases hb};refine⟨fun k y e=>?_,fun k e=>?_,fun k y e=>?_⟩;{rw[C1 _ _ (c k y e)];exact s.own k y e};{by_cases a:k=b;{subst a;rw[C3,C3]};·rw[C1 _ _ a,C1 _ _ a];exact s.rest k e};·rw[C1 _ _ (c k y e)];exact s.dis k y e
def Sep.new(s:Sep h g o){b:Nat}(hb:h b=none)(x:Obj):Sep (h.put b x) g (o.put b x):=by
 refine⟨fun k y e=>?_,fun k e=>?_,fun k y e=>?_⟩
 ·by_cases a:k=b;·subst a;rw[C3]at e ⊢;exact e
  ·rw[C1 _ _ a]at e ⊢;exact s.own k y e
 ·by_cases a:k=b;·subst a;rw[C3]at e;cases e
  ·rw[C1 _ _ a]at e ⊢;exact s.rest k e
 ·by_cases a:k=b
  ·subst a
   cases hg:g k with
   |none=>rfl
   |some z=>rw[s.le k z hg]at hb;cases hb
  ·rw[C1 _ _ a]at e;exact s.dis k y e
def Sep.upd(s:Sep h g o){b:Nat}{x:Obj}(hb:o b=some x)(y:Obj):Sep (h.put b y) g (o.put b y):=by refine⟨fun k z e=>?_,fun k e=>?_,fun k z e=>?_⟩;{by_cases a:k=b;{subst a;rw[C3]at e ⊢;exact e};·rw[C1 _ _ a]at e ⊢;exact s.own k z e};{by_cases a:k=b;{subst a;rw[C3]at e;cases e};·rw[C1 _ _ a]at e ⊢;exact s.rest k e};·by_cases a:k=b;{subst a;exact s.dis k x hb};·rw[C1 _ _ a]at e;exact s.dis k z e
def Sep.after(s:Sep h g o){h':aC}(hl:h.le h'):∃g',g.le g'/\Sep h' g' o:=by
 let g':aC:=fun k=>match o k with|some _=>none|none=>h' k
 have b:∀k x,o k=some x->g' k=none:=fun k x e=>by grind
 have a:∀k,o k=none->g' k=h' k:=fun k e=>by grind
 refine⟨g',fun k x e=>?_,fun k x e=>hl k x (s.own k x e),fun k e=>(a k e).symm,b⟩
 cases ho:o k with
 |none=>rw[a k ho];exact hl k x (by rw[s.rest k ho];exact e)
 |some y=>rw[s.dis k y ho]at e;cases e
def Heap.join(o p:aC):aC:=fun k=>match p k with|some x=>some x|none=>o k
def Sep.join{g2 p:aC}(s:Sep h g o)(t:Sep g g2 p):Sep h g2 (o.join p):=by
 have b:∀k x,p k=some x->(o.join p) k=some x:=fun k x e=>by show(match p k with|some x=>some x|none=>o k)=_;rw[e]
 have a:∀k,p k=none->(o.join p) k=o k:=fun k e=>by show(match p k with|some x=>some x|none=>o k)=_;rw[e]
 refine⟨fun k x e=>?_,fun k e=>?_,fun k x e=>?_⟩
 ·cases hp:p k with
  |some y=>rw[b k y hp]at e;cases e;exact s.le k _ (t.own k _ hp)
  |none=>rw[a k hp]at e;exact s.own k x e
 ·cases hp:p k with
  |some y=>grind
  |none=>rw[a k hp]at e;rw[s.rest k e,t.rest k hp]
 ·cases hp:p k with
  |some y=>exact t.dis k y hp
  |none=>rw[a k hp]at e;have:=s.dis k x e;rw[t.rest k hp]at this;exact this
def S3{b:Nat}{x:Obj}(hb:g b=none):Sep (g.put b x) g (Ag.put b x):=(Sep.refl g).new hb x
def Sep.give(s:Sep h g o){o2:aC}(hl:o2.le o):∃g2,g.le g2/\Sep h g2 o2:=by
 let g2:aC:=fun k=>match o2 k with|some _=>none|none=>h k
 have c:∀k x,o2 k=some x->g2 k=none:=fun k x e=>by grind
 have a:∀k,o2 k=none->g2 k=h k:=fun k e=>by grind
 refine⟨g2,fun k x e=>?_,fun k x e=>s.own k x (hl k x e),fun k e=>(a k e).symm,c⟩
 have b:o2 k=none:=by
  cases ho:o2 k with
  |none=>rfl
  |some y=>rw[s.dis k y (hl k y ho)]at e;cases e
 rw[a k b];exact s.le k x e
end
section
variable {α:Type} [E:Enc α]
def RowB(o:aC)(b:Nat)(xs:List α):Prop:=∃(e:TypeId) (ex:List Value),o b=some (.cells (xs.flatMap enc++ex).toArray e)
def RowB.other{o:aC}{b k:Nat}{xs:List α}(r:RowB o b xs)(hk:b≠k)(x:Obj):RowB (o.put k x) b xs:=by obtain⟨e,ex,a⟩:=r;exact⟨e,ex,by rw[C1 _ _ hk];exact a⟩
def RowB.cell{o:aC}{b:Nat}{xs:List α}(r:RowB o b xs){i:Nat}(hi:i<xs.length){j:Nat}{v:Value}(hv:(enc xs[i])[j]? = some v):o.cell? ⟨b,i*E.default.size+j,none⟩=some v:=by obtain⟨e,ex,d⟩:=r;have a:j<E.default.size:=by{by_cases a:j<E.default.size;{exact a};·rw[List.getElem?_eq_none (by rw[E.default.len];omega)]at hv;cases hv};have c:=A78 xs hi a;unfold Heap.cell?;grind
def RowB.slF{o h:aC}{b:Nat}{xs:List α}(r:RowB o b xs)(hl:o.le h):SlF h (some ⟨b,0,none⟩) xs:=by obtain⟨e,ex,a⟩:=r;right;refine⟨_,rfl,fun i v c=>?_⟩;rw[D9,Nat.zero_add];unfold Heap.cell?;simp only[hl b _ a];grind
def Sep.store{P:Program}{t:TypeId}(one:P.cellsOf t=E.default.size/\(P.info? t).isSome=true){v:Value}{y:α}(hv:v.cells=(enc y).toArray){h g o:aC}(s:Sep h g o){b:Nat}{xs:List α}(r:RowB o b xs){i:Nat}(hi:i<xs.length){off:Nat}(hoff:off=i*E.default.size){K:Unit->aC->Prop} (x:∀h' o' x',o'=o.put b x'->Sep h' g o'->RowB o' b (xs.set i y)->K () h'):wpH P (aF t (.pointer (some ⟨b,off,none⟩)) v) K h:=by subst hoff;obtain⟨e,ex,k⟩:=r;obtain⟨l,c⟩:=Option.isSome_iff_exists.1 one.2;have hs:l.size=E.default.size:=by{simpa[Program.cellsOf,c]using one.1};have hl:=E.default.len y;have f:(i+1)*E.default.size<=xs.length*E.default.size:=Nat.mul_le_mul_right _ hi;rw[Nat.add_mul,Nat.one_mul]at f;have a:(h.without b).put b (.cells (xs.flatMap enc++ex).toArray e)=h:=P8 (s.own b _ k);unfold aF;simp only[C8,Instr.sureAddr,I5,storeVar,K4 c,hs,hv,List.size_toArray,hl,ne_eq,not_true_eq_false,if_false];rw[<- a];refine H8 (enc y) (i*E.default.size) 0 _ (by rw[List.length_append,N3,hl];omega) (E.default.one y) ?_;have d:J0 (xs.flatMap enc++ex) (i*E.default.size+0) (enc y)=(xs.set i y).flatMap enc++ex:=by{rw[Nat.add_zero,<- A1u xs hi];unfold J0;rw[List.take_append_of_le_length (by rw[N3];omega),List.drop_append_of_le_length (by rw[N3,hl];omega),aE,aE,aE]};rw[d];have j:(h.without b).put b (.cells ((xs.set i y).flatMap enc++ex).toArray e)=h.put b (.cells ((xs.set i y).flatMap enc++ex).toArray e):=by{rw[<- a,Kd,a]};rw[j];exact x _ _ _ rfl (s.upd k _) ⟨e,ex,C3 _ _ _⟩
def RowX(o:aC)(b:Nat)(xs:List α):Prop:=∃e:TypeId,o b=some (.cells (xs.flatMap enc).toArray e)
def RowX.rowB{o:aC}{b:Nat}{xs:List α}(r:RowX o b xs):RowB o b xs:=by obtain⟨e,h⟩:=r;exact⟨e,[],gz0⟩
def RowX.mk{o:aC}{b:Nat}{xs:List α}{e:TypeId}:RowX (o.put b (.cells (xs.flatMap enc).toArray e)) b xs:=⟨e,C3 _ _ _⟩
def RowX.other{o:aC}{b k:Nat}{xs:List α}(r:RowX o b xs)(hk:b≠k)(x:Obj):RowX (o.put k x) b xs:=by obtain⟨e,a⟩:=r;exact⟨e,by rw[C1 _ _ hk];exact a⟩
def RowX.keep{o o':aC}{b:Nat}{xs:List α}(r:RowX o b xs)(h:∀x,o b=some x->o' b=some x):RowX o' b xs:=by obtain⟨e,a⟩:=r;exact⟨e,h _ a⟩
def P7{P:Program}{t:TypeId}(one:P.cellsOf t=E.default.size/\(P.info? t).isSome=true){v:Value}{y:α}(hv:v.cells=(enc y).toArray){h g o:aC}(s:Sep h g o){b:Nat}{xs:List α}(r:RowX o b xs){i:Nat}(hi:i<xs.length){K:Unit->aC->Prop} (x:∀h' o' x',o'=o.put b x'->Sep h' g o'->RowX o' b (xs.set i y)->K () h'):wpH P (aF t (.pointer (some (Addr.add ⟨b,0,none⟩ (i*E.default.size)))) v) K h:=by obtain⟨e,f⟩:=r;have a:A59 e (h.without b) b xs=h:=P8 (s.own b _ f);rw[<- a];refine B1z one hv hi ?_;have d:A59 e (h.without b) b (xs.set i y)=h.put b (.cells ((xs.set i y).flatMap enc).toArray e):=by{funext k;by_cases c:k=b;{subst c;show Heap.put _ _ _ k=_;rw[C3,C3]};·show Heap.put _ _ _ k=_;rw[C1 _ _ c,C1 _ _ c];unfold Heap.without;grind};rw[d];exact x _ _ _ rfl (s.upd f _) RowX.mk
def B59{h g:aC}{e:TypeId}{A:Option Addr}{c:Nat}{xs:List α}(p:PrivF h g e A c xs)(hne:xs≠[]):∃b x,A=some ⟨b,0,none⟩/\g b=none/\h=g.put b x/\Sep h g (Ag.put b x)/\RowB (Ag.put b x) b xs:=by obtain⟨n,m,j⟩:=p;rcases j with⟨q,_⟩|⟨b,a,k,f,d,l,i⟩;{simp_all};·refine⟨b,_,k,f,d,by rw[d];exact S3 f,e,a.drop (xs.length*E.default.size),?_⟩;rw[C3,<- i,List.take_append_drop]
end
def Gb{a:Addr}{m l s:Nat}(h:l<m):X9 (some a) m l s=some (a.add (l*s)):=by unfold X9;grind
structure IV where
 s:Bool
 A:Option Addr
 n:Nat
 c:Nat
abbrev IV.v(w:IV):Value:=.agg #[.bool w.s,.slice w.A w.n w.c]
instance:Enc IV:=⟨⟨fun w=>[.bool w.s,.slice w.A w.n w.c],2,fun _=>rfl,fun w v hv=>by simp at hv;rcases hv with rfl|rfl<;>rfl⟩⟩
