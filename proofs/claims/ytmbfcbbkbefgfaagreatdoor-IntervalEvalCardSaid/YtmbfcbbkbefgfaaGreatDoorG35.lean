/- A part. -/
import Derived.Test.YtmbfcbbkbefgfaaGreatDoorG34
import Derived.Test.YtmbfcbbkbefgfaaGreatDoorG26
import Derived.Test.YtmbfcbbkbefgfaaGreatDoorG33
import Derived.Deep.SlicePairs
open Go.Proofs.Tryz
set_option linter.all false
open _root_.Go.Addr renaming add->aM
open _root_.Go.Builtin renaming append_->bD
open _root_.ByteArray renaming toList->aV
open _root_.Go.Instr renaming buildSlice->aZ
open Int renaming toNat_natCast->aD
open List renaming getElem?_eq_getElem->aC,getD_eq_getElem?_getD->aE,getElem_mem->aG,length_append->aH,length_set->aI,getElem?_eq_none->aO,set_cons_succ->aP,range->aQ,eq_nil_of_length_eq_zero->bB,nil_append->bC,replicate->bF,toArray->bH,getElem?_set_self->bI
open List.cons renaming injEq->aL
open Nat renaming le_mul_of_pos_right->aU,le_refl->aX,zero_le->bA
open Option.some renaming inj->aW
open _root_.Go.Value renaming string->bG
open _root_.Go.Value.int renaming injEq->aK
open _root_.Go.Value.slice renaming injEq->aS
open _root_.Go renaming Addr->aJ,TypeId->aR,Value->aT
open _root_.Go.Proofs.YtmbfcbbkbefgfaaGreatDoor renaming Heap->aF,FCall->aN,PolyAt->aY
namespace Go.Proofs.YtmbfcbbkbefgfaaGreatDoor
set_option maxRecDepth 20000
open Go
section
variable {h g:aF} {K:VP} {A B:Option aJ} {s s':Bool} {an ac bn bc m:Nat} {x y:Int}
end
abbrev RQr:aF->QV->Rat->Prop:=fun h w q=>RQ h w q
abbrev NQr:aF->QV->Rat->Prop:=fun h w q=>NQ h w q
abbrev ZIr:aF->IV->Int->Prop:=fun h w z=>ZI h w.s w.A w.n w.c z
abbrev SSr:aF->List UInt8->List UInt8->Prop:=fun _ w s=>w=s
def Mon{α β:Type}(R:aF->α->β->Prop):Prop:=∀ (h h':aF) (w:α) (x:β),h.le h'->R h w x->R h' w x
instance:Enc QV:=⟨⟨fun w=>[.bool w.s,.slice w.A w.n w.c,.bool w.s2,.slice w.A2 w.n2 w.c2],4,fun _=>rfl,fun w v hv=>by simp at hv;rcases hv with rfl|rfl|rfl|rfl<;>rfl⟩⟩
section
variable {α β:Type}
def Row(R:aF->α->β->Prop)(g:aF)(xs:List α)(n:Nat)(f:Nat->β):Prop:=∀ i,i<n->∃ w,xs[i]? = some w/\R g w (f i)
variable {R:aF->α->β->Prop} {g g' h h':aF} {xs:List α} {n:Nat} {f:Nat->β}
def Row.mono(m:Mon R)(hl:g.le g')(r:Row R g xs n f):Row R g' xs n f:=fun i a=>by
 obtain ⟨w,e,b⟩:=r i a
 exact ⟨w,e,m _ _ _ _ hl b⟩
def Row.nil:Row R g xs 0 f:=fun i a=>by omega
def Row.set{k:Nat}(r:Row R g xs k f)(hk:k<xs.length){w:α}(hw:R g w (f k)):Row R g (xs.set k w) (k+1) f:=fun i c=>by
 by_cases e:i=k
 ·subst e;exact ⟨w,by rw [bI hk],hw⟩
 ·obtain ⟨u,a,b⟩:=r i (by omega)
  exact ⟨u,by rw [List.getElem?_set_ne (fun x=>e x.symm)];exact a,b⟩
def Row.push(r:Row R g xs xs.length f){w:α}(hw:R g w (f xs.length)):Row R g (xs++[w]) (xs++[w]).length f:=fun i a=>by
 rw [aH] at a
 by_cases e:i=xs.length
 ·subst e;exact ⟨w,by simp,hw⟩
 ·obtain ⟨u,b,c⟩:=r i (by simp at a;omega)
  exact ⟨u,by rw [List.getElem?_append_left (by simp at a;omega)];exact b,c⟩
def Row.get(r:Row R g xs n f){i:Nat}(hi:i<n)(hl:i<xs.length):R g xs[i] (f i):=by
 obtain ⟨w,e,a⟩:=r i hi
 rw [aC hl] at e
 cases e;exact a
variable [E:Enc α]
def RowV(R:aF->α->β->Prop)(h:aF)(A:Option aJ)(n:Nat)(f:Nat->β):Prop:=∃ xs:List α,SlF h A xs/\xs.length=n/\Row R h xs n f
def RowV.mono(m:Mon R){A:Option aJ}(hl:h.le h')(r:RowV R h A n f):RowV R h' A n f:=by
 obtain ⟨a,s,e,r⟩:=r
 exact ⟨a,s.mono hl,e,r.mono m hl⟩
def RowV.at(pos:0<E.default.size){A:Option aJ}(r:RowV R h A n f){i:Nat}(hi:i<n):∃ a w,A=some a/\R h w (f i)/\∀ j v,(enc w)[j]? = some v->h.cell? (aM (aM a (i*E.default.size)) j)=some v:=by
 obtain ⟨c,s,e,r⟩:=r
 obtain ⟨a,b,d⟩:=SlF.at pos s (i:=i) (by omega)
 exact ⟨a,c[i],b,r.get hi (by omega),d⟩
structure Own (R:aF->α->β->Prop) (h h':aF) (b n:Nat) (f:Nat->β):Prop where
 ex:∃ g o xs,h.le g/\Sep h' g o/\RowX o b xs/\xs.length=n/\Row R g xs n f
end
section
variable {h:aF} {A:Option aJ} {n:Nat}
end
end Go.Proofs.YtmbfcbbkbefgfaaGreatDoor
namespace Go.Proofs.YtmbfcbbkbefgfaaGreatDoor
set_option maxRecDepth 20000
def sm:Nat->(Nat->Rat)->Rat
 | 0,_=>0
 | n+1,f=>sm n f+f n
def rhx(l i:Nat):Nat:=if i<l then i else i+1
def sg(n:Nat):Rat:=if n%2=0 then 1 else -1
def dt:Nat->(Nat->Nat->Rat)->Rat
 | 0,_=>1
 | k+1,X=>sm (k+1) fun l=>sg (k+l)*X k l*dt k (fun c r=>X c (rhx l r))
def rc(X:Nat->Nat->Rat)(m:Nat)(y:Nat->Rat):Nat->Nat->Rat:=fun c r=>if c=m then y r else X c r
def Wh(q:Rat):Prop:=∃ z:Int,q=(z:Rat)
structure Elim (n w:Nat) (B R:Nat->Nat->Rat) (cs:Nat->Nat) (k:Nat):Prop where
 kn:k<=n
 cw:∀ m,m<k->cs m<w
 piv:∀ l m,l<k->m<k->R l (cs m)=if l=m then 1 else 0
 low:∀ i m,i<n->k<=i->m<k->R i (cs m)=0
 top:∀ l j,l<k->j<w->B l j=sm k fun m=>B l (cs m)*R m j
 bot:∀ i j,i<n->k<=i->j<w->B i j=R i j+sm k fun m=>B i (cs m)*R m j
def dp(B:Nat->Nat->Rat)(cs:Nat->Nat)(k:Nat):Rat:=dt k fun c r=>B r (cs c)
section
variable {n w:Nat} {B R:Nat->Nat->Rat} {cs:Nat->Nat} {k:Nat}
end
end Go.Proofs.YtmbfcbbkbefgfaaGreatDoor
namespace Go.Proofs.YtmbfcbbkbefgfaaGreatDoor
set_option maxRecDepth 20000
structure ES where
 R:Nat->Nat->Rat
 cs:List Nat
 det:Rat
structure PS where
 M:Nat->Nat->Int
 S:Nat->Rat
 cs:List Nat
 last:Int
 sgn:Int
def pr:Nat->(Nat->Rat)->Rat
 | 0,_=>1
 | n+1,f=>pr n f*f n
structure ERel (n w c:Nat) (A:Nat->Nat->Rat) (s:ES) (t:PS):Prop where
 cs:s.cs=t.cs
 elim:∃ B,(∀ i j,i<n->j<w->Wh (B i j))/\Elim n w B (fun i j=>if i<s.cs.length then s.R i j else t.S i*s.R i j) (fun m=>s.cs.getD m 0) s.cs.length/\(t.last:Rat)=dp B (fun m=>s.cs.getD m 0) s.cs.length
 last:t.last≠0
 val:∀ i j,i<n->j<w->(t.M i j:Rat)=t.last*(if i<s.cs.length then s.R i j else t.S i*s.R i j)
 scale:∀ i,i<n->t.S i≠0
 zero:∀ i j,i<n->s.cs.length<=i->j<c->s.R i j=0
 asc:s.cs.length<=c
 det:s.cs.length=c->s.det*pr s.cs.length t.S=t.sgn*t.last
 miss:s.cs.length<c->s.cs.length<n->s.det=0
 sgn:t.sgn=1\/t.sgn= -1
end Go.Proofs.YtmbfcbbkbefgfaaGreatDoor
namespace Go.Proofs.YtmbfcbbkbefgfaaGreatDoor
set_option maxRecDepth 20000
structure SzE (n w m:Nat) (s:ES):Prop where
 R:∀ a b,a<n->b<w->Sz (7^s.cs.length*m) (s.R a b)
 det:Sz (7^s.cs.length*m) s.det
 len:s.cs.length<=n
structure ZbP (n w m l:Nat) (s:PS):Prop where
 M:∀ a b,a<n->b<w->ZB (3^s.cs.length*m) (s.M a b)
 last:ZB (3^s.cs.length*m) s.last
 S:∀ a,a<n->Sz l (s.S a)
 len:s.cs.length<=n
structure Asc (l:List Nat) (c:Nat):Prop where
 lt:∀ x∈l,x<c
 asc:l.Pairwise (· < ·)
section
variable {α β:Type} [E:Enc α] {R:aF->α->β->Prop}
end
section
variable {h:aF} {K:VP} {A:Option aJ} {n c m:Nat} {ls:Nat->List UInt8} {f:Nat->Rat} {a w:QV} {q:Rat}
end
instance:Enc Int:=⟨⟨fun z=>[I z],1,fun _=>rfl,fun z v hv=>by rw [List.mem_singleton.1 hv];rfl⟩⟩
abbrev IIr:aF->Int->Int->Prop:=fun _ w z=>w=z
section
variable {α:Type} [E:Enc α]
def OwnSl(o:aF)(e:aR)(A:Option aJ)(c:Nat)(xs:List α):Prop:=
 xs.length<=c/\((c=0/\A=none)\/∃ b arr,A=some ⟨b,0,none⟩/\o b=some (.cells (bH arr) e)/\arr.length=c*E.default.size/\arr.take (xs.length*E.default.size)=xs.flatMap enc)
def OwnSl.nil{o:aF}{e:aR}:OwnSl o e none 0 ([]:List α):=⟨aX _,.inl ⟨rfl,rfl⟩⟩
def OwnSl.rowB{o:aF}{e:aR}{A:Option aJ}{c:Nat}{xs:List α}(w:OwnSl o e A c xs)(hne:xs≠[]):∃ b,A=some ⟨b,0,none⟩/\RowB o b xs:=by
 rcases w.2 with d|⟨b,a,i,j,k,g⟩
 ·exfalso
  have:=w.1
  have:=d.1
  have:xs.length≠0:=fun h=>hne (bB h)
  omega
 ·exact ⟨b,i,e,a.drop (xs.length*E.default.size),by rw [j,<- g,List.take_append_drop]⟩
def OwnSl.slF{o h:aF}{e:aR}{A:Option aJ}{c:Nat}{xs:List α}(w:OwnSl o e A c xs)(hl:o.le h):SlF h A xs:=by
 by_cases a:xs=[]
 ·rw [a];exact SlF.nil
 ·obtain ⟨b,rfl,r⟩:=w.rowB a
  exact r.slF hl
def OwnSl.priv{h g o:aF}{e:aR}{A:Option aJ}{c:Nat}{xs:List α}(s:Sep h g o)(w:OwnSl o e A c xs):∃ gb,PrivF h gb e A c xs/\∀ k x,h k=some x->A≠some ⟨k,0,none⟩->gb k=some x:=by
 rcases w.2 with ⟨j,l⟩|⟨b,d,i,p,q,m⟩
 ·subst j
  have n:xs=[]:=bB (by have:=w.1;omega)
  subst n
  exact ⟨h,PrivF.nil h e A,fun k x e _=>e⟩
 ·refine ⟨h.without b,⟨P8 xs,w.1,.inr ⟨b,d,i,K4 _ _,(Q0 (s.own b _ p)).symm,q,m⟩⟩,fun k x e a=>?_⟩
  unfold Heap.without
  rw [iN]
  ·exact e
  ·rintro rfl;exact a i
def OwnSl.push{P:Program}{t e ty:aR}{z:aT}{bytes:Nat}(st:SliceT P t e z E.default.size bytes){h g o:aF}{A:Option aJ}{c:Nat}{xs:List α}(s:Sep h g o)(w:OwnSl o e A c xs){v:aT}{y:α}(hv:v.cells=(enc y).toArray)(hsz:E.default.size<=1000)
 (hb:(2*(xs.length+1)+192)*bytes<=281474976710656) (hn:xs.length+1<=9223372036854775807) {K1:aF->Prop} {K:Option aJ->Nat->Nat->aF->Prop}
 (x0:∀ h1,h.le h1->K1 h1)
 (x:∀ A' c' h' g' o',g.le g'->Sep h' g' o'->OwnSl o' e A' c' (xs++[y])->(∀ k u,o k=some u->A≠some ⟨k,0,none⟩->o' k=some u/\A'≠some ⟨k,0,none⟩)->K A' (xs.length+1) c' h'):
 wpH P (aZ t 1 #[(0,v)]) (fun v' hp=>∃ (B:Option aJ) (m d:Nat),v'= .slice B m d/\K1 hp/\wpH P (bD #[t,t] ty #[.slice A xs.length c,.slice B m d]) (fun v1 hp1=>∃ (A':Option aJ) (n' c':Nat),v1= .slice A' n' c'/\K A' n' c' hp1) hp) h:=by
 obtain ⟨gb,p,J⟩:=w.priv s
 refine Kj st (vs:=[v]) (fun u hu=>by rw [List.mem_singleton.1 hu,hv];simp [E.default.len]) rfl (by simp;omega) rfl ?_
 intro b j
 have Q:[v].flatMap (fun v=>v.cells.toList)=[y].flatMap enc:=by simp [hv]
 rw [Q]
 refine ⟨_,_,_,rfl,x0 _ (Heap.le_put _ j),?_⟩
 have p':PrivF (h.put b (.cells ([y].flatMap enc).toArray e)) (gb.put b (.cells ([y].flatMap enc).toArray e)) e A c xs:=Priv.put p j _
 refine Dj st p' (ys:=[y]) rfl (B0d e h b [y]) hb hn ?_
 intro A' c' h' g' hg hp
 refine ⟨_,_,_,rfl,?_⟩
 rw [aH]
 have H:∀ k u,h k=some u->A≠some ⟨k,0,none⟩->g' k=some u:=by
  intro k u a V
  have i:k≠b:=by rintro rfl;rw [j] at a;cases a
  exact hg k u (by rw [B7 _ _ i];exact J k u a V)
 have N:∀ k u,g k=some u->A≠some ⟨k,0,none⟩:=by
  intro k u a q
  rcases w.2 with ⟨_,W⟩|⟨l,C,n,r,_⟩
  ·rw [q] at W;cases W
  ·rw [q] at n
   simp only [Option.some.injEq,Addr.mk.injEq,and_true] at n
   subst n
   rw [s.dis k _ r] at a;cases a
 rcases hp.2.2 with ⟨aa,_⟩|⟨l,C,n,r,L,ha,ht⟩
 ·exfalso
  have:=hp.2.1
  rw [aH] at this
  simp at this
  omega
 ·subst n
  let o':aF:=fun k=>if k=l then some (.cells (bH C) e) else if A=some ⟨k,0,none⟩ then none else o k
  have Z:o' l=some (.cells (bH C) e):=by show (if l=l then _ else _)=_;rw [iP rfl]
  have O:∀ k,k≠l->A≠some ⟨k,0,none⟩->o' k=o k:=fun k h1 F=>by show (if k=l then _ else if _ then _ else _)=_;rw [iN h1,iN F]
  have T:∀ k,k≠l->A=some ⟨k,0,none⟩->o' k=none:=fun k h1 F=>by show (if k=l then _ else if _ then _ else _)=_;rw [iN h1,iP F]
  let g2:aF:=fun k=>match o' k with|some _=>none|none=>h' k
  have gs:∀ k u,o' k=some u->g2 k=none:=fun k u a=>by show (match o' k with|some _=>none|none=>h' k)=_;rw [a]
  have X:∀ k,o' k=none->g2 k=h' k:=fun k a=>by show (match o' k with|some _=>none|none=>h' k)=_;rw [a]
  have D:∀ k u,k≠l->g' k=some u->h' k=some u:=fun k u h1 a=>by rw [L,B7 _ _ h1];exact a
  have M:∀ k u,o k=some u->A≠some ⟨k,0,none⟩->k≠l:=by
   rintro k u a F rfl
   have:=H k u (s.own k u a) F
   rw [r] at this;cases this
  refine x _ c' h' g2 o' (fun k u a=>?_) ⟨fun k u a=>?_,fun k a=>(X k a).symm,gs⟩ ⟨hp.2.1,.inr ⟨l,C,rfl,Z,ha,ht⟩⟩ (fun k u a F=>?_)
  ·have S:o k=none:=by
    cases ho:o k with
    | none=>rfl
    | some y=>rw [s.dis k y ho] at a;cases a
   have q:=N k u a
   have R:=H k u (s.le k u a) q
   have G:k≠l:=by rintro rfl;rw [r] at R;cases R
   rw [X k (by rw [O k G q];exact S)]
   exact D k u G R
  ·by_cases i:k=l
   ·subst i
    rw [Z] at a;cases a
    rw [L,C4]
   ·by_cases q:A=some ⟨k,0,none⟩
    ·rw [T k i q] at a;cases a
    ·rw [O k i q] at a
     exact D k u i (H k u (s.own k u a) q)
  ·have i:=M k u a F
   refine ⟨by rw [O k i F];exact a,fun h3=>i ?_⟩
   simp only [Option.some.injEq,Addr.mk.injEq,and_true] at h3
   exact h3.symm
end
structure Tb where
 bt:Nat
 bE:Nat
 bS:Nat
 rows:Nat
 cols:Nat
 cE:Nat
 cS:Nat
structure Tab (h g o:aF) (T:Tb) (M:Nat->Nat->Int) (S:Nat->Rat):Prop where
 sep:Sep h g o
 n1:T.bt≠T.bE
 n2:T.bt≠T.bS
 n3:T.bE≠T.bS
 head:∃ e,o T.bt=some (.cells #[I T.cols,.slice (some ⟨T.bE,0,none⟩) (T.rows*T.cols) T.cE,.slice (some ⟨T.bS,0,none⟩) T.rows T.cS] e)
 elems:∃ ws:List IV,RowB o T.bE ws/\ws.length=T.rows*T.cols/\∀ i j,i<T.rows->j<T.cols->∃ w,ws[i*T.cols+j]? = some w/\ZIr g w (M i j)
 scales:∃ ss:List QV,RowB o T.bS ss/\ss.length=T.rows/\Row RQr g ss T.rows S
 cE:T.rows*T.cols<=T.cE
 cS:T.rows<=T.cS
 small:T.rows<=10000/\T.cols<=10000
 pos:0<T.cols
section
variable {h g o:aF} {T:Tb} {M:Nat->Nat->Int} {S:Nat->Rat} {K:VP} {m:Nat}
def Sep.le_le{h' g':aF}(s:Sep h g o)(s':Sep h' g' o)(l:g.le g'):h.le h':=fun k x e=>by
 cases ho:o k with
 | some y=>rw [s.own k y ho] at e;rw [s'.own k y ho];exact e
 | none=>rw [s.rest k ho] at e;rw [s'.rest k ho];exact l k x e
end
section
variable {h g o:aF} {T:Tb} {M:Nat->Nat->Int} {S:Nat->Rat} {K:VP} {m:Nat}
def A4f{α:Type}[E:Enc α]{P:Program}{t e ty:aR}{z:aT}{bytes:Nat}(st:SliceT P t e z E.default.size bytes){h g o:aF}{A:Option aJ}{c n:Nat}{xs:List α}(s:Sep h g o)(w:OwnSl o e A c xs)(hxn:n=xs.length){v:aT}{y:α}(hv:v.cells=(enc y).toArray)(hsz:E.default.size<=1000)
 (hb:(2*(xs.length+1)+192)*bytes<=281474976710656) (hn:xs.length+1<=9223372036854775807) {K:Option aJ->Nat->Nat->aF->Prop}
 (x:∀ A' c' h' g' o',g.le g'->Sep h' g' o'->OwnSl o' e A' c' (xs++[y])->(∀ k u,o k=some u->A≠some ⟨k,0,none⟩->o' k=some u/\A'≠some ⟨k,0,none⟩)->K A' (xs.length+1) c' h'):
 wpH P (aZ t 1 #[(0,v)]) (fun v' hp=>∃ (B:Option aJ) (m d:Nat),v'= .slice B m d/\wpH P (bD #[t,t] ty #[.slice A n c,.slice B m d]) (fun v1 hp1=>∃ (A':Option aJ) (n' c':Nat),v1= .slice A' n' c'/\K A' n' c' hp1) hp) h:=by
 subst hxn
 refine He _ (OwnSl.push (ty:=ty) st s w hv hsz hb hn (K1:=fun _=>True) (K:=K) (fun _ _=>trivial) x) ?_
 rintro v' hp ⟨B,m,d,e,_,a⟩
 exact ⟨B,m,d,e,a⟩
abbrev zs(l:List Nat):List Int:=l.map fun (n:Nat)=>(n:Int)
end
abbrev Ivl:=List UInt8 × List UInt8
def S5{X Y:Prop}(y:Y):Br (!true) X Y:=y
def S6{X Y:Prop}(x:X):Br (!false) X Y:=x
def Km(z:Int)(l:List aT):iAt (I z::l) 0=z:=rfl
section
variable {h:aF} {K:VP} {A B:Option aJ} {ts:List U6} {vars:Int} {c:Nat}
def N1{i:Nat}(h:i<=9223372036854775806):B5 ((i:Int)+1)=((i+1:Nat):Int):=by rw [B6]<;>omega
def Rg(pa:aY h A ts)(hK1:ts.length<=5->(∀ i,i<ts.length->(tm ts i).1.length<=8/\(tm ts i).2.length<=12)->K (.bool true) h)(hK0:¬ (ts.length<=5/\∀ i,i<ts.length->(tm ts i).1.length<=8/\(tm ts i).2.length<=12)->K (.bool false) h):aN prog Ei #[.agg #[I vars,.slice A ts.length c],I 5,I 8] h K:=by
 refine Uo _ _ _ _ _ _ ?_
 unfold Tt
 refine B4 (fun e=>hK0 fun x=>by omega) (fun e=>?_)
 refine ⟨fun L k=>∃ i:Nat,i<=ts.length/\L=[I (i:Int)]/\k=h/\∀ j,j<i->(tm ts j).1.length<=8/\(tm ts j).2.length<=12,fun L _=>ts.length-(iAt L 0).toNat,⟨0,by omega,rfl,rfl,fun j m=>by omega⟩,?_⟩
 rintro z k ⟨i,B,o,rfl,g⟩
 obtain rfl:=sI1 o
 refine B4 (fun r=>?_) (fun s=>hK1 (by omega) fun j m=>g j (by omega))
 have b:i<ts.length:=by omega
 obtain ⟨a,D,d,l,n,p,u⟩:=pa i b
 refine ⟨a,l,by omega,by omega,_,n,?_⟩
 rw [G7]
 refine B4 (fun e=>hK0 fun x=>by have:=(x.2 i b).1;omega) (fun w=>⟨a,l,by omega,by omega,_,_,_,p,B4 (fun e=>hK0 fun x=>by have:=(x.2 i b).2;omega) (fun y=>?_)⟩)
 rw [N1 (by omega)]
 refine ⟨⟨i+1,by omega,rfl,rfl,fun j m=>?_⟩,by simp only [Km];omega⟩
 by_cases q:j=i
 ·rw [q];exact ⟨by omega,by omega⟩
 ·exact g j (by omega)
def A9j{dg:Int}(pa:aY h A ts)(hts:ts.length<=1000000)(hex:∀ i,i<ts.length->(tm ts i).2.length<=1000000)(hK1:vars<=6->(∀ i,i<ts.length->∀ j,j<(tm ts i).2.length->(tm ts i).2.getD j 0<=dg)->K (.bool true) h)(hK0:¬ (vars<=6/\∀ i,i<ts.length->∀ j,j<(tm ts i).2.length->(tm ts i).2.getD j 0<=dg)->K (.bool false) h):aN prog A3w #[.agg #[I vars,.slice A ts.length c],I 6,I dg] h K:=by
 refine B4v _ _ _ _ _ _ ?_
 unfold C0m
 refine B4 (fun e=>hK0 fun x=>by omega) (fun e=>?_)
 refine ⟨fun L q=>∃ i:Nat,i<=ts.length/\L=[I (i:Int)]/\q=h/\∀ g,g<i->∀ j,j<(tm ts g).2.length->(tm ts g).2.getD j 0<=dg,fun L _=>ts.length-(iAt L 0).toNat,⟨0,by omega,rfl,rfl,fun j m=>by omega⟩,?_⟩
 rintro z q ⟨i,Q,E,rfl,y⟩
 obtain rfl:=sI1 E
 refine B4 (fun F=>?_) (fun H=>hK1 (by omega) fun j m=>y j (by omega))
 have b:i<ts.length:=by omega
 obtain ⟨a,D,d,r,N,w,B⟩:=pa i b
 have J:=hex i b
 refine ⟨fun L p=>∃ k:Nat,k<=(tm ts i).2.length/\L=[I (k:Int)]/\p=q/\∀ j,j<k->(tm ts i).2.getD j 0<=dg,fun L _=>(tm ts i).2.length-(iAt L 0).toNat,⟨0,by omega,rfl,rfl,fun j m=>by omega⟩,?_⟩
 rintro O G ⟨k,M,o,rfl,l⟩
 obtain rfl:=sI1 o
 refine ⟨a,r,by omega,by omega,_,_,_,w,B4 (fun u=>?_) (fun s=>?_)⟩
 ·refine ⟨a,r,by omega,by omega,_,_,_,w,?_⟩
  refine B.load rfl (by omega) (by omega) ?_
  rw [aD]
  refine B4 (fun e=>hK0 fun x=>by have:=x.2 i b k (by omega);omega) (fun R=>?_)
  rw [N1 (by omega)]
  refine ⟨⟨k+1,by omega,rfl,rfl,fun j m=>?_⟩,by simp only [Km];omega⟩
  by_cases n:j=k
  ·rw [n];omega
  ·exact l j (by omega)
 ·rw [N1 (by omega)]
  refine ⟨⟨i+1,by omega,rfl,rfl,fun g C j m=>?_⟩,by simp only [Km];omega⟩
  by_cases n:g=i
  ·subst n;exact l j (by omega)
  ·exact y g (by omega) j m
def Fy{l l2:List Ivl}{an bn ac bc:Nat}(x:SlV h A (l.flatMap F6))(y:SlV h B (l2.flatMap F6))(hn:an=l.length)(hm:bn=l2.length)(hl:l.length<=1000000)(hK:K (.bool (decide (l=l2))) h):aN prog O3 #[.slice A an ac,.slice B bn bc] h K:=by
 subst hn hm
 refine Up _ _ _ _ _ _ ?_
 unfold Tu
 have d:¬ l=l2->K (.bool false) h:=fun e=>by rw [decide_eq_false e] at hK;exact hK
 refine N8 (fun e=>d fun x=>e (by rw [x])) (fun e=>?_)
 have e:l.length=l2.length:=by omega
 refine ⟨fun L k=>∃ i:Nat,i<=l.length/\L=[I (i:Int)]/\k=h/\∀ j,j<i->l[j]? = l2[j]?,fun L _=>l.length-(iAt L 0).toNat,⟨0,by omega,rfl,rfl,fun j o=>by omega⟩,?_⟩
 rintro z k ⟨i,F,r,rfl,g⟩
 obtain rfl:=sI1 r
 refine B4 (fun D=>?_) (fun E=>?_)
 ·have p:i<l.length:=by omega
  have m:i<l2.length:=by omega
  obtain ⟨a,s,c0,c1⟩:=Oi x p
  obtain ⟨b,C,q,u⟩:=Oi y m
  refine ⟨a,s,by omega,by omega,_,_,c0,c1,b,C,by omega,by omega,_,_,q,u,?_⟩
  rw [Ew,Ew]
  refine Br.of (fun c=>d fun x=>?_) (fun c=>?_)
  ·subst x
   simp at c
  ·have:l[i]=l2[i]:=by
    have n:l[i].1=l2[i].1/\l[i].2=l2[i].2:=by simpa using c
    exact Prod.ext n.1 n.2
   rw [N1 (by omega)]
   refine ⟨⟨i+1,by omega,rfl,rfl,fun j o=>?_⟩,by simp only [Km];omega⟩
   by_cases w:j=i
   ·subst w;rw [aC p,aC m,this]
   ·exact g j (by omega)
 ·have:l=l2:=List.ext_getElem? fun j=>by
   by_cases o:j<l.length
   ·exact g j (by omega)
   ·rw [aO (by omega),aO (by omega)]
  rw [decide_eq_true this] at hK
  exact hK
def Ic(l:List Ivl):Prop:=∀ x∈l,A4j x.1 x.2
def If{l:List Ivl}{n:Nat}(gl:Gl h)(x:SlV h A (l.flatMap F6))(hn:n=l.length)(hl:l.length<=1000000)(ht:∀ x∈l,x.1.length<=20/\x.2.length<=20)(hK1:Ic l->K (.bool true) h)(hK0:¬ Ic l->K (.bool false) h):aN prog Bw #[.slice A n c] h K:=by
 subst hn
 refine Zo _ _ _ ?_
 unfold Wp
 refine ⟨fun L r=>∃ i:Nat,i<=l.length/\L=[I (i:Int)]/\r=h/\∀ j (b:j<l.length),j<i->A4j l[j].1 l[j].2,fun L _=>l.length-(iAt L 0).toNat,⟨0,by omega,rfl,rfl,fun j _ b=>by omega⟩,?_⟩
 rintro z r ⟨i,M,w,rfl,o⟩
 obtain rfl:=sI1 w
 refine B4 (fun H=>?_) (fun J=>hK1 fun y u=>?_)
 ·have g:i<l.length:=by omega
  obtain ⟨a,B,c0,c1⟩:=Oi x g
  obtain ⟨C,D⟩:=ht _ (aG g)
  refine ⟨a,B,by omega,by omega,_,_,c0,c1,?_⟩
  refine T8 (m:=80) gl (Lx (k:=20) C (by omega) (by omega)) (Lx (k:=20) D (by omega) (by omega)) (by omega) (fun p q s E d=>⟨_,rfl,S5 ?_⟩) (fun e=>⟨_,rfl,S6 (hK0 fun x=>e (x _ (aG g)))⟩)
  rw [N1 (by omega)]
  refine ⟨⟨i+1,by omega,rfl,rfl,fun j b F=>?_⟩,by simp only [Km];omega⟩
  by_cases G:j=i
  ·subst G;exact ⟨p,q,s,E,d⟩
  ·exact o j b (by omega)
 ·obtain ⟨j,b,rfl⟩:=List.getElem_of_mem u
  exact o j b (by omega)
def A1b{i:Nat}(pa:aY h A ts)(hts:ts.length<=1000000)(hi:∀ t,t<ts.length->i<(tm ts t).2.length)(hK:∀ most:Int,0<=most->(∀ t,t<ts.length->(tm ts t).2.getD i 0<=most)->(∀ B:Int,0<=B->(∀ t,t<ts.length->(tm ts t).2.getD i 0<=B)->most<=B)->K (I most) h):aN prog Bg #[.agg #[I vars,.slice A ts.length c],I (i:Int)] h K:=by
 refine Pv _ _ _ _ _ ?_
 unfold Me
 refine ⟨fun L o=>∃ (k:Nat) (most:Int),k<=ts.length/\L=[I most,I (k:Int)]/\o=h/\0<=most/\(∀ t,t<k->(tm ts t).2.getD i 0<=most)/\(∀ B:Int,0<=B->(∀ t,t<k->(tm ts t).2.getD i 0<=B)->most<=B),fun L _=>ts.length-(iAt L 1).toNat,⟨0,0,by omega,rfl,rfl,by omega,fun t g=>by omega,fun B e _=>e⟩,?_⟩
 rintro l z o ⟨k,most,H,n,rfl,q,p,e⟩
 simp only [aL,aK,true_and,and_true] at n
 obtain ⟨rfl,rfl⟩:=n
 refine B4 (fun y=>?_) (fun F=>hK l q (fun t g=>p t (by omega)) fun B m j=>e B m fun t g=>j t (by omega))
 have b:k<ts.length:=by omega
 obtain ⟨a,D,d,s,u,E,r⟩:=pa k b
 have C:=hi k b
 refine ⟨a,s,by omega,by omega,_,_,_,_,u,E,?_⟩
 refine r.load rfl (by omega) (by omega) ?_
 rw [aD,N1 (by omega)]
 generalize hx:(tm ts k).2.getD i 0=x at *
 refine ⟨⟨k+1,if x>l then x else l,by omega,rfl,rfl,by split<;>omega,fun t g=>?_,fun B m j=>?_⟩,?_⟩
 ·by_cases w:t=k
  ·subst w;rw [hx];split<;>omega
  ·have:=p t (by omega);split<;>omega
 ·have J:=e B m fun t g=>j t (by omega)
  have G:=j k (by omega)
  rw [hx] at G
  split<;>omega
 ·show ts.length-((k+1:Nat):Int).toNat<ts.length-(k:Int).toNat
  omega
end
structure I2 where
 a:QV
 b:QV
instance:Enc I2:=⟨⟨fun x=>[.bool x.a.s,.slice x.a.A x.a.n x.a.c,.bool x.a.s2,.slice x.a.A2 x.a.n2 x.a.c2,.bool x.b.s,.slice x.b.A x.b.n x.b.c,.bool x.b.s2,.slice x.b.A2 x.b.n2 x.b.c2],8,fun _=>rfl,fun x v hv=>by simp at hv;rcases hv with rfl|rfl|rfl|rfl|rfl|rfl|rfl|rfl<;>rfl⟩⟩
structure RT where
 w:QV
 B:Option aJ
 n:Nat
 c:Nat
instance:Enc RT:=⟨⟨fun x=>[.bool x.w.s,.slice x.w.A x.w.n x.w.c,.bool x.w.s2,.slice x.w.A2 x.w.n2 x.w.c2,.slice x.B x.n x.c],5,fun _=>rfl,fun x v hv=>by simp at hv;rcases hv with rfl|rfl|rfl|rfl|rfl<;>rfl⟩⟩
abbrev I2r:aF->I2->Rat × Rat->Prop:=fun h w x=>NQ h w.a x.1/\NQ h w.b x.2
def B3f:Mon I2r:=fun _ _ _ _ l i=>⟨NQ.mono l i.1,NQ.mono l i.2⟩
abbrev RTr:aF->RT->U6->Prop:=fun h w t=>NQ h w.w (rv t.1)/\w.n=t.2.length/\SlI .i64 h w.B t.2
def B3e:Mon RTr:=fun _ _ _ _ l i=>⟨NQ.mono l i.1,i.2.1,i.2.2.mono l⟩
def bxQ(l:List Ivl)(i:Nat):Rat × Rat:=(rv (l.getD i ([],[])).1,rv (l.getD i ([],[])).2)
section
variable {h:aF} {K:VP} {A B:Option aJ} {ts:List U6} {vars:Int} {c:Nat}
def Cg{l:List Ivl}{n:Nat}(x:SlV h A (l.flatMap F6))(hn:n=l.length)(hl:l.length<=1000000)(ht:∀ x∈l,x.1.length<=20/\x.2.length<=20)(hK1:Ic l->∀ A' c' h',h.le h'->RowV I2r h' A' l.length (bxQ l)->K (.tuple #[.slice A' l.length c',.bool true]) h')(hK0:¬ Ic l->∀ h',h.le h'->K (.tuple #[.slice none 0 0,.bool false]) h'):aN prog Ee #[.slice A n c] h K:=by
 subst hn
 refine A28 _ _ _ ?_
 unfold A29
 refine ⟨fun L E=>∃ (k:Nat) (g o:aF) (d:List I2) (A':Option aJ) (c':Nat),k<=l.length/\L=[.slice A' k c',I (k:Int)]/\h.le g/\Sep E g o/\OwnSl o A06 A' c' d/\d.length=k/\Row I2r g d k (bxQ l)/\∀ j (e:j<l.length),j<k->A4j l[j].1 l[j].2,fun L _=>l.length-(iAt L 1).toNat,
  ⟨0,h,Oh,[],none,0,by omega,rfl,B3 _,Sep.refl h,OwnSl.nil,rfl,Row.nil,fun j _ e=>by omega⟩,?_⟩
 rintro oA on oc z E ⟨k,g,o,d,A',c',hk,eL,C,s,N,b,S,W⟩
 obtain ⟨⟨rfl,rfl,rfl⟩,rfl⟩:=sI2 eL
 refine B4 (fun ab=>?_) (fun ac=>?_)
 ·have u:on<l.length:=by omega
  obtain ⟨a,Z,c0,c1⟩:=Oi x u
  obtain ⟨t1,t2⟩:=ht _ (aG u)
  have i:=A0 C s.le
  refine ⟨a,Z,by omega,by omega,_,_,D4 i c0,D4 i c1,?_⟩
  refine s.call (A37 (m:=80) (by omega) (by omega) (Pg t1 (by omega)) (Pg t2 (by omega)) (by omega) (fun p q O V D M J g2 r n1 n2 T H=>⟨_,_,_,_,_,_,_,_,_,_,_,_,_,_,_,_,_,rfl,S5 ?_⟩) (fun G M J g2 r T H=>⟨_,_,_,_,_,_,_,_,_,_,_,_,_,_,_,_,_,rfl,S6 (hK0 (fun y=>G (y _ (aG u))) T (A0 C (A0 r H.le)))⟩))
  refine A4f (ty:=A88) C3p H N b.symm (y:=(⟨M,J⟩:I2)) rfl (by decide) (by omega) (by omega) ?_
  intro A3 c3 h3 Q o3 B s3 F _
  rw [b,N1 (by omega)]
  refine ⟨⟨on+1,Q,o3,_,A3,c3,by omega,rfl,A0 C (A0 r B),s3,F,by rw [aH,b];rfl,?_,fun j e aa=>?_⟩,?_⟩
  ·have rA:Row I2r Q d d.length (bxQ l):=by rw [b];exact S.mono B3f (A0 r B)
   have R:=rA.push (w:=(⟨M,J⟩:I2)) (by
    rw [b]
    have X:bxQ l on=(p,q):=by
     unfold bxQ
     rw [aE,aC u]
     show (rv l[on].1,rv l[on].2)=_
     rw [O,V,C7,C7]
    rw [X]
    exact ⟨NQ.mono B n1,NQ.mono B n2⟩)
   rw [aH,b] at R
   exact R
  ·by_cases ej:j=on
   ·subst ej;exact ⟨p,q,O,V,D⟩
   ·exact W j e (by omega)
  ·show l.length-((on+1:Nat):Int).toNat<l.length-(on:Int).toNat
   omega
 ·obtain rfl:on=l.length:=by omega
  refine hK1 (fun y hy=>?_) oA oc E (A0 C s.le) ⟨d,N.slF s.ole,b,S.mono B3f s.le⟩
  obtain ⟨j,e,rfl⟩:=List.getElem_of_mem hy
  exact W j e e
def PrI(h:aF)(ts:List U6)(vars:Int)(L:List aT)(hp:aF):Prop:=∃ (k:Nat) (g o:aF) (ws:List RT) (A':Option aJ) (c':Nat) (u0:Int) (u1A:Option aJ) (u1n u1c:Nat),k<=ts.length/\L=[I (k:Int),I u0,.slice u1A u1n u1c,I vars,.slice A' k c']/\h.le g/\Sep hp g o/\OwnSl o W4 A' c' ws/\ws.length=k/\Row RTr g ws k (tm ts)/\∀ j,j<k->B8r vars ts j
def B54{g o:aF}{ws:List RT}{n:Nat}(s:Sep h g o)(ow:OwnSl o W4 A c ws)(hwl:ws.length=n)(hn:n<=1000){w:QV}{D:Option aJ}{n1 d:Nat}{K:Option aJ->Nat->Nat->aF->Prop}(k:∀ A' c' h' g' o',g.le g'->Sep h' g' o'->OwnSl o' W4 A' c' (ws++[(⟨w,D,n1,d⟩:RT)])->K A' (n+1) c' h'):
 wpH prog (aZ Am 1 #[(0,.agg #[.bool w.s,.slice w.A w.n w.c,.bool w.s2,.slice w.A2 w.n2 w.c2,.slice D n1 d])]) (fun v hp=>∃ (B:Option aJ) (m e:Nat),v= .slice B m e/\Heap.le h hp/\wpH prog (bD #[Am,Am] Am #[.slice A n c,.slice B m e]) (fun v1 hp1=>∃ (A':Option aJ) (n' c':Nat),v1= .slice A' n' c'/\K A' n' c' hp1) hp) h:=by
 subst hwl
 exact OwnSl.push (ty:=Am) B6p s ow (y:=(⟨w,D,n1,d⟩:RT)) rfl (by decide) (by omega) (by omega) (K1:=fun b=>Heap.le h b) (fun _ l=>l) fun A' c' h' g' o' l i a _=>k A' c' h' g' o' l i a
def A0t(pa:aY h A ts)(hts:ts.length<=1000)(hc:∀ i,i<ts.length->(tm ts i).1.length<=100000000)(hK1:WfOk vars ts->∀ A' c' h',h.le h'->RowV RTr h' A' ts.length (tm ts)->K (.tuple #[.agg #[I vars,.slice A' ts.length c'],.bool true]) h')(hK0:¬ WfOk vars ts->∀ h',h.le h'->K (.tuple #[.agg #[I 0,.slice none 0 0],.bool false]) h'):aN prog Rw #[.agg #[I vars,.slice A ts.length c]] h K:=by
 refine A7g _ _ _ _ ?_
 unfold B1g
 refine B4 (fun e=>hK0 (fun x=>by have:=x.lo;omega) h (B3 _)) (fun e0=>B4 (fun e=>hK0 (fun x=>by have:=x.hi;omega) h (B3 _)) (fun e6=>?_))
 refine ⟨PrI h ts vars,fun L _=>ts.length-(iAt L 0).toNat,
  ⟨0,h,Oh,[],none,0,0,none,0,0,by omega,rfl,B3 _,Sep.refl h,OwnSl.nil,rfl,Row.nil,fun j hj=>by omega⟩,?_⟩
 rintro z aj X ab Z G oA on oc hp ⟨k,g,o,ws,A',c',C,p,n,m,hk,eL,Q,s,ow,r,rr,hh⟩
 simp only [aL,aK,aS,true_and,and_true] at eL
 obtain ⟨rfl,rfl,⟨rfl,rfl,rfl⟩,rfl,rfl,rfl,rfl⟩:=eL
 refine B4 (fun ar=>?_) (fun av=>?_)
 ·have u:on<ts.length:=by omega
  have ah:=A0 Q s.le
  obtain ⟨a,D,d,F,e2,O,e4⟩:=pa on u
  refine ⟨a,F,by omega,by omega,_,D4 ah e2,?_⟩
  refine s.call (Cu (hc on u) (fun q eq w g2 N nq h2 S=>⟨_,_,_,_,_,_,_,_,_,rfl,S5 ?_⟩) (fun ae w g2 N h2 S=>⟨_,_,_,_,_,_,_,_,_,rfl,S6 (hK0 (fun y=>?_) h2 (A0 Q (A0 N S.le)))⟩))
  ·have b:=A0 Q (A0 N S.le)
   have M:∀ {hq:aF},h.le hq->¬ TermOk G (tm ts on)->K (.tuple #[.agg #[I 0,.slice none 0 0],.bool false]) hq:=fun l x=>hK0 (fun y=>x (y.all on u).1) _ l
   refine Uz (nq.mono S.le) ⟨_,rfl,B3 _,D9 (fun e=>M b fun y=>?_) (fun e=>?_)⟩
   ·obtain ⟨q',E,e7⟩:=y.num
    rw [eq] at E
    have e8:q=q':=by rw [<- C7 q,<- C7 q',E]
    rw [Int.sign_eq_zero_iff_zero] at e
    exact e7 (by rw [<- e8];exact Rat.num_eq_zero.1 e)
   ·refine ⟨a,F,by omega,by omega,_,_,_,D4 b O,N8 (fun E=>M b fun y=>E y.len) (fun E=>?_)⟩
    have al:q≠0:=fun x=>e (by rw [x];rfl)
    refine ⟨fun L ad=>∃ j:Nat,j<=(tm ts on).2.length/\(∃ (C:Int) (p:Option aJ) (n m:Nat),L=[I (j:Int),I C,.slice p n m])/\ad=h2/\∀ B,B<j->0<=(tm ts on).2.getD B 0/\(tm ts on).2.getD B 0<=1048576,fun L _=>(tm ts on).2.length-(iAt L 0).toNat,⟨0,by omega,⟨_,_,_,_,rfl⟩,rfl,fun j hj=>by omega⟩,?_⟩
    rintro z2 w0 ao au aq af ⟨j,hj,⟨C,p,n,m,aa⟩,rfl,hx⟩
    simp only [aL,aK,aS,true_and,and_true] at aa
    obtain ⟨rfl,rfl,rfl,rfl,rfl⟩:=aa
    have H:=e4.mono b
    refine B4 (fun an=>?_) (fun am=>?_)
    ·have ak:j<(tm ts on).2.length:=by omega
     refine ⟨a,F,by omega,by omega,_,_,_,D4 b O,?_⟩
     refine H.load rfl (by omega) (by omega) ?_
     rw [aD]
     have nb:¬ (0<=(tm ts on).2.getD j 0/\(tm ts on).2.getD j 0<=1048576)->K (.tuple #[.agg #[I 0,.slice none 0 0],.bool false]) af:=fun x=>M b fun y=>x (y.exps _ (Kn ak))
     refine B4 (fun e8=>nb (by omega)) (fun e8=>⟨a,F,by omega,by omega,_,_,_,D4 b O,?_⟩)
     refine H.load rfl (by omega) (by omega) ?_
     rw [aD]
     refine B4 (fun e9=>nb (by omega)) (fun e9=>?_)
     rw [N1 (by omega)]
     refine ⟨⟨j+1,by omega,⟨_,_,_,_,rfl⟩,rfl,fun B V=>?_⟩,by simp only [Km];omega⟩
     by_cases ej:B=j
     ·rw [ej];exact ⟨by omega,by omega⟩
     ·exact hx B (by omega)
    ·have ok:TermOk G (tm ts on):=⟨⟨q,eq,al⟩,E,Vo fun B V=>hx B (by omega)⟩
     have T:B8r G ts on->∀ (C:Int) (p:Option aJ) (n m:Nat) (A':Option aJ) (c':Nat) (h' R o':aF),g2.le R->Sep h' R o'->OwnSl o' W4 A' c' (ws++[(⟨w,D,(tm ts on).2.length,d⟩:RT)])->PrI h ts G [I (B5 ((on:Int)+1)),I C,.slice p n m,I G,.slice A' (on+1) c'] h'/\ts.length-(iAt [I (B5 ((on:Int)+1)),I C,.slice p n m,I G,.slice A' (on+1) c'] 0).toNat<ts.length-(iAt [I (on:Int),I aj,.slice X ab Z,I G,.slice oA on oc] 0).toNat:=by
      intro ac C p n m A' c' h' R o' l' s' ag
      rw [N1 (by omega)]
      refine ⟨⟨on+1,R,o',_,A',c',C,p,n,m,by omega,rfl,A0 Q (A0 N l'),s',ag,by rw [aH,r];rfl,?_,fun B V=>?_⟩,by simp only [Km];omega⟩
      ·have rA:Row RTr R ws ws.length (tm ts):=by rw [r];exact rr.mono B3e (A0 N l')
       have rB:=rA.push (w:=(⟨w,D,(tm ts on).2.length,d⟩:RT)) (by
        rw [r]
        refine ⟨?_,rfl,e4.mono (A0 Q (A0 N l'))⟩
        show NQ R w (rv (tm ts on).1)
        rw [eq,C7]
        exact NQ.mono l' nq)
       rw [aH,r] at rB
       exact rB
      ·by_cases ej:B=on
       ·rw [ej];exact ac
       ·exact hh B (by omega)
     refine B4 (fun aw=>?_) (fun ap=>⟨a,F,by omega,by omega,_,_,_,D4 b O,B54 S ow r (by omega) (T ⟨ok,fun h0=>by omega⟩ _ _ _ _)⟩)
     have ek:B5 ((on:Int)-1)=((on-1:Nat):Int):=by rw [B6]<;>omega
     obtain ⟨a',D',d',f1,f2,f3,f4⟩:=pa (on-1) (by omega)
     have W:=(hh (on-1) (by omega)).1
     have J:(tm ts (on-1)).2.length=(tm ts on).2.length:=by have:=W.len;have:=ok.len;omega
     rw [ek]
     refine ⟨a',f1,by omega,by omega,_,_,_,D4 b f3,a,F,by omega,by omega,_,_,_,D4 b O,?_⟩
     refine A36 J (W.exb (by omega)) (ok.exb (by omega)) (f4.mono b) H ⟨_,rfl,B3 _,B4 (fun ai=>hK0 (fun y=>?_) _ b) (fun ai=>⟨a,F,by omega,by omega,_,_,_,D4 b O,B54 S ow r (by omega) (T ⟨ok,fun h0=>by omega⟩ _ _ _ _)⟩)⟩
     have:=(y.all on u).2 (by omega)
     omega
  ·obtain ⟨q',E,_⟩:=(y.all on u).1.num
   exact ae ⟨q',E⟩
 ·obtain rfl:on=ts.length:=by omega
  exact hK1 ⟨by omega,by omega,hh⟩ oA oc hp (A0 Q s.le) ⟨ws,ow.slF s.ole,r,rr.mono B3e s.le⟩
def A3e(pa:aY h A ts)(hts:ts.length<=1000)(hc:∀ i,i<ts.length->(tm ts i).1.length<=100000000)(hK1:Io vars ts->∀ A' c' h',h.le h'->RowV RTr h' A' ts.length (tm ts)->K (.tuple #[.agg #[I vars,.slice A' ts.length c'],.bool true]) h')(hK0:¬ Io vars ts->∀ h',h.le h'->K (.tuple #[.agg #[I 0,.slice none 0 0],.bool false]) h'):aN prog Yi #[.agg #[I vars,.slice A ts.length c]] h K:=by
 refine B1f _ _ _ _ ?_
 unfold B61
 refine B4 (fun e=>by omega) (fun _=>?_)
 refine A0t pa hts hc (fun wf A' c' h' d j=>⟨_,_,_,_,_,rfl,S5 ?_⟩) (fun l h' d=>⟨_,_,_,_,_,rfl,S6 (hK0 (fun y=>l y.1) h' d)⟩)
 refine B4 (fun m=>?_) (fun m=>hK1 ⟨wf,fun q=>by omega⟩ A' c' h' d j)
 obtain ⟨a,w,p,⟨r,o,n⟩,b⟩:=RowV.at (by decide) j (i:=0) (by omega)
 have k:=b 4 _ rfl
 refine ⟨a,p,by omega,by omega,_,_,_,k,?_⟩
 rw [o]
 refine A3h n ⟨_,rfl,S7 (Br.of (fun g=>hK1 ⟨wf,fun _=>g⟩ A' c' h' d j) (fun g=>hK0 (fun y=>?_) h' d))⟩
 have:=y.2 (by omega)
 rw [this] at g;cases g
end
section
variable {h:aF} {lo hi x:List UInt8}
end
def Br.t{b:Bool}{A B:Prop}(hb:b=true)(x:A):Br b A B:=by subst hb;exact x
def Br.f{b:Bool}{A B:Prop}(hb:b=false)(x:B):Br b A B:=by subst hb;exact x
def C1s{m:Nat}{p q r s:Rat}(hp:Sz m p)(hq:Sz m q)(hr:Sz m r)(hs:Sz m s):Sz (m+m) (Nb p q r s)/\Sz (m+m) (Nc p q r s):=by
 have a:∀ t∈[p*s,q*r,q*s],Sz (m+m) t:=by
  intro t b
  simp only [List.mem_cons,List.not_mem_nil,or_false] at b
  rcases b with rfl|rfl|rfl
  ·exact hp.mul hs
  ·exact hq.mul hr
  ·exact hq.mul hs
 exact ⟨(hp.mul hr).mnL a,(hp.mul hr).mxL a⟩
def eq2(a b:List UInt8):((bs a).toList==(bs a).toList&&((bs b).toList==(bs b).toList&&true))=true:=by simp
section
variable {h:aF} {K:VP} {m:Nat} {lo hi x lo2 hi2:List UInt8}
end
def tmE(es:List Int)(f:Nat->Rat × Rat)(c:Rat):Nat->Rat × Rat
 | 0=>(c,c)
 | k+1=>(Nb (tmE es f c k).1 (tmE es f c k).2 (Aa (f k).1 (f k).2 (es.getD k 0).toNat) (Ab (f k).1 (f k).2 (es.getD k 0).toNat),Nc (tmE es f c k).1 (tmE es f c k).2 (Aa (f k).1 (f k).2 (es.getD k 0).toNat) (Ab (f k).1 (f k).2 (es.getD k 0).toNat))
def evE(ts:List U6)(f:Nat->Rat × Rat)(n:Nat):Nat->Rat × Rat
 | 0=>(0,0)
 | i+1=>((evE ts f n i).1+(tmE (tm ts i).2 f (rv (tm ts i).1) n).1,(evE ts f n i).2+(tmE (tm ts i).2 f (rv (tm ts i).1) n).2)
def B9a{a b c d:Rat}:Nb a b c d<=Nc a b c d:=Rat.le_trans (B9e [a*d,b*c,b*d] (a*c)).1 (B9f [a*d,b*c,b*d] (a*c)).1
def B52(es:List Int)(f:Nat->Rat × Rat)(c:Rat):∀ k,(tmE es f c k).1<=(tmE es f c k).2
 | 0=>Rat.le_refl
 | _+1=>B9a
def A53{a b:Rat}(h:a<=b):Nb a b 1 1=a/\Nc a b 1 1=b:=by
 unfold Nb Nc
 simp only [Rat.mul_one,Qa,Pz,A9c,A99]
 constructor
 ·unfold mn;grind
 ·unfold mx;grind
def A0u(a b:Rat):Aa a b 0=1/\Ab a b 0=1:=by
 unfold Aa Ab
 rw [iN (by omega),iN (by omega),Rat.pow_zero,Rat.pow_zero]
 exact ⟨by unfold mn;split<;>rfl,by unfold mx;split<;>rfl⟩
def B2t{es:List Int}{f:Nat->Rat × Rat}{c:Rat}{k:Nat}(h:(es.getD k 0).toNat=0):tmE es f c (k+1)=tmE es f c k:=by
 show (Nb _ _ _ _,Nc _ _ _ _)=_
 rw [h,(A0u _ _).1,(A0u _ _).2,(A53 (B52 es f c k)).1,(A53 (B52 es f c k)).2]
def C1o{m k:Nat}{a b:Rat}(hm:1<=m)(ha:Sz m a)(hb:Sz m b):Sz (m*k+1) (Aa a b k)/\Sz (m*k+1) (Ab a b k):=by
 have i:=ha.pow hm k
 have g:=hb.pow hm k
 have d:Sz (m*k+1) 0:=Sz.zero (by omega)
 unfold Aa Ab
 constructor
 ·split
  ·exact Sz.mnL d fun q c=>by simp at c;rcases c with rfl|rfl<;>assumption
  ·rcases B9d (a^k) (b^k) with e|e<;>rw [e]<;>assumption
 ·split
  ·exact Sz.mxL d fun q c=>by simp at c;rcases c with rfl|rfl<;>assumption
  ·rcases B99 (a^k) (b^k) with e|e<;>rw [e]<;>assumption
structure SmE (ts:List U6) (f:Nat->Rat × Rat) (n:Nat):Prop where
 len:ts.length<=5
 n6:n<=6
 coef:∀ i,i<ts.length->Sz 32 (rv (tm ts i).1)
 elen:∀ i,i<ts.length->(tm ts i).2.length=n
 exps:∀ i,i<ts.length->∀ k,k<n->0<=(tm ts i).2.getD k 0/\(tm ts i).2.getD k 0<=6
 box:∀ k,k<n->Sz 80 (f k).1/\Sz 80 (f k).2
def SmE.pow{ts:List U6}{f:Nat->Rat × Rat}{n:Nat}(s:SmE ts f n){e k:Nat}(hk:k<n)(he:e<=6):Sz 481 (Aa (f k).1 (f k).2 e)/\Sz 481 (Ab (f k).1 (f k).2 e):=by
 obtain ⟨b,c⟩:=s.box k hk
 obtain ⟨a,d⟩:=C1o (k:=e) (by omega) b c
 exact ⟨a.mono (by omega),d.mono (by omega)⟩
def SmE.tm{ts:List U6}{f:Nat->Rat × Rat}{n:Nat}(s:SmE ts f n){i:Nat}(hi:i<ts.length):∀ k,k<=n->Sz (481*2^k) (tmE (Go.Proofs.YtmbfcbbkbefgfaaGreatDoor.tm ts i).2 f (rv (Go.Proofs.YtmbfcbbkbefgfaaGreatDoor.tm ts i).1) k).1/\Sz (481*2^k) (tmE (Go.Proofs.YtmbfcbbkbefgfaaGreatDoor.tm ts i).2 f (rv (Go.Proofs.YtmbfcbbkbefgfaaGreatDoor.tm ts i).1) k).2:=by
 intro k
 induction k with
 | zero=>exact fun _=>⟨(s.coef i hi).mono (by omega),(s.coef i hi).mono (by omega)⟩
 | succ k ih=>
  intro j
  obtain ⟨g,b⟩:=ih (by omega)
  have a:481<=481*2^k:=aU 481 (Nat.pow_pos (by decide))
  have l:=s.exps i hi k (by omega)
  obtain ⟨d,c⟩:=s.pow (e:=((Go.Proofs.YtmbfcbbkbefgfaaGreatDoor.tm ts i).2.getD k 0).toNat) (k:=k) (by omega) (by omega)
  have e:481*2^(k+1)=481*2^k+481*2^k:=by rw [Nat.pow_succ];omega
  rw [e]
  exact C1s g b (d.mono a) (c.mono a)
def Ra{k:Nat}(h:k<=6):481*2^k<=30784:=Nat.le_trans (Nat.mul_le_mul_left 481 (Nat.pow_le_pow_right (by decide) h)) (by decide)
def SmE.ev{ts:List U6}{f:Nat->Rat × Rat}{n:Nat}(s:SmE ts f n):∀ i,i<=ts.length->Sz (1+i*30785) (evE ts f n i).1/\Sz (1+i*30785) (evE ts f n i).2:=by
 intro i
 induction i with
 | zero=>exact fun _=>⟨Sz.zero (by omega),Sz.zero (by omega)⟩
 | succ i ih=>
  intro g
  obtain ⟨d,b⟩:=ih (by omega)
  obtain ⟨a,c⟩:=s.tm (i:=i) (by omega) n (aX n)
  have e:=Ra s.n6
  exact ⟨(d.add a).mono (by omega),(b.add c).mono (by omega)⟩
section
variable {h:aF} {K:VP} {A B:Option aJ} {ts:List U6} {c bc n:Nat} {f:Nat->Rat × Rat}
def A0q(sm:SmE ts f n)(rt:RowV RTr h A ts.length (tm ts))(bx:RowV I2r h B n f)(hK:∀ w1 w2 h',h.le h'->NQ h' w1 (evE ts f n ts.length).1->NQ h' w2 (evE ts f n ts.length).2->K (iv8 w1 w2) h'):aN prog Ru #[.agg #[I (n:Int),.slice A ts.length c],.slice B n bc] h K:=by
 refine A7c _ _ _ _ _ _ _ ?_
 unfold B17
 have ab:=sm.len
 have Z:=sm.n6
 refine ⟨fun L D=>∃ (i:Nat) (w1 w2:QV),i<=ts.length/\L=[I (i:Int),.bool w1.s,.slice w1.A w1.n w1.c,.bool w1.s2,.slice w1.A2 w1.n2 w1.c2,.bool w2.s,.slice w2.A w2.n w2.c,.bool w2.s2,.slice w2.A2 w2.n2 w2.c2]/\h.le D/\NQ D w1 (evE ts f n i).1/\NQ D w2 (evE ts f n i).2,fun L _=>ts.length-(iAt L 0).toNat,⟨0,⟨false,none,0,0,false,none,0,0⟩,⟨false,none,0,0,false,none,0,0⟩,by omega,rfl,B3 _,NQ.zero,NQ.zero⟩,?_⟩
 rintro z o0 aj a3 af o2 a1 aw ag o4 a0 a6 ao o6 av a5 ah D ⟨i,w1,w2,hi,G,l,n1,n2⟩
 simp only [aL,aK,Value.bool.injEq,aS,true_and,and_true] at G
 obtain ⟨rfl,rfl,⟨rfl,rfl,rfl⟩,rfl,⟨rfl,rfl,rfl⟩,rfl,⟨rfl,rfl,rfl⟩,rfl,⟨rfl,rfl,rfl⟩⟩:=G
 refine B4 (fun ap=>?_) (fun a4=>?_)
 ·have u:i<ts.length:=by omega
  obtain ⟨a,w,S,⟨m1,m2,m3⟩,r⟩:=RowV.at (by decide) (rt.mono B3e l) u
  have x:∀ j v,(enc w)[j]? = some v->D.cell? (aM (aM (aM a (i*5)) 0) j)=some v:=fun j v hv=>by
   rw [show aM (aM a (i*5)) 0=aM a (i*5) by rw [Sx]]
   exact r j v hv
  refine ⟨a,S,by omega,by omega,_,_,_,_,_,_,_,_,x 0 _ rfl,x 1 _ rfl,x 2 _ rfl,x 3 _ rfl,a,S,by omega,by omega,_,_,_,_,_,_,_,_,x 0 _ rfl,x 1 _ rfl,x 2 _ rfl,x 3 _ rfl,?_⟩
  refine ⟨fun L C=>∃ (k:Nat) (o p:QV),k<=n/\L=[I (k:Int),.bool o.s,.slice o.A o.n o.c,.bool o.s2,.slice o.A2 o.n2 o.c2,.bool p.s,.slice p.A p.n p.c,.bool p.s2,.slice p.A2 p.n2 p.c2]/\D.le C/\NQ C o (tmE (tm ts i).2 f (rv (tm ts i).1) k).1/\NQ C p (tmE (tm ts i).2 f (rv (tm ts i).1) k).2,fun L _=>n-(iAt L 0).toNat,⟨0,w.w,w.w,by omega,rfl,B3 _,m1,m1⟩,?_⟩
  rintro z p0 aq a2 ax p2 ae az a7 p4 ay au am p6 al ak ar ai ⟨k,o,p,hk,G,E,x1,x2⟩
  simp only [aL,aK,Value.bool.injEq,aS,true_and,and_true] at G
  obtain ⟨rfl,rfl,⟨rfl,rfl,rfl⟩,rfl,⟨rfl,rfl,rfl⟩,rfl,⟨rfl,rfl,rfl⟩,rfl,⟨rfl,rfl,rfl⟩⟩:=G
  have H:=A0 l E
  refine B4 (fun ac=>?_) (fun aa=>?_)
  ·have q:k<n:=by omega
   obtain ⟨b,y,eb,⟨y1,y2⟩,g⟩:=RowV.at (by decide) (bx.mono B3f H) q
   have ad:k<(tm ts i).2.length:=by rw [sm.elen i u];exact q
   have an:=sm.exps i u k q
   refine ⟨b,eb,by omega,by omega,_,_,_,_,_,_,_,_,_,_,_,_,_,_,_,_,g 0 _ rfl,g 1 _ rfl,g 2 _ rfl,g 3 _ rfl,g 4 _ rfl,g 5 _ rfl,g 6 _ rfl,g 7 _ rfl,a,S,by omega,by omega,_,_,_,D4 E (r 4 _ rfl),?_⟩
   rw [m2]
   refine (m3.mono E).load rfl (by omega) (by omega) ?_
   rw [aD]
   obtain ⟨e,he⟩:∃ e:Nat,(tm ts i).2.getD k 0=(e:Int):=⟨((tm ts i).2.getD k 0).toNat,by omega⟩
   obtain ⟨b1,b2⟩:=sm.box k q
   rw [he]
   refine A0r (a:=y.a) (b:=y.b) (m:=80) y1 y2 b1 b2 (by omega) (by omega) (by omega) (by omega) ?_
   intro u1 u2 h2 J q1 q2
   obtain ⟨T,V⟩:=sm.tm u k (by omega)
   obtain ⟨p1,p2⟩:=sm.pow (e:=e) q (by omega)
   have F:481<=481*2^k:=aU 481 (Nat.pow_pos (by decide))
   have X:=Ra (show k<=6 by omega)
   refine ⟨_,_,_,_,_,_,_,_,_,_,_,_,_,_,_,_,rfl,J,?_⟩
   refine A0o (a:=o) (b:=p) (c:=u1) (d:=u2) (m:=481*2^k) (NQ.mono J x1) (NQ.mono J x2) q1 q2 T V (p1.mono F) (p2.mono F) (by omega) ?_
   intro M N R O W Q
   rw [N1 (by omega)]
   refine ⟨_,_,_,_,_,_,_,_,_,_,_,_,_,_,_,_,rfl,O,⟨k+1,M,N,by omega,rfl,A0 E (A0 J O),?_,?_⟩,by simp only [Km];omega⟩
   ·show NQ R M (Nb _ _ (Aa _ _ ((tm ts i).2.getD k 0).toNat) (Ab _ _ ((tm ts i).2.getD k 0).toNat))
    rw [he];exact W
   ·show NQ R N (Nc _ _ (Aa _ _ ((tm ts i).2.getD k 0).toNat) (Ab _ _ ((tm ts i).2.getD k 0).toNat))
    rw [he];exact Q
  ·obtain rfl:k=n:=by omega
   obtain ⟨T,V⟩:=sm.tm u k (aX k)
   obtain ⟨s1,s2⟩:=sm.ev i (by omega)
   have X:=Ra Z
   refine A38 (a:=w1) (b:=w2) (c:=o) (d:=p) (m:=400000) (NQ.mono E n1) (NQ.mono E n2) x1 x2 (s1.mono (by omega)) (s2.mono (by omega)) (T.mono (by omega)) (V.mono (by omega)) (by omega) ?_
   intro M N R O W Q
   rw [N1 (by omega)]
   exact ⟨_,_,_,_,_,_,_,_,_,_,_,_,_,_,_,_,rfl,⟨i+1,M,N,by omega,rfl,A0 H O,W,Q⟩,by simp only [Km];omega⟩
 ·obtain rfl:i=ts.length:=by omega
  exact hK w1 w2 D l n1 n2
end
structure HdI where
 A:Option aJ
 n:Nat
 c:Nat
instance:Enc HdI:=⟨⟨fun s=>[.slice s.A s.n s.c],1,fun _=>rfl,fun s v hv=>by rw [List.mem_singleton.1 hv];rfl⟩⟩
instance:Enc Ivl:=⟨⟨fun x=>[.string (bs x.1),.string (bs x.2)],2,fun _=>rfl,fun x v hv=>by simp at hv;rcases hv with rfl|rfl<;>rfl⟩⟩
abbrev IVr:aF->Ivl->Rat × Rat->Prop:=fun _ w x=>w=(E4 x.1,E4 x.2)
def B75:Mon IVr:=fun _ _ _ _ _ i=>i
def Sep.giveR{α β:Type}[E:Enc α]{R:aF->α->β->Prop}(m:Mon R){h g o:aF}{ys:List α}{bb n:Nat}{f:Nat->β}(s:Sep h g o)(rb:RowB o bb ys)(hy:ys.length=n)(rr:Row R g ys n f):∃ g2,g.le g2/\Sep h g2 (o.without bb)/\RowV R g2 (some ⟨bb,0,none⟩) n f:=by
 have a:(o.without bb).le o:=fun k x e=>by
  by_cases b:k=bb
  ·subst b
   have:Heap.without o k k=none:=K4 _ _
   rw [this] at e;cases e
  ·unfold Heap.without at e;rw [iN b] at e;exact e
 obtain ⟨g2,d,c⟩:=s.give a
 obtain ⟨e,ex,j⟩:=rb
 have i:g2 bb=some (.cells (ys.flatMap enc++ex).toArray e):=by
  rw [<- c.rest bb (K4 _ _)]
  exact s.own _ _ j
 exact ⟨g2,d,c,ys,RowB.slF (o:=g2) ⟨e,ex,i⟩ (B3 _),hy,rr.mono m d⟩
def pwF(f:Nat->Rat × Rat)(i:Nat):Nat->Rat × Rat:=fun e=>(Aa (f i).1 (f i).2 e,Ab (f i).1 (f i).2 e)
def PwRow(ts:List U6)(f:Nat->Rat × Rat)(g:aF)(hds:List HdI)(i:Nat):Prop:=∃ s,hds[i]? = some s/\(∀ t,t<ts.length->(tm ts t).2.getD i 0<s.n)/\RowV IVr g s.A s.n (pwF f i)
def PwRow.mono{ts:List U6}{f:Nat->Rat × Rat}{g g':aF}{hds:List HdI}{i:Nat}(l:g.le g')(p:PwRow ts f g hds i):PwRow ts f g' hds i:=by
 obtain ⟨s,e,b,a⟩:=p
 exact ⟨s,e,b,a.mono B75 l⟩
def B7m{l:List Ivl}(ok:Ic l){i:Nat}(hi:i<l.length):l[i].1=E4 (bxQ l i).1/\l[i].2=E4 (bxQ l i).2:=by
 obtain ⟨p,q,b,a,_⟩:=ok _ (aG hi)
 unfold bxQ
 rw [aE,aC hi]
 show l[i].1=E4 (rv l[i].1)/\l[i].2=E4 (rv l[i].2)
 rw [b,a,C7,C7]
 exact ⟨rfl,rfl⟩
section
variable {h:aF} {K:VP} {A B:Option aJ} {ts:List U6} {vars:Int} {c bc:Nat} {l:List Ivl}
def Oj{x:List UInt8}(hK:K (ivT x x) h):aN prog Lb #[.string (bs x)] h K:=by
 refine A7v _ ?_
 unfold B25
 exact hK
def Ub(gl:Gl h)(pa:aY h A ts)(x:SlV h B (l.flatMap F6))(hts:ts.length<=5)(hcl:∀ i,i<ts.length->(tm ts i).1.length<=8)(hex:∀ i,i<ts.length->∀ j,j<(tm ts i).2.length->(tm ts i).2.getD j 0<=6)(hl:l.length<=8)(ht:∀ x∈l,x.1.length<=20/\x.2.length<=20)
 (hK1:¬ (Io vars ts/\Ic l)->K (.tuple #[ivE,I 1]) h) (hK4:Io vars ts->Ic l->(l.length:Int)≠vars->K (.tuple #[ivE,I 4]) h)
 (hK0:Io vars ts->Ic l->(l.length:Int)=vars->SmE ts (bxQ l) l.length->∀ h',h.le h'->K (.tuple #[ivS (evE ts (bxQ l) l.length ts.length).1 (evE ts (bxQ l) l.length ts.length).2,I 0]) h'):aN prog Gk #[.agg #[I vars,.slice A ts.length c],.slice B l.length bc] h K:=by
 refine Zr _ _ _ _ _ _ _ ?_
 unfold Ws
 refine A0v gl.tz pa (by omega) (fun i r=>by have:=hcl i r;omega) (fun po=>⟨_,rfl,S5 ?_⟩) (fun no=>⟨_,rfl,S6 (hK1 fun y=>no y.1)⟩)
 refine If gl x rfl (by omega) ht (fun bo=>⟨_,rfl,S5 ?_⟩) (fun no=>⟨_,rfl,S6 (hK1 fun y=>no y.2)⟩)
 refine N8 (fun e=>hK4 po bo e) (fun en=>?_)
 obtain ⟨wf,_⟩:=id po
 have bj:=wf.hi
 have b:∀ i,i<ts.length->(tm ts i).2.length=l.length:=fun i r=>by have:=(wf.all i r).1.len;omega
 have sm:SmE ts (bxQ l) l.length:=⟨hts,by omega,fun i r=>Pg (k:=8) (hcl i r) (by omega),b,fun i r k hk=>⟨((wf.all i r).1.exps _ (Kn (by rw [b i r];exact hk))).1,hex i r k (by rw [b i r];exact hk)⟩,fun k hk=>by
  obtain ⟨S,V⟩:=ht _ (aG hk)
  unfold bxQ
  rw [aE,aC hk]
  exact ⟨Pg (k:=20) S (by omega),Pg (k:=20) V (by omega)⟩⟩
 have M:=hK0 po bo en sm
 clear hK0 hK1 hK4
 obtain ⟨f,hf⟩:∃ f,f=bxQ l:=⟨_,rfl⟩
 obtain ⟨n,hn⟩:∃ n,n=l.length:=⟨_,rfl⟩
 have bt:=fun {i:Nat} (r:i<l.length)=>B7m bo r
 rw [<- hf,<- hn] at sm M
 rw [<- hf] at bt
 rw [<- hn]
 have bf:=sm.n6
 refine Xt C1k (zx:=(⟨none,0,0⟩:HdI)) rfl (by omega) (by omega) (by omega) (by omega) ?_
 intro bp ba
 simp only [aD]
 have s0:=(Sep.refl h).new ba (.cells ((bF n (⟨none,0,0⟩:HdI)).flatMap enc).toArray Hi)
 refine ⟨_,_,_,rfl,fun L T=>∃ (k:Nat) (g o:aF) (p:List HdI),k<=n/\L=[I (k:Int)]/\h.le g/\Sep T g o/\RowX o bp p/\p.length=n/\∀ i,i<k->PwRow ts f g p i,fun L _=>n-(iAt L 0).toNat,⟨0,h,_,_,by omega,rfl,B3 _,s0,RowX.mk,List.length_replicate,fun i r=>by omega⟩,?_⟩
 clear s0
 rintro z ak ⟨k,g,o,p,hk,eL,Z,s,rx,bb,w⟩
 obtain rfl:=sI1 eL
 refine B4 (fun a4=>?_) (fun bd=>?_)
 ·have ay:k<n:=by omega
  have H:k<l.length:=by omega
  have C:=A0 Z s.le
  obtain ⟨a,ea,c0,c1⟩:=Oi x H
  refine ⟨a,ea,by omega,by omega,_,_,D4 C c0,D4 C c1,?_⟩
  refine s.call (A1b (pa.mono Z) (by omega) (fun t E=>by rw [b t E];exact H) (fun F h0 az a3 h4 s4=>⟨_,rfl,?_⟩))
  have bk:F<=6:=a3 6 (by omega) fun t E=>hex t E k (by rw [b t E];exact H)
  obtain ⟨e,he⟩:∃ e:Nat,F=(e:Int):=⟨F.toNat,by omega⟩
  subst he
  rw [N1 (by omega)]
  refine Xt B6q (zx:=(([],[]):Ivl)) rfl (by omega) (by omega) (by omega) (by omega) ?_
  intro G X
  simp only [aD]
  have fr:bp≠G:=by
   rintro rfl
   obtain ⟨e1,a2⟩:=rx
   rw [s4.own _ _ a2] at X;cases X
  have s5:=s4.new X (.cells ((bF (e+1) (([],[]):Ivl)).flatMap enc).toArray J7)
  refine ⟨_,_,_,rfl,_,rfl,by omega,by omega,?_⟩
  refine Wb A8k (y:=(⟨some ⟨G,0,none⟩,e+1,e+1⟩:HdI)) rfl s5 (rx.other fr _) (i:=k) (by omega) ?_
  intro h6 o6 x6 am s6 R
  have aq:RowX o6 G (bF (e+1) (([],[]):Ivl)):=by
   rw [am]
   exact RowX.mk.other fr.symm _
  have ag:(p.set k (⟨some ⟨G,0,none⟩,e+1,e+1⟩:HdI))[k]? = some ⟨some ⟨G,0,none⟩,e+1,e+1⟩:=bI (by omega)
  have ap:∀ {hq gq oq:aF},Sep hq gq oq->RowX oq bp (p.set k (⟨some ⟨G,0,none⟩,e+1,e+1⟩:HdI))->hq.cell? (aM ⟨bp,0,none⟩ (((k:Int)).toNat*1))=some (.slice (some ⟨G,0,none⟩) (e+1) (e+1)):=fun sq rq=>by
   have h1:=RowB.cell rq.rowB (i:=k) (by rw [aI];omega) (j:=0) (v:=.slice (some ⟨G,0,none⟩) (e+1) (e+1)) (by rw [List.getElem_set_self];rfl)
   rw [I0]
   have h2:=sq.cell h1
   rw [aD,Nat.zero_add]
   exact h2
  refine ⟨_,rfl,by omega,by omega,_,_,_,ap s6 R,?_⟩
  refine ⟨fun L T=>∃ (j:Nat) (g' o':aF) (ys:List Ivl),j<=e+1/\L=[I (j:Int)]/\g.le g'/\Sep T g' o'/\RowX o' bp (p.set k (⟨some ⟨G,0,none⟩,e+1,e+1⟩:HdI))/\RowX o' G ys/\ys.length=e+1/\Row IVr g' ys j (pwF f k),fun L _=>e+1-(iAt L 0).toNat,⟨0,g,o6,_,by omega,rfl,B3 _,s6,R,aq,List.length_replicate,Row.nil⟩,?_⟩
  clear aq R s6 s5 am
  rintro z2 bi ⟨j,g7,o7,ys,hj,J,l7,s7,Q,ad,aj,al⟩
  obtain rfl:=sI1 J
  refine B4 (fun ar=>?_) (fun ab=>?_)
  ·have bl:j<e+1:=by omega
   obtain ⟨S,V⟩:=bt H
   obtain ⟨b1,a0⟩:=sm.box k ay
   refine ⟨_,rfl,by omega,by omega,_,_,_,ap s7 Q,?_⟩
   rw [S,V]
   refine s7.call (Vm (k:=j) (m:=80) (gl.mono (A0 Z l7)) b1 a0 (by omega) (by omega) (by omega) (by omega) ?_)
   intro h8 s8
   refine ⟨_,_,rfl,s7.le_le s8 (B3 _),_,rfl,by omega,by omega,?_⟩
   refine Wb B2z (y:=((E4 (Aa (f k).1 (f k).2 j),E4 (Ab (f k).1 (f k).2 j)):Ivl)) rfl s8 ad (i:=j) (by omega) ?_
   intro h9 o9 x9 ax s9 be
   rw [N1 (by omega)]
   refine ⟨⟨j+1,g7,o9,_,by omega,rfl,l7,s9,?_,be,by rw [aI];exact aj,al.set (by omega) rfl⟩,by simp only [Km];omega⟩
   rw [ax];exact Q.other fr _
  ·obtain rfl:j=e+1:=by omega
   obtain ⟨g8,l8,s8,a9⟩:=s7.giveR B75 ad.rowB aj al
   rw [N1 (by omega)]
   refine ⟨⟨k+1,g8,_,_,by omega,rfl,A0 Z (A0 l7 l8),s8,Q.keep (fun x e=>by unfold Heap.without;rw [iN fr];exact e),by rw [aI];exact bb,fun i r=>?_⟩,by simp only [Km];omega⟩
   by_cases ei:i=k
   ·subst ei
    exact ⟨_,ag,fun t E=>by have:=az t E;show _<((e+1:Nat):Int);omega,a9⟩
   ·obtain ⟨s9,e9,h9,r9⟩:=w i (by omega)
    exact ⟨s9,by rw [List.getElem?_set_ne (fun x=>ei x.symm)];exact e9,h9,r9.mono B75 (A0 l7 l8)⟩
 obtain rfl:k=n:=by omega
 have C:=A0 Z s.le
 have ao:=gl.mono C
 have aw:=pa.mono C
 have au:=rx.rowB.slF s.ole
 have pw:∀ i,i<k->PwRow ts f ak p i:=fun i r=>(w i r).mono s.le
 clear w rx s Z
 show aN _ _ #[.string (bs [48])] _ _
 refine Oj ?_
 have e0:([48]:List UInt8)=E4 0:=B2q.symm
 refine ⟨_,_,rfl,fun L T=>∃ i:Nat,i<=ts.length/\L=[I (i:Int),.string (bs (E4 (evE ts f k i).1)),.string (bs (E4 (evE ts f k i).2))]/\T=ak,fun L _=>ts.length-(iAt L 0).toNat,⟨0,by omega,by rw [e0];rfl,rfl⟩,?_⟩
 rintro z u0 u1 O ⟨i,r,eL,rfl⟩
 simp only [aL,aK,Value.string.injEq,true_and,and_true] at eL
 obtain ⟨rfl,rfl,rfl⟩:=eL
 refine B4 (fun a4=>?_) (fun bd=>?_)
 ·have u:i<ts.length:=by omega
  obtain ⟨a,D,d,e1,e2,e3,e4⟩:=aw i u
  refine ⟨a,e1,by omega,by omega,_,_,_,_,e2,e3,Oj ?_⟩
  obtain ⟨q,eq,_⟩:=(wf.all i u).1.num
  have ec:(tm ts i).1=E4 (rv (tm ts i).1):=by rw [eq,C7]
  refine ⟨_,_,rfl,fun L T=>∃ j:Nat,j<=k/\L=[I (j:Int),.string (bs (E4 (tmE (tm ts i).2 f (rv (tm ts i).1) j).1)),.string (bs (E4 (tmE (tm ts i).2 f (rv (tm ts i).1) j).2))]/\T=O,fun L _=>k-(iAt L 0).toNat,⟨0,by omega,by rw [show tmE (tm ts i).2 f (rv (tm ts i).1) 0=(rv (tm ts i).1,rv (tm ts i).1) from rfl,<- ec];rfl,rfl⟩,?_⟩
  rintro z2 p0 p1 bh ⟨j,hj,J,rfl⟩
  simp only [aL,aK,Value.string.injEq,true_and,and_true] at J
  obtain ⟨rfl,rfl,rfl⟩:=J
  have bm:=b i u
  refine B4 (fun ar=>?_) (fun ab=>?_)
  ·have W:j<k:=by omega
   refine e4.load rfl (by omega) (by omega) ?_
   rw [aD]
   have hx:=sm.exps i u j W
   refine B4 (fun aa=>?_) (fun aa=>?_)
   ·obtain ⟨e,he⟩:∃ e:Nat,(tm ts i).2.getD j 0=(e:Int):=⟨((tm ts i).2.getD j 0).toNat,by omega⟩
    obtain ⟨sd,ai,ah,bg⟩:=pw j W
    have an:=ah i u
    obtain ⟨a7,a6,ac⟩:=SlF.at (by decide) au (i:=j) (by omega)
    have av:p[j]'(by omega)=sd:=by rw [aC (by omega)] at ai;exact aW ai
    rw [av] at ac
    have N:=ac 0 _ rfl
    rw [Sx] at N
    rw [he] at an ⊢
    obtain ⟨a8,w8,a1,af,ae⟩:=RowV.at (by decide) bg (i:=e) (by omega)
    change w8=_ at af
    subst af
    refine ⟨a7,a6,by omega,by omega,_,_,_,N,a8,a1,by omega,by omega,_,_,ae 0 _ rfl,ae 1 _ rfl,?_⟩
    obtain ⟨S,V⟩:=sm.tm u j (by omega)
    obtain ⟨p1,p2⟩:=sm.pow (e:=e) W (by omega)
    have w:481<=481*2^j:=aU 481 (Nat.pow_pos (by decide))
    have a5:=Ra (show j<=6 by omega)
    refine Vn (m:=481*2^j) ao S V (p1.mono w) (p2.mono w) (by omega) ?_
    rw [N1 (by omega)]
    refine ⟨_,_,rfl,B3 _,⟨j+1,by omega,?_,rfl⟩,by simp only [Km];omega⟩
    show _=[I _,.string (bs (E4 (Nb _ _ (Aa _ _ ((tm ts i).2.getD j 0).toNat) (Ab _ _ ((tm ts i).2.getD j 0).toNat)))),.string (bs (E4 (Nc _ _ (Aa _ _ ((tm ts i).2.getD j 0).toNat) (Ab _ _ ((tm ts i).2.getD j 0).toNat))))]
    rw [he]
    rfl
   ·rw [N1 (by omega)]
    exact ⟨⟨j+1,by omega,by rw [B2t (show ((tm ts i).2.getD j 0).toNat=0 by omega)],rfl⟩,by simp only [Km];omega⟩
  ·obtain rfl:j=k:=by omega
   obtain ⟨S,V⟩:=sm.tm u j (aX j)
   obtain ⟨s1,s2⟩:=sm.ev i (by omega)
   have a5:=Ra bf
   refine A6n (m:=400000) ao (s1.mono (by omega)) (s2.mono (by omega)) (S.mono (by omega)) (V.mono (by omega)) (by omega) ?_
   rw [N1 (by omega)]
   exact ⟨_,_,rfl,⟨i+1,by omega,rfl,rfl⟩,by simp only [Km];omega⟩
 ·obtain rfl:i=ts.length:=by omega
  exact M O C
end
def A2m(l:List Ivl):List (List UInt8):=l.flatMap fun x=>[x.1,x.2]
def Hk(l:List Ivl):(A2m l).flatMap enc=l.flatMap F6:=by
 induction l with
 | nil=>rfl
 | cons x l ih=>
  show ([x.1,x.2]++A2m l).flatMap enc=F6 x++l.flatMap F6
  rw [List.flatMap_append,ih]
  rfl
def B30(l:List Ivl):(A2m l).length=l.length*2:=by
 induction l with
 | nil=>rfl
 | cons x l ih=>
  show ([x.1,x.2]++A2m l).length=_
  rw [aH,ih,List.length_cons]
  show 2+l.length*2=(l.length+1)*2
  omega
def A0g(v:List UInt8):∀ (l:List Ivl) (i:Nat) (_:i<l.length),(A2m l).set (i*2+1) v=A2m (l.set i ((l.getD i ([],[])).1,v))
 | x::l,0,_=>rfl
 | x::l,i+1,h=>by
  have ih:=A0g v l i (by simpa using h)
  show (x.1::x.2::A2m l).set ((i+1)*2+1) v=x.1::x.2::A2m (l.set i ((l.getD i ([],[])).1,v))
  rw [show (i+1)*2+1=(i*2+1)+1+1 by omega,aP,aP,ih]
def A0h(v:List UInt8):∀ (l:List Ivl) (i:Nat) (_:i<l.length),(A2m l).set (i*2) v=A2m (l.set i (v,(l.getD i ([],[])).2))
 | x::l,0,_=>rfl
 | x::l,i+1,h=>by
  have ih:=A0h v l i (by simpa using h)
  show (x.1::x.2::A2m l).set ((i+1)*2) v=x.1::x.2::A2m (l.set i (v,(l.getD i ([],[])).2))
  rw [show (i+1)*2=(i*2)+1+1 by omega,aP,aP,ih]
def Sep.grabE{h g o:aF}(s:Sep h g o){b:Nat}{x:Obj}(hb:g b=some x):Sep h (g.without b) (o.put b x):=by
 have c:o b=none:=by
  cases ho:o b with
  | none=>rfl
  | some y=>rw [s.dis b y ho] at hb;cases hb
 refine ⟨fun k y e=>?_,fun k e=>?_,fun k y e=>?_⟩
 ·by_cases a:k=b
  ·subst a
   rw [C4] at e;cases e
   exact s.le k _ hb
  ·rw [B7 _ _ a] at e;exact s.own k y e
 ·by_cases a:k=b
  ·subst a;rw [C4] at e;cases e
  ·rw [B7 _ _ a] at e
   unfold Heap.without
   rw [iN a];exact s.rest k e
 ·by_cases a:k=b
  ·subst a;exact K4 _ _
  ·rw [B7 _ _ a] at e
   unfold Heap.without
   rw [iN a];exact s.dis k y e
def Px{h g:aF}{b:Nat}(l:h.le g)(hb:h b=none):h.le (g.without b):=fun k x e=>by
 have a:k≠b:=by rintro rfl;rw [hb] at e;cases e
 unfold Heap.without
 rw [iN a];exact l k x e
def B8s(l:List Ivl)(i:Int)(x:List UInt8):Prop:=0<=i/\i<(l.length:Int)/\(rv (l.getD i.toNat ([],[])).1<=rv x/\rv x<=rv (l.getD i.toNat ([],[])).2)
def SplO(l:List Ivl)(i:Int)(x:List UInt8)(l1 l2:List Ivl)(e:Int):Prop:=
 (¬ (Ic l/\IsNum x)/\l1=[]/\l2=[]/\e=1)\/(Ic l/\IsNum x/\¬ B8s l i x/\l1=[]/\l2=[]/\e=3)\/(Ic l/\IsNum x/\B8s l i x/\l1=l.set i.toNat ((l.getD i.toNat ([],[])).1,x)/\l2=l.set i.toNat (x,(l.getD i.toNat ([],[])).2)/\e=0)
def SplO.eq{l:List Ivl}{i:Int}{x:List UInt8}{l1 l2 m1 m2:List Ivl}{e f:Int}(a:SplO l i x l1 l2 e)(b:SplO l i x m1 m2 f):l1=m1/\l2=m2/\e=f:=by
 rcases a with ⟨a1,rfl,rfl,rfl⟩|⟨a1,a2,a3,rfl,rfl,rfl⟩|⟨a1,a2,a3,rfl,rfl,rfl⟩<;>rcases b with ⟨b1,rfl,rfl,rfl⟩|⟨b1,b2,b3,rfl,rfl,rfl⟩|⟨b1,b2,b3,rfl,rfl,rfl⟩<;>first
 | exact ⟨rfl,rfl,rfl⟩
 | exact absurd ⟨b1,b2⟩ a1
 | exact absurd ⟨a1,a2⟩ b1
 | exact absurd b3 a3
 | exact absurd a3 b3
section
variable {h:aF} {K:VP} {A B:Option aJ} {bc:Nat} {l:List Ivl} {x:List UInt8}
def Uw{h1 g1 h2 g2:aF}{A1 A2:Option aJ}{c1 c2 i:Nat}(hi:i<l.length)(l1:h.le g1)(p1:PrivF h1 g1 J7 A1 c1 l)(l2:h1.le g2)(p2:PrivF h2 g2 J7 A2 c2 l)(hl:l.length<=1000){K0:aF->Prop}
 (hK:∀ h',h.le h'->SlV h' A1 ((l.set i ((l.getD i ([],[])).1,x)).flatMap F6)->SlV h' A2 ((l.set i (x,(l.getD i ([],[])).2)).flatMap F6)->K0 h'):
 ∃ a1,A1=some a1/\0<=(i:Int)/\(i:Int)<((l.length:Nat):Int)/\wpH prog (Instr.storeAt R2 (.pointer (some (aM (aM a1 (((i:Int)).toNat*2)) 1))) (.string (bs x))) (fun _ hp5=>∃ a2,A2=some a2/\0<=(i:Int)/\(i:Int)<((l.length:Nat):Int)/\wpH prog (Instr.storeAt R2 (.pointer (some (aM (aM a2 (((i:Int)).toNat*2)) 0))) (.string (bs x))) (fun _ hp6=>K0 hp6) hp5) h2:=by
 have m:l≠[]:=by rintro rfl;simp at hi
 obtain ⟨b,u,rfl,d,rfl,S,F⟩:=A27 p1 m
 obtain ⟨j,C,rfl,p,rfl,N,M⟩:=A27 p2 m
 have c:g2 b=some u:=l2 _ _ (C4 _ _ _)
 have a:b≠j:=by rintro rfl;rw [p] at c;cases c
 have A:h b=none:=by
  cases e:h b with
  | none=>rfl
  | some y=>rw [l1 _ _ e] at d;cases d
 have z:h.le (g2.without b):=Px (A0 l1 (A0 (Heap.le_put _ d) l2)) A
 have sg:=N.grabE c
 have H:RowB ((Oh.put j C).put b u) b (A2m l):=by
  obtain ⟨e,ex,n⟩:=F
  rw [C4] at n
  refine ⟨e,ex,?_⟩
  rw [C4,n,Hk];rfl
 have L:RowB ((Oh.put j C).put b u) j (A2m l):=by
  obtain ⟨e,ex,n⟩:=M
  refine ⟨e,ex,?_⟩
  rw [B7 _ _ a.symm,n,Hk];rfl
 have B:=B30 l
 refine ⟨_,rfl,by omega,by omega,?_⟩
 rw [I0,I0,aD]
 refine Sep.store Od (y:=x) rfl sg H (i:=i*2+1) (by omega) (by show 0+i*2+1=(i*2+1)*1;omega) ?_
 intro R E Q w J q
 refine ⟨_,rfl,by omega,by omega,?_⟩
 rw [I0,I0]
 have o:RowB E j (A2m l):=by rw [w];exact L.other a.symm _
 refine Sep.store Od (y:=x) rfl J o (i:=i*2) (by omega) (by show 0+i*2+0=i*2*1;omega) ?_
 intro D G O s r k
 have g:RowB G b ((A2m l).set (i*2+1) x):=by rw [s];exact q.other a _
 rw [A0g x l i hi] at g
 rw [A0h x l i hi] at k
 refine hK D (A0 z r.le) ?_ ?_
 ·have:=g.slF r.ole
  rw [<- Hk];exact this
 ·have:=k.slF r.ole
  rw [<- Hk];exact this
def Rk(y:SlV h B (l.flatMap F6))(hne:l≠[])(hl:l.length<=1000)(hK:∀ A' c' h' g',h.le g'->PrivF h' g' J7 A' c' l->K (.slice A' l.length c') h'):aN prog Lc #[.slice B l.length bc] h K:=by
 refine A7x _ _ _ ?_
 unfold B28
 obtain ⟨a,rfl,_⟩:=Oi y (i:=0) (List.length_pos_iff.2 hne)
 refine Br.of (fun e=>by cases e) (fun _=>Rf B6q ?_)
 intro b g
 have c:=Heap.le_put (h:=h) (.cells #[] J7) g
 refine ⟨_,_,_,rfl,Dj (α:=Ivl) B6q (PrivF.nil _ J7 (some ⟨b,0,none⟩)) (ys:=l) rfl (y.mono c) (by simp;omega) (by simp;omega) ?_⟩
 intro A' c' h' g' d p
 rw [bC] at p ⊢
 exact ⟨_,_,_,rfl,hK A' c' h' g' (A0 c d) p⟩
def A3n{i:Int}(gl:Gl h)(y:SlV h B (l.flatMap F6))(hl:l.length<=1000)(ht:∀ x∈l,x.1.length<=20/\x.2.length<=20)(hx:x.length<=20)(hK:∀ l1 l2 e,SplO l i x l1 l2 e->∀ A1 c1 A2 c2 h',h.le h'->SlV h' A1 (l1.flatMap F6)->SlV h' A2 (l2.flatMap F6)->K (.tuple #[.slice A1 l1.length c1,.slice A2 l2.length c2,I e]) h'):aN prog La #[.slice B l.length bc,I i,.string (bs x)] h K:=by
 refine A7u _ _ _ _ _ ?_
 unfold B22
 have d:¬ (Ic l/\IsNum x)->K (.tuple #[.slice none 0 0,.slice none 0 0,I 1]) h:=fun e=>hK [] [] 1 (.inl ⟨e,rfl,rfl,rfl⟩) none 0 none 0 h (B3 _) SlV.nil SlV.nil
 refine If gl y rfl (by omega) ht (fun C=>⟨_,rfl,S5 ?_⟩) (fun g=>⟨_,rfl,S6 (d fun z=>g z.1)⟩)
 refine Cr gl (by omega) (fun u=>⟨_,rfl,S5 ?_⟩) (fun g=>⟨_,rfl,S6 (d fun z=>g z.2)⟩)
 have c:¬ B8s l i x->K (.tuple #[.slice none 0 0,.slice none 0 0,I 3]) h:=fun e=>hK [] [] 3 (.inr (.inl ⟨C,u,e,rfl,rfl,rfl⟩)) none 0 none 0 h (B3 _) SlV.nil SlV.nil
 refine B4 (fun e=>c fun z=>by have:=z.1;omega) (fun Z=>B4 (fun e=>c fun z=>by have:=z.2.1;omega) (fun X=>?_))
 obtain ⟨k,rfl⟩:∃ k:Nat,i=(k:Int):=⟨i.toNat,by omega⟩
 have b:k<l.length:=by omega
 obtain ⟨a,M,c0,c1⟩:=Oi y b
 obtain ⟨Q,J⟩:=ht _ (aG b)
 have A:l.getD ((k:Int)).toNat ([],[])=l[k]:=by rw [aD,aE,aC b];rfl
 refine ⟨a,M,by omega,by omega,_,_,c0,c1,?_⟩
 refine Uc (m:=80) gl (Lx (k:=20) Q (by omega) (by omega)) (Lx (k:=20) J (by omega) (by omega)) (Lx (k:=20) hx (by omega) (by omega)) (by omega) (fun p q r o n j N R=>⟨_,rfl,S5 ?_⟩) (fun g=>⟨_,rfl,S6 (c fun z=>g ?_)⟩)
 ·have w:B8s l (k:Int) x:=⟨by omega,by omega,by rw [A,o,n,j,C7,C7,C7];exact ⟨N,R⟩⟩
  refine Rk y (by rintro rfl;simp at b) hl ?_
  intro A1 V h3 g3 F E
  have s:=A0 F E.le
  refine ⟨_,_,_,rfl,Rk (y.mono s) (by rintro rfl;simp at b) hl ?_⟩
  intro A2 T h4 g4 O H
  refine ⟨_,_,_,rfl,?_⟩
  refine Uw b F E O H hl ?_
  intro h' L S W
  have:=hK _ _ 0 (.inr (.inr ⟨C,u,w,rfl,rfl,rfl⟩)) A1 V A2 T h' L S W
  rw [aI,aI] at this
  exact this
 ·obtain ⟨p,q,o,n,_⟩:=C _ (aG b)
  obtain ⟨r,j⟩:=u
  obtain ⟨_,_,D,G⟩:=z
  rw [A,o,j,C7,C7] at D
  rw [A,n,j,C7,C7] at G
  exact ⟨p,q,r,o,n,j,D,G⟩
def A0p{i:Int}(y:SlV h B (l.flatMap F6))(hl:l.length<=1000)(ht:∀ x∈l,x.1.length<=20/\x.2.length<=20)(hx:x.length<=20)(hK:∀ l1 l2 e,SplO l i x l1 l2 e->∀ A1 c1 A2 c2 h',h.le h'->SlV h' A1 (l1.flatMap F6)->SlV h' A2 (l2.flatMap F6)->K (.tuple #[.slice A1 l1.length c1,.slice A2 l2.length c2,I e]) h'):aN prog Ks #[.slice B l.length bc,I i,.string (bs x)] h K:=by
 refine A7b _ _ _ _ _ ?_
 unfold B14
 have n:∀ {hq:aF},h.le hq->¬ (Ic l/\IsNum x)->K (.tuple #[.slice none 0 0,.slice none 0 0,I 1]) hq:=fun H e=>hK [] [] 1 (.inl ⟨e,rfl,rfl,rfl⟩) none 0 none 0 _ H SlV.nil SlV.nil
 refine Cg y rfl (by omega) ht (fun W A' c' h1 l1 rb=>⟨_,_,_,_,rfl,?_⟩) (fun o h1 l1=>⟨_,_,_,_,rfl,?_⟩)
 ·refine Cu (by omega) (fun r p w A l2 Q=>⟨_,_,_,_,_,_,_,_,_,rfl,S5 (S5 ?_)⟩) (fun o w A l2=>⟨_,_,_,_,_,_,_,_,_,rfl,S5 (S6 (n (A0 l1 l2) fun z=>o z.2))⟩)
  have g:=A0 l1 l2
  have N:IsNum x:=⟨r,p⟩
  have j:∀ {hq:aF},h.le hq->¬ B8s l i x->K (.tuple #[.slice none 0 0,.slice none 0 0,I 3]) hq:=fun H e=>hK [] [] 3 (.inr (.inl ⟨W,N,e,rfl,rfl,rfl⟩)) none 0 none 0 _ H SlV.nil SlV.nil
  refine B4 (fun e=>j g fun z=>by have:=z.1;omega) (fun e0=>B4 (fun e=>j g fun z=>by have:=z.2.1;omega) (fun e1=>?_))
  obtain ⟨k,rfl⟩:∃ k:Nat,i=(k:Int):=⟨i.toNat,by omega⟩
  have s:k<l.length:=by omega
  obtain ⟨t1,Z⟩:=ht _ (aG s)
  have eg:l.getD ((k:Int)).toNat ([],[])=l[k]:=by rw [aD,aE,aC s];rfl
  have q:l.getD k ([],[])=l[k]:=eg
  obtain ⟨b,u,eb,⟨X,u2⟩,d⟩:=RowV.at (by decide) (rb.mono B3f l2) s
  refine ⟨b,eb,by omega,by omega,_,_,_,_,_,_,_,_,_,_,_,_,_,_,_,_,d 0 _ rfl,d 1 _ rfl,d 2 _ rfl,d 3 _ rfl,d 4 _ rfl,d 5 _ rfl,d 6 _ rfl,d 7 _ rfl,?_⟩
  have z1:Sz 80 (bxQ l k).1:=by unfold bxQ;rw [q];exact Pg (k:=20) t1 (by omega)
  have z2:Sz 80 (bxQ l k).2:=by unfold bxQ;rw [q];exact Pg (k:=20) Z (by omega)
  have z3:Sz 80 r:=by have:=Pg (k:=20) hx (by omega);rw [p,C7] at this;exact this
  refine Vc (a:=u.a) (b:=u.b) (c:=w) (m:=80) X u2 Q z1 z2 z3 (by omega) (fun F L=>⟨_,rfl,B3 _,S5 ?_⟩) (fun o=>⟨_,rfl,B3 _,S6 (j g fun z=>o ?_)⟩)
  ·have E:B8s l (k:Int) x:=⟨by omega,by omega,by
    rw [aD,p,C7]
    exact ⟨F,L⟩⟩
   refine Rf B6q ?_
   intro b1 M
   have G:=Heap.le_put (h:=A) (.cells #[] J7) M
   refine ⟨_,_,_,rfl,Dj (α:=Ivl) B6q (PrivF.nil _ J7 (some ⟨b1,0,none⟩)) (ys:=l) rfl (y.mono (A0 g G)) (by simp;omega) (by simp;omega) ?_⟩
   intro A1 d1 h4 g4 S C
   rw [bC] at C ⊢
   refine ⟨_,_,_,rfl,Rf B6q ?_⟩
   intro b2 J
   have T:=Heap.le_put (h:=h4) (.cells #[] J7) J
   have D:=A0 g (A0 G (A0 S C.le))
   refine ⟨_,_,_,rfl,Dj (α:=Ivl) B6q (PrivF.nil _ J7 (some ⟨b2,0,none⟩)) (ys:=l) rfl (y.mono (A0 D T)) (by simp;omega) (by simp;omega) ?_⟩
   intro A2 d2 h6 g6 l6 V
   rw [bC] at V ⊢
   refine ⟨_,_,_,rfl,?_⟩
   refine Uw s (A0 g (A0 G S)) C (A0 T l6) V hl ?_
   intro h' lh s1 s2
   have:=hK _ _ 0 (.inr (.inr ⟨W,N,E,rfl,rfl,rfl⟩)) A1 d1 A2 d2 h' lh s1 s2
   rw [aI,aI] at this
   exact this
  ·obtain ⟨_,_,O,R⟩:=z
   rw [aD,p,C7] at O R
   exact ⟨O,R⟩
 ·refine Cu (by omega) (fun r p w A l2 Q=>⟨_,_,_,_,_,_,_,_,_,rfl,S6 (n (A0 l1 l2) fun z=>o z.1)⟩) (fun aa w A l2=>⟨_,_,_,_,_,_,_,_,_,rfl,S6 (n (A0 l1 l2) fun z=>o z.1)⟩)
end
section
variable {h:aF} {K:VP} {A B:Option aJ} {c bc:Nat} {l:List Ivl} {x:List UInt8} {ts:List U6} {vars:Int}
def EvO(ts:List U6)(vars:Int)(l:List Ivl)(a b:List UInt8)(e:Int):Prop:=
 (¬ (Io vars ts/\Ic l)/\a=[]/\b=[]/\e=1)\/(Io vars ts/\Ic l/\(l.length:Int)≠vars/\a=[]/\b=[]/\e=4)\/(Io vars ts/\Ic l/\(l.length:Int)=vars/\a=E4 (evE ts (bxQ l) l.length ts.length).1/\b=E4 (evE ts (bxQ l) l.length ts.length).2/\e=0)
def EvO.eq{ts:List U6}{vars:Int}{l:List Ivl}{a b a' b':List UInt8}{e e':Int}(x:EvO ts vars l a b e)(y:EvO ts vars l a' b' e'):a=a'/\b=b'/\e=e':=by
 rcases x with ⟨a1,rfl,rfl,rfl⟩|⟨a1,a2,a3,rfl,rfl,rfl⟩|⟨a1,a2,a3,rfl,rfl,rfl⟩<;>rcases y with ⟨b1,rfl,rfl,rfl⟩|⟨b1,b2,b3,rfl,rfl,rfl⟩|⟨b1,b2,b3,rfl,rfl,rfl⟩<;>first
 | exact ⟨rfl,rfl,rfl⟩
 | exact absurd ⟨b1,b2⟩ a1
 | exact absurd ⟨a1,a2⟩ b1
 | exact absurd b3 a3
 | exact absurd a3 b3
def Qt(pa:aY h A ts)(y:SlV h B (l.flatMap F6))(hts:ts.length<=5)(hcl:∀ i,i<ts.length->(tm ts i).1.length<=8)(hex:∀ i,i<ts.length->∀ j,j<(tm ts i).2.length->(tm ts i).2.getD j 0<=6)(hl:l.length<=8)(ht:∀ x∈l,x.1.length<=20/\x.2.length<=20)
 (hK:∀ a b e,EvO ts vars l a b e->∀ h',h.le h'->K (.tuple #[ivT a b,I e]) h'):aN prog X3 #[.agg #[I vars,.slice A ts.length c],.slice B l.length bc] h K:=by
 refine Zf _ _ _ _ _ _ _ ?_
 unfold Wc
 have F:∀ i,i<ts.length->(tm ts i).1.length<=100000000:=fun i g=>by have:=hcl i g;omega
 refine A3e pa (by omega) F (fun u A1 c1 L p J=>⟨_,_,_,_,_,rfl,?_⟩) (fun s L p=>⟨_,_,_,_,_,rfl,?_⟩)
 ·refine Cg (y.mono p) rfl (by omega) ht (fun w A2 c2 o n C=>⟨_,_,_,_,rfl,S5 (S5 ?_)⟩) (fun s o n=>⟨_,_,_,_,rfl,S5 (S6 ?_)⟩)
  ·have r:=A0 p n
   refine N8 (fun e=>hK [] [] 4 (.inr (.inl ⟨u,w,e,rfl,rfl,rfl⟩)) o r) (fun S=>?_)
   obtain ⟨wf,_⟩:=id u
   have G:=wf.hi
   have d:∀ i,i<ts.length->(tm ts i).2.length=l.length:=fun i g=>by have:=(wf.all i g).1.len;omega
   have sm:SmE ts (bxQ l) l.length:=⟨hts,by omega,fun i g=>Pg (k:=8) (hcl i g) (by omega),d,fun i g k q=>⟨((wf.all i g).1.exps _ (Kn (by rw [d i g];exact q))).1,hex i g k (by rw [d i g];exact q)⟩,fun k q=>by
    obtain ⟨M,D⟩:=ht _ (aG q)
    unfold bxQ
    rw [aE,aC q]
    exact ⟨Pg (k:=20) M (by omega),Pg (k:=20) D (by omega)⟩⟩
   subst S
   refine A0q sm (J.mono B3e n) C ?_
   intro W V T N O H
   obtain ⟨Q,R⟩:=sm.ev ts.length (aX _)
   refine ⟨_,_,_,_,_,_,_,_,_,_,_,_,_,_,_,_,rfl,A0n (m:=400000) O H (Q.mono (by omega)) (R.mono (by omega)) (by omega) ⟨_,_,rfl,hK _ _ 0 (.inr (.inr ⟨u,w,rfl,rfl,rfl,rfl⟩)) T (A0 r N)⟩⟩
  ·exact hK [] [] 1 (.inl ⟨fun z=>s z.2,rfl,rfl,rfl⟩) o (A0 p n)
 ·refine Cg (y.mono p) rfl (by omega) ht (fun w A2 c2 o n C=>⟨_,_,_,_,rfl,S6 ?_⟩) (fun E o n=>⟨_,_,_,_,rfl,S6 ?_⟩)
  ·exact hK [] [] 1 (.inl ⟨fun z=>s z.1,rfl,rfl,rfl⟩) o (A0 p n)
  ·exact hK [] [] 1 (.inl ⟨fun z=>s z.1,rfl,rfl,rfl⟩) o (A0 p n)
def law_eval{i:Int}(gl:Gl h)(pa:aY h A ts)(y:SlV h B (l.flatMap F6)):aN prog Gi #[.agg #[I vars,.slice A ts.length c],.slice B l.length bc,I i,.string (bs x)] h (B4u h):=by
 refine Pu _ _ _ _ _ _ _ _ _ ?_
 unfold Md
 have aw:∀ E,h.le E->aN prog V6 #[] E (fun r hp=>∃ t,r= .bool t/\B4u h (.bool t) hp):=fun E l=>A6w (gl.mono l) ⟨_,rfl,rfl,l⟩
 have d:=aw h (B3 _)
 refine Rg pa (fun w D=>⟨_,rfl,S5 ?_⟩) (fun _=>⟨_,rfl,S6 d⟩)
 refine A9j pa (by omega) (fun i W=>by have:=(D i W).2;omega) (fun _ z=>⟨_,rfl,S5 ?_⟩) (fun _=>⟨_,rfl,S6 d⟩)
 refine B4 (fun _=>d) (fun h8=>?_)
 refine A3k y rfl (by omega) (fun M=>⟨_,rfl,S5 ?_⟩) (fun _=>⟨_,rfl,S6 d⟩)
 rw [G7]
 refine B4 (fun _=>d) (fun hx=>?_)
 have F:∀ i,i<ts.length->(tm ts i).1.length<=8:=fun i W=>(D i W).1
 have H:∀ (a b:List UInt8) (e:Int),EvO ts vars l a b e->∀ o,h.le o->aN prog X3 #[.agg #[I vars,.slice A ts.length c],.slice B l.length bc] o (fun L k=>∃ (t52a0:ByteArray) (t52a1:ByteArray) (t52b:Int),L= .tuple #[.agg #[.string t52a0,.string t52a1],I t52b]/\t52a0=bs a/\t52a1=bs b/\t52b=e/\h.le k):=by
  intro a b e ho o J
  refine Qt (pa.mono J) (y.mono J) w F z (by omega) M ?_
  intro a' b' e' aa h2 l2
  obtain ⟨rfl,rfl,rfl⟩:=ho.eq aa
  exact ⟨_,_,_,rfl,rfl,rfl,rfl,A0 J l2⟩
 have q:∀ (a b:List UInt8) (e:Int),EvO ts vars l a b e->∀ o,h.le o->aN prog X3 #[.agg #[I vars,.slice A ts.length c],.slice B l.length bc] o (fun L k=>∃ (t52a0:ByteArray) (t52a1:ByteArray) (t52b:Int),L= .tuple #[.agg #[.string t52a0,.string t52a1],I t52b]/\aN prog La #[.slice B l.length bc,I i,.string (bs x)] k (fun X u=>∃ (t59aA:Option aJ) (t59an:Nat) (t59ac:Nat) (t59bA:Option aJ) (t59bn:Nat) (t59bc:Nat) (t59c:Int),X= .tuple #[.slice t59aA t59an t59ac,.slice t59bA t59bn t59bc,I t59c]/\aN prog Ks #[.slice B l.length bc,I i,.string (bs x)] u (fun ac g=>∃ (t67aA:Option aJ) (t67an:Nat) (t67ac:Nat) (t67bA:Option aJ) (t67bn:Nat) (t67bc:Nat) (t67c:Int),ac= .tuple #[.slice t67aA t67an t67ac,.slice t67bA t67bn t67bc,I t67c]/\Br ((aV (bs a)==aV t52a0)&&((aV (bs b)==aV t52a1)&&true)) (Br (e==t52b) (aN prog O3 #[.slice t59aA t59an t59ac,.slice t67aA t67an t67ac] g (fun ab p=>∃ (t82:Bool),ab= .bool t82/\Br t82 (aN prog O3 #[.slice t59bA t59bn t59bc,.slice t67bA t67bn t67bc] p (fun R j=>∃ (t87:Bool),R= .bool t87/\Br t87 (Br (t59c==t67c) (aN prog V6 #[] j (fun N C=>∃ (t95:Bool),N= .bool t95/\B4u h (.bool t95) C))
 (B4u h (.bool false) j))
 (B4u h (.bool false) j)))
 (B4u h (.bool false) p)))
 (B4u h (.bool false) g))
 (B4u h (.bool false) g)))):=by
  intro a b e ho o J
  refine FCall.mono (H a b e ho o J) ?_
  rintro L k ⟨t0,t1,t2,rfl,rfl,rfl,rfl,Z⟩
  refine ⟨_,_,_,rfl,A3n (gl.mono Z) (y.mono Z) (by omega) M (by omega) ?_⟩
  intro Q V f so A1 c1 A2 c2 ad O s1 s2
  have n:=A0 Z O
  refine ⟨_,_,_,_,_,_,_,rfl,A0p (y.mono n) (by omega) M (by omega) ?_⟩
  intro m1 m2 f' T A3 c3 A4 c4 ae s s3 s4
  obtain ⟨rfl,rfl,rfl⟩:=so.eq T
  have G:=A0 n s
  have m:Q.length<=1000000/\V.length<=1000000:=by
   rcases so with ⟨_,rfl,rfl,_⟩|⟨_,_,_,rfl,rfl,_⟩|⟨_,_,_,rfl,rfl,_⟩
   ·exact ⟨bA _,bA _⟩
   ·exact ⟨bA _,bA _⟩
   ·rw [aI,aI];omega
  refine ⟨_,_,_,_,_,_,_,rfl,?_⟩
  rw [Ew,Ew,decide_eq_true rfl,decide_eq_true rfl]
  refine Br.of (fun _=>D9 (fun _=>?_) (fun e=>absurd rfl e)) (fun e=>by cases e)
  refine Fy (s1.mono s) s3 rfl rfl m.1 ⟨_,rfl,?_⟩
  rw [decide_eq_true rfl]
  refine Br.of (fun _=>?_) (fun e=>by cases e)
  refine Fy (s2.mono s) s4 rfl rfl m.2 ⟨_,rfl,?_⟩
  rw [decide_eq_true rfl]
  exact Br.of (fun _=>D9 (fun _=>aw _ G) (fun e=>absurd rfl e)) (fun e=>by cases e)
 refine Ub gl pa y w F z (by omega) M (fun no=>⟨_,_,_,rfl,q [] [] 1 (.inl ⟨no,rfl,rfl,rfl⟩) h (B3 _)⟩) (fun S bo en=>⟨_,_,_,rfl,q [] [] 4 (.inr (.inl ⟨S,bo,en,rfl,rfl,rfl⟩)) h (B3 _)⟩) (fun S bo en _ E l'=>⟨_,_,_,rfl,q _ _ 0 (.inr (.inr ⟨S,bo,en,rfl,rfl,rfl⟩)) E l'⟩)
end
end Go.Proofs.YtmbfcbbkbefgfaaGreatDoor
namespace Go.Proofs.YtmbfcbbkbefgfaaGreatDoor
set_option maxRecDepth 20000
open Go Go.RowKit
def A40(s:ByteArray):bs s.data.toList=s:=by
 cases s;simp [bs]
def Ib:aT->List UInt8
 | .string s=>s.data.toList
 | _=>[]
def B94{W:World}{a:aJ}{n:Nat}{V0 V1:Nat->aT}(h:∀ i,i<n->(memOf W).cell? (a.add (i*2))=some (.string (bs (Ib (V0 i))))/\(memOf W).cell? (a.add (i*2+1))=some (.string (bs (Ib (V1 i))))):SlV (memOf W) (some a) (((aQ n).map fun i=>((Ib (V0 i),Ib (V1 i)):Ivl)).flatMap F6):=by
 refine .inr ⟨a,rfl,fun k v b=>?_⟩
 have d:=Vl ((aQ n).map fun i=>((Ib (V0 i),Ib (V1 i)):Ivl))
 rw [List.length_map,List.length_range] at d
 have q:k<n*2:=by
  by_cases p:k<n*2
  ·exact p
  ·rw [aO (by omega)] at b;cases b
 have l:k/2<n:=by omega
 have o:k%2<2:=Nat.mod_lt k (by decide)
 have g:=A17 ((aQ n).map fun i=>((Ib (V0 i),Ib (V1 i)):Ivl)) (i:=k/2) (by simpa using l) (j:=k%2) o
 rw [show k/2*2+k%2=k by omega,List.getElem_map,List.getElem_range] at g
 rw [g] at b
 obtain ⟨c0,c1⟩:=h (k/2) l
 by_cases e:k%2=0
 ·rw [e] at b
  have c:(.string (bs (Ib (V0 (k/2)))):aT)=v:=aW b
  rw [<- c,show k=k/2*2 by omega]
  rw [show k/2*2/2=k/2 by omega]
  exact c0
 ·have m:k%2=1:=by omega
  rw [m] at b
  have c:(.string (bs (Ib (V1 (k/2)))):aT)=v:=aW b
  rw [<- c]
  have:=c1
  rw [show k/2*2+1=k by omega] at this
  exact this
def open_ivs{H:Type}{enc:aR × aT->H}{P:Program}{W:World}{base:Nat}{sp:Nat->Bool}{held:Bool}{t e:aR}{f0 f1:Field}{fuel:Nat}{A:Option aJ}{len cap:Nat}{x:DataW H × List MemPlace}(ht:P.underlying t=some (.slice e))(he:P.underlying e=some (.struct #[f0,f1]))(u0:P.underlying f0.type=some .string)(u1:P.underlying f1.type=some .string)
 (hoff:(f0.offset=0/\f1.offset=1)/\P.cellsOf e=2/\P.cellsOf f0.type=1/\P.cellsOf f1.type=1)
 (hf:DataW.trod enc P W base sp held fuel t [.slice A len cap]=some x):∃ l:List Ivl,len=l.length/\SlV (memOf W) A (l.flatMap F6):=by
 obtain ⟨⟨s,B⟩,r,c0,c1⟩:=hoff
 rcases Deep.open_slice_pairs ht he r s B c0 c1 hf with ⟨b,_⟩|⟨a,l,c,m,n,V0,V1,D0,D1,P0,P1,b,_,C,_,k,_,d⟩
 ·simp at b
  obtain ⟨rfl,rfl,rfl⟩:=b
  exact ⟨[],rfl,SlV.nil⟩
 ·simp at b
  obtain ⟨rfl,rfl,rfl⟩:=b
  have z:len<=m:=by rw [k];split<;>omega
  refine ⟨(aQ len).map fun i=>(Ib (V0 i),Ib (V1 i)),by simp,B94 fun i D=>?_⟩
  obtain ⟨o,p,y,q⟩:=d i (by omega)
  obtain ⟨u,g,_,_⟩:=DataW.trod_string u0 y
  obtain ⟨w,j,_,_⟩:=DataW.trod_string u1 q
  simp at g j
  rw [g] at o
  rw [j] at p
  rw [g,j]
  show _=some (bG (bs u.data.toList))/\_=some (bG (bs w.data.toList))
  rw [A40,A40]
  exact ⟨T6 o,T6 p⟩
def A93{H:Type}{enc:aR × aT->H}{P:Program}{W:World}{base:Nat}{sp:Nat->Bool}{held:Bool}{t e:aR}{fuel:Nat}{v:aT}{x:DataW H × List MemPlace}(ht:P.underlying t=some (.slice e))(he:P.underlying e=some (.int .i64))(hc:P.cellsOf e=1)
 (hf:DataW.trod enc P W base sp held fuel t [v]=some x):∃ (xs:List Int) (B:Option aJ) (c:Nat),v= .slice B xs.length c/\SlI .i64 (memOf W) B xs:=by
 rcases ChangeShapes.open_ints ht he hc hf with ⟨b,_⟩|⟨a,l,c,zs,b,_,p,_,m,_,d,_⟩
 ·simp at b
  exact ⟨[],none,0,b,SlI.nil⟩
 ·simp at b
  have k:l<=zs.length:=by rw [m];split<;>omega
  refine ⟨zs.take l,some a,c,by rw [b,List.length_take,Nat.min_eq_left k],.inr ⟨a,rfl,fun i w g=>?_⟩⟩
  rw [List.getElem?_map] at g
  have o:i<l:=by
   by_cases n:i<l
   ·exact n
   ·rw [aO (by rw [List.length_take];omega)] at g;cases g
  rw [List.getElem?_take,iP o,aC (by omega)] at g
  have:=d i (by omega)
  rw [aE,aC (by omega)] at this
  have j:(.int .i64 zs[i]:aT)=w:=aW g
  rw [<- j]
  exact T6 this
def open_poly{H:Type}{enc:aR × aT->H}{P:Program}{W:World}{base:Nat}{sp:Nat->Bool}{held:Bool}{r:Reach}{b0:Nat}{t e q:aR}{f0 f1 g0 g1:Field}{v:aT}{d:DataW H}{ps:List MemPlace}(ht:P.underlying t=some (.struct #[f0,f1]))(u0:P.underlying f0.type=some (.int .i64))(u1:P.underlying f1.type=some (.slice e))(ue:P.underlying e=some (.struct #[g0,g1]))(w0:P.underlying g0.type=some .string)(w1:P.underlying g1.type=some (.slice q))(wq:P.underlying q=some (.int .i64))
 (hoff:(f0.offset=0/\f1.offset=1/\g0.offset=0/\g1.offset=1)/\P.cellsOf f0.type=1/\P.cellsOf f1.type=1/\P.cellsOf t=2/\P.cellsOf e=2/\P.cellsOf g0.type=1/\P.cellsOf g1.type=1/\P.cellsOf q=1)
 (hval:Value.okWide P W r b0 t v) (hd:DataW.Trod enc P W base sp held t v d ps):∃ (vars:Int) (A:Option aJ) (cap:Nat) (ts:List U6),v= .agg #[.int .i64 vars,.slice A ts.length cap]/\aY (memOf W) A ts:=by
 obtain ⟨⟨o0,S,p0,Z⟩,c0,c1,R,X,d0,d1,cq⟩:=hoff
 obtain ⟨w,rfl,u⟩:=WideShapes.okWide_struct ht hval
 obtain ⟨M,hf⟩:=hd
 obtain ⟨y0,y1,n,hx,hl,N,x⟩:=ChangeShapes.trod_struct2 ht hf
 rw [o0,c0] at N
 rw [S,c1] at x
 obtain ⟨L,s,_,_⟩:=DataW.trod_int u0 N
 rw [R] at u
 obtain ⟨z0,z1,hm⟩:∃ z0 z1,w.toList=[z0,z1]:=by
  have o:w.toList.length=2:=by simpa using u
  match h:w.toList,o with
  | [p,q],_=>exact ⟨p,q,rfl⟩
 simp only [Value.cells] at s x
 rw [hm] at s x
 simp at s x
 have g:w=#[z0,z1]:=by rw [<- Array.toArray_toList (xs:=w),hm]
 rcases Deep.open_slice_pairs u1 ue X p0 Z d0 d1 x with ⟨k,_⟩|⟨a,l,c,m,n',V0,V1,D0,D1,P0,P1,k,_,V,_,F,_,b⟩
 ·simp at k
  exact ⟨L,none,0,[],by rw [g,s,k];rfl,fun i C=>by simp at C⟩
 ·simp at k
  have Q:l<=m:=by rw [F];split<;>omega
  obtain ⟨E,hE⟩:=Deep.choose_lt (α:=List Int × Option aJ × Nat) (n:=l) (p:=fun i y=>V1 i= .slice y.2.1 y.1.length y.2.2/\SlI .i64 (memOf W) y.2.1 y.1) (fun i C=>by
   obtain ⟨xs,B,c',z,h2⟩:=A93 w1 wq cq (b i (by omega)).2.2.2
   exact ⟨(xs,B,c'),z,h2⟩)
  refine ⟨L,some a,c,(aQ l).map fun i=>(Ib (V0 i),(E i).1),by rw [g,s,k];simp,fun i C=>?_⟩
  have j:i<l:=by simpa using C
  obtain ⟨J,z,G,_⟩:=b i (by omega)
  obtain ⟨O,D,_,_⟩:=DataW.trod_string w0 G
  simp at D
  obtain ⟨h3,h4⟩:=hE i j
  have T:tm ((aQ l).map fun i=>(Ib (V0 i),(E i).1)) i=(Ib (V0 i),(E i).1):=by
   show ((aQ l).map fun i=>(Ib (V0 i),(E i).1)).getD i ([],[])=_
   rw [aE,List.getElem?_map,List.getElem?_range j]
   rfl
  rw [T]
  rw [D] at J
  rw [h3] at z
  refine ⟨a,(E i).2.1,(E i).2.2,rfl,?_,?_,h4⟩
  ·rw [D,Er]
   show _=some (bG (bs O.data.toList))
   rw [A40]
   exact T6 J
  ·rw [Er]
   exact T6 z
