/- A part. -/
import Derived.Test.YtmbfcbbkbefgfaaGreatDoorG34
import Derived.Test.YtmbfcbbkbefgfaaGreatDoorG26
import Derived.Test.YtmbfcbbkbefgfaaGreatDoorG33
import Derived.Deep.SlicePairs
open Go.Proofs.Tryz
set_option linter.all false
open _root_.Go.Addr renaming add->aM
open _root_.Go.Builtin renaming append_->bD
open _root_.ByteArray renaming toList->aV
open _root_.Go.Instr renaming buildSlice->aZ
open Int renaming toNat_natCast->aD
open List renaming getElem?_eq_getElem->aC,getD_eq_getElem?_getD->aE,getElem_mem->aG,length_append->aH,length_set->aI,getElem?_eq_none->aO,set_cons_succ->aP,range->aQ,eq_nil_of_length_eq_zero->bB,nil_append->bC,replicate->bF,toArray->bH,getElem?_set_self->bI
open List.cons renaming injEq->aL
open Nat renaming le_mul_of_pos_right->aU,le_refl->aX,zero_le->bA
open Option.some renaming inj->aW
open _root_.Go.Value renaming string->bG
open _root_.Go.Value.int renaming injEq->aK
open _root_.Go.Value.slice renaming injEq->aS
open _root_.Go renaming Addr->aJ,TypeId->aR,Value->aT
open _root_.Go.Proofs.YtmbfcbbkbefgfaaGreatDoor renaming Heap->aF,FCall->aN,PolyAt->aY
namespace Go.Proofs.YtmbfcbbkbefgfaaGreatDoor
set_option maxRecDepth 20000
open Go
section
variable {h g:aF} {K:VP} {A B:Option aJ} {s s':Bool} {an ac bn bc m:Nat} {x y:Int}
end
abbrev RQr:aF->QV->Rat->Prop:=fun h w q=>RQ h w q
abbrev NQr:aF->QV->Rat->Prop:=fun h w q=>NQ h w q
abbrev ZIr:aF->IV->Int->Prop:=fun h w z=>ZI h w.s w.A w.n w.c z
abbrev SSr:aF->List UInt8->List UInt8->Prop:=fun _ w s=>w=s
def Mon{α β:Type}(R:aF->α->β->Prop):Prop:=∀ (h h':aF) (w:α) (x:β),h.le h'->R h w x->R h' w x
instance:Enc QV:=⟨⟨fun w=>[.bool w.s,.slice w.A w.n w.c,.bool w.s2,.slice w.A2 w.n2 w.c2],4,fun _=>rfl,fun w v hv=>by simp at hv;rcases hv with rfl|rfl|rfl|rfl<;>rfl⟩⟩
section
variable {α β:Type}
def Row(R:aF->α->β->Prop)(g:aF)(xs:List α)(n:Nat)(f:Nat->β):Prop:=∀ i,i<n->∃ w,xs[i]? = some w/\R g w (f i)
variable {R:aF->α->β->Prop} {g g' h h':aF} {xs:List α} {n:Nat} {f:Nat->β}
def Row.mono(m:Mon R)(hl:g.le g')(r:Row R g xs n f):Row R g' xs n f:=fun i a=>by
 obtain ⟨w,e,b⟩:=r i a
 exact ⟨w,e,m _ _ _ _ hl b⟩
def Row.nil:Row R g xs 0 f:=fun i a=>by omega
def Row.set{k:Nat}(r:Row R g xs k f)(hk:k<xs.length){w:α}(hw:R g w (f k)):Row R g (xs.set k w) (k+1) f:=fun i c=>by
 by_cases e:i=k
 ·subst e;exact ⟨w,by rw [bI hk],hw⟩
 ·obtain ⟨u,a,b⟩:=r i (by omega)
  exact ⟨u,by rw [List.getElem?_set_ne (fun x=>e x.symm)];exact a,b⟩
def Row.push(r:Row R g xs xs.length f){w:α}(hw:R g w (f xs.length)):Row R g (xs++[w]) (xs++[w]).length f:=fun i a=>by
 rw [aH] at a
 by_cases e:i=xs.length
 ·subst e;exact ⟨w,by simp,hw⟩
 ·obtain ⟨u,b,c⟩:=r i (by simp at a;omega)
  exact ⟨u,by rw [List.getElem?_append_left (by simp at a;omega)];exact b,c⟩
def Row.get(r:Row R g xs n f){i:Nat}(hi:i<n)(hl:i<xs.length):R g xs[i] (f i):=by
 obtain ⟨w,e,a⟩:=r i hi
 rw [aC hl] at e
 cases e;exact a
variable [E:Enc α]
def RowV(R:aF->α->β->Prop)(h:aF)(A:Option aJ)(n:Nat)(f:Nat->β):Prop:=∃ xs:List α,SlF h A xs/\xs.length=n/\Row R h xs n f
def RowV.mono(m:Mon R){A:Option aJ}(hl:h.le h')(r:RowV R h A n f):RowV R h' A n f:=by
 obtain ⟨a,s,e,r⟩:=r
 exact ⟨a,s.mono hl,e,r.mono m hl⟩
def RowV.at(pos:0<E.default.size){A:Option aJ}(r:RowV R h A n f){i:Nat}(hi:i<n):∃ a w,A=some a/\R h w (f i)/\∀ j v,(enc w)[j]? = some v->h.cell? (aM (aM a (i*E.default.size)) j)=some v:=by
 obtain ⟨d,s,e,r⟩:=r
 obtain ⟨a,c,b⟩:=SlF.at pos s (i:=i) (by omega)
 exact ⟨a,d[i],c,r.get hi (by omega),b⟩
structure Own (R:aF->α->β->Prop) (h h':aF) (b n:Nat) (f:Nat->β):Prop where
 ex:∃ g o xs,h.le g/\Sep h' g o/\RowX o b xs/\xs.length=n/\Row R g xs n f
end
section
variable {h:aF} {A:Option aJ} {n:Nat}
end
end Go.Proofs.YtmbfcbbkbefgfaaGreatDoor
namespace Go.Proofs.YtmbfcbbkbefgfaaGreatDoor
set_option maxRecDepth 20000
def sm:Nat->(Nat->Rat)->Rat
 | 0,_=>0
 | n+1,f=>sm n f+f n
def rhx(l i:Nat):Nat:=if i<l then i else i+1
def sg(n:Nat):Rat:=if n%2=0 then 1 else -1
def dt:Nat->(Nat->Nat->Rat)->Rat
 | 0,_=>1
 | k+1,X=>sm (k+1) fun l=>sg (k+l)*X k l*dt k (fun c r=>X c (rhx l r))
def rc(X:Nat->Nat->Rat)(m:Nat)(y:Nat->Rat):Nat->Nat->Rat:=fun c r=>if c=m then y r else X c r
def Wh(q:Rat):Prop:=∃ z:Int,q=(z:Rat)
structure Elim (n w:Nat) (B R:Nat->Nat->Rat) (cs:Nat->Nat) (k:Nat):Prop where
 kn:k<=n
 cw:∀ m,m<k->cs m<w
 piv:∀ l m,l<k->m<k->R l (cs m)=if l=m then 1 else 0
 low:∀ i m,i<n->k<=i->m<k->R i (cs m)=0
 top:∀ l j,l<k->j<w->B l j=sm k fun m=>B l (cs m)*R m j
 bot:∀ i j,i<n->k<=i->j<w->B i j=R i j+sm k fun m=>B i (cs m)*R m j
def dp(B:Nat->Nat->Rat)(cs:Nat->Nat)(k:Nat):Rat:=dt k fun c r=>B r (cs c)
section
variable {n w:Nat} {B R:Nat->Nat->Rat} {cs:Nat->Nat} {k:Nat}
end
end Go.Proofs.YtmbfcbbkbefgfaaGreatDoor
namespace Go.Proofs.YtmbfcbbkbefgfaaGreatDoor
set_option maxRecDepth 20000
structure ES where
 R:Nat->Nat->Rat
 cs:List Nat
 det:Rat
structure PS where
 M:Nat->Nat->Int
 S:Nat->Rat
 cs:List Nat
 last:Int
 sgn:Int
def pr:Nat->(Nat->Rat)->Rat
 | 0,_=>1
 | n+1,f=>pr n f*f n
structure ERel (n w c:Nat) (A:Nat->Nat->Rat) (s:ES) (t:PS):Prop where
 cs:s.cs=t.cs
 elim:∃ B,(∀ i j,i<n->j<w->Wh (B i j))/\Elim n w B (fun i j=>if i<s.cs.length then s.R i j else t.S i*s.R i j) (fun m=>s.cs.getD m 0) s.cs.length/\(t.last:Rat)=dp B (fun m=>s.cs.getD m 0) s.cs.length
 last:t.last≠0
 val:∀ i j,i<n->j<w->(t.M i j:Rat)=t.last*(if i<s.cs.length then s.R i j else t.S i*s.R i j)
 scale:∀ i,i<n->t.S i≠0
 zero:∀ i j,i<n->s.cs.length<=i->j<c->s.R i j=0
 asc:s.cs.length<=c
 det:s.cs.length=c->s.det*pr s.cs.length t.S=t.sgn*t.last
 miss:s.cs.length<c->s.cs.length<n->s.det=0
 sgn:t.sgn=1\/t.sgn= -1
end Go.Proofs.YtmbfcbbkbefgfaaGreatDoor
namespace Go.Proofs.YtmbfcbbkbefgfaaGreatDoor
set_option maxRecDepth 20000
structure SzE (n w m:Nat) (s:ES):Prop where
 R:∀ a b,a<n->b<w->Sz (7^s.cs.length*m) (s.R a b)
 det:Sz (7^s.cs.length*m) s.det
 len:s.cs.length<=n
structure ZbP (n w m l:Nat) (s:PS):Prop where
 M:∀ a b,a<n->b<w->ZB (3^s.cs.length*m) (s.M a b)
 last:ZB (3^s.cs.length*m) s.last
 S:∀ a,a<n->Sz l (s.S a)
 len:s.cs.length<=n
structure Asc (l:List Nat) (c:Nat):Prop where
 lt:∀ x∈l,x<c
 asc:l.Pairwise (· < ·)
section
variable {α β:Type} [E:Enc α] {R:aF->α->β->Prop}
end
section
variable {h:aF} {K:VP} {A:Option aJ} {n c m:Nat} {ls:Nat->List UInt8} {f:Nat->Rat} {a w:QV} {q:Rat}
end
instance:Enc Int:=⟨⟨fun z=>[I z],1,fun _=>rfl,fun z v hv=>by rw [List.mem_singleton.1 hv];rfl⟩⟩
abbrev IIr:aF->Int->Int->Prop:=fun _ w z=>w=z
section
variable {α:Type} [E:Enc α]
def OwnSl(o:aF)(e:aR)(A:Option aJ)(c:Nat)(xs:List α):Prop:=
 xs.length<=c/\((c=0/\A=none)\/∃ b arr,A=some ⟨b,0,none⟩/\o b=some (.cells (bH arr) e)/\arr.length=c*E.default.size/\arr.take (xs.length*E.default.size)=xs.flatMap enc)
def OwnSl.nil{o:aF}{e:aR}:OwnSl o e none 0 ([]:List α):=⟨aX _,.inl ⟨rfl,rfl⟩⟩
def OwnSl.rowB{o:aF}{e:aR}{A:Option aJ}{c:Nat}{xs:List α}(w:OwnSl o e A c xs)(hne:xs≠[]):∃ b,A=some ⟨b,0,none⟩/\RowB o b xs:=by
 rcases w.2 with d|⟨b,a,g,j,k,i⟩
 ·exfalso
  have:=w.1
  have:=d.1
  have:xs.length≠0:=fun h=>hne (bB h)
  omega
 ·exact ⟨b,g,e,a.drop (xs.length*E.default.size),by rw [j,<- i,List.take_append_drop]⟩
def OwnSl.slF{o h:aF}{e:aR}{A:Option aJ}{c:Nat}{xs:List α}(w:OwnSl o e A c xs)(hl:o.le h):SlF h A xs:=by
 by_cases a:xs=[]
 ·rw [a];exact SlF.nil
 ·obtain ⟨b,rfl,r⟩:=w.rowB a
  exact r.slF hl
def OwnSl.priv{h g o:aF}{e:aR}{A:Option aJ}{c:Nat}{xs:List α}(s:Sep h g o)(w:OwnSl o e A c xs):∃ gb,PrivF h gb e A c xs/\∀ k x,h k=some x->A≠some ⟨k,0,none⟩->gb k=some x:=by
 rcases w.2 with ⟨l,j⟩|⟨b,d,i,q,n,m⟩
 ·subst l
  have p:xs=[]:=bB (by have:=w.1;omega)
  subst p
  exact ⟨h,PrivF.nil h e A,fun k x e _=>e⟩
 ·refine ⟨h.without b,⟨P8 xs,w.1,.inr ⟨b,d,i,K4 _ _,(Q0 (s.own b _ q)).symm,n,m⟩⟩,fun k x e a=>?_⟩
  unfold Heap.without
  rw [iN]
  ·exact e
  ·rintro rfl;exact a i
def OwnSl.push{P:Program}{t e ty:aR}{z:aT}{bytes:Nat}(st:SliceT P t e z E.default.size bytes){h g o:aF}{A:Option aJ}{c:Nat}{xs:List α}(s:Sep h g o)(w:OwnSl o e A c xs){v:aT}{y:α}(hv:v.cells=(enc y).toArray)(hsz:E.default.size<=1000)
 (hb:(2*(xs.length+1)+192)*bytes<=281474976710656) (hn:xs.length+1<=9223372036854775807) {K1:aF->Prop} {K:Option aJ->Nat->Nat->aF->Prop}
 (x0:∀ h1,h.le h1->K1 h1)
 (x:∀ A' c' h' g' o',g.le g'->Sep h' g' o'->OwnSl o' e A' c' (xs++[y])->(∀ k u,o k=some u->A≠some ⟨k,0,none⟩->o' k=some u/\A'≠some ⟨k,0,none⟩)->K A' (xs.length+1) c' h'):
 wpH P (aZ t 1 #[(0,v)]) (fun v' hp=>∃ (B:Option aJ) (m d:Nat),v'= .slice B m d/\K1 hp/\wpH P (bD #[t,t] ty #[.slice A xs.length c,.slice B m d]) (fun v1 hp1=>∃ (A':Option aJ) (n' c':Nat),v1= .slice A' n' c'/\K A' n' c' hp1) hp) h:=by
 obtain ⟨gb,p,H⟩:=w.priv s
 refine Kj st (vs:=[v]) (fun u hu=>by rw [List.mem_singleton.1 hu,hv];simp [E.default.len]) rfl (by simp;omega) rfl ?_
 intro b j
 have T:[v].flatMap (fun v=>v.cells.toList)=[y].flatMap enc:=by simp [hv]
 rw [T]
 refine ⟨_,_,_,rfl,x0 _ (Heap.le_put _ j),?_⟩
 have p':PrivF (h.put b (.cells ([y].flatMap enc).toArray e)) (gb.put b (.cells ([y].flatMap enc).toArray e)) e A c xs:=Priv.put p j _
 refine Dj st p' (ys:=[y]) rfl (B0d e h b [y]) hb hn ?_
 intro A' c' h' g' hg hp
 refine ⟨_,_,_,rfl,?_⟩
 rw [aH]
 have J:∀ k u,h k=some u->A≠some ⟨k,0,none⟩->g' k=some u:=by
  intro k u a O
  have i:k≠b:=by rintro rfl;rw [j] at a;cases a
  exact hg k u (by rw [B7 _ _ i];exact H k u a O)
 have R:∀ k u,g k=some u->A≠some ⟨k,0,none⟩:=by
  intro k u a q
  rcases w.2 with ⟨_,W⟩|⟨l,C,n,r,_⟩
  ·rw [q] at W;cases W
  ·rw [q] at n
   simp only [Option.some.injEq,Addr.mk.injEq,and_true] at n
   subst n
   rw [s.dis k _ r] at a;cases a
 rcases hp.2.2 with ⟨aa,_⟩|⟨l,C,n,r,M,ha,ht⟩
 ·exfalso
  have:=hp.2.1
  rw [aH] at this
  simp at this
  omega
 ·subst n
  let o':aF:=fun k=>if k=l then some (.cells (bH C) e) else if A=some ⟨k,0,none⟩ then none else o k
  have ob:o' l=some (.cells (bH C) e):=by show (if l=l then _ else _)=_;rw [iP rfl]
  have N:∀ k,k≠l->A≠some ⟨k,0,none⟩->o' k=o k:=fun k h1 F=>by show (if k=l then _ else if _ then _ else _)=_;rw [iN h1,iN F]
  have S:∀ k,k≠l->A=some ⟨k,0,none⟩->o' k=none:=fun k h1 F=>by show (if k=l then _ else if _ then _ else _)=_;rw [iN h1,iP F]
  let g2:aF:=fun k=>match o' k with|some _=>none|none=>h' k
  have gs:∀ k u,o' k=some u->g2 k=none:=fun k u a=>by show (match o' k with|some _=>none|none=>h' k)=_;rw [a]
  have X:∀ k,o' k=none->g2 k=h' k:=fun k a=>by show (match o' k with|some _=>none|none=>h' k)=_;rw [a]
  have D:∀ k u,k≠l->g' k=some u->h' k=some u:=fun k u h1 a=>by rw [M,B7 _ _ h1];exact a
  have L:∀ k u,o k=some u->A≠some ⟨k,0,none⟩->k≠l:=by
   rintro k u a F rfl
   have:=J k u (s.own k u a) F
   rw [r] at this;cases this
  refine x _ c' h' g2 o' (fun k u a=>?_) ⟨fun k u a=>?_,fun k a=>(X k a).symm,gs⟩ ⟨hp.2.1,.inr ⟨l,C,rfl,ob,ha,ht⟩⟩ (fun k u a F=>?_)
  ·have V:o k=none:=by
    cases ho:o k with
    | none=>rfl
    | some y=>rw [s.dis k y ho] at a;cases a
   have q:=R k u a
   have Q:=J k u (s.le k u a) q
   have G:k≠l:=by rintro rfl;rw [r] at Q;cases Q
   rw [X k (by rw [N k G q];exact V)]
   exact D k u G Q
  ·by_cases i:k=l
   ·subst i
    rw [ob] at a;cases a
    rw [M,C4]
   ·by_cases q:A=some ⟨k,0,none⟩
    ·rw [S k i q] at a;cases a
    ·rw [N k i q] at a
     exact D k u i (J k u (s.own k u a) q)
  ·have i:=L k u a F
   refine ⟨by rw [N k i F];exact a,fun Z=>i ?_⟩
   simp only [Option.some.injEq,Addr.mk.injEq,and_true] at Z
   exact Z.symm
end
structure Tb where
 bt:Nat
 bE:Nat
 bS:Nat
 rows:Nat
 cols:Nat
 cE:Nat
 cS:Nat
structure Tab (h g o:aF) (T:Tb) (M:Nat->Nat->Int) (S:Nat->Rat):Prop where
 sep:Sep h g o
 n1:T.bt≠T.bE
 n2:T.bt≠T.bS
 n3:T.bE≠T.bS
 head:∃ e,o T.bt=some (.cells #[I T.cols,.slice (some ⟨T.bE,0,none⟩) (T.rows*T.cols) T.cE,.slice (some ⟨T.bS,0,none⟩) T.rows T.cS] e)
 elems:∃ ws:List IV,RowB o T.bE ws/\ws.length=T.rows*T.cols/\∀ i j,i<T.rows->j<T.cols->∃ w,ws[i*T.cols+j]? = some w/\ZIr g w (M i j)
 scales:∃ ss:List QV,RowB o T.bS ss/\ss.length=T.rows/\Row RQr g ss T.rows S
 cE:T.rows*T.cols<=T.cE
 cS:T.rows<=T.cS
 small:T.rows<=10000/\T.cols<=10000
 pos:0<T.cols
section
variable {h g o:aF} {T:Tb} {M:Nat->Nat->Int} {S:Nat->Rat} {K:VP} {m:Nat}
def Sep.le_le{h' g':aF}(s:Sep h g o)(s':Sep h' g' o)(l:g.le g'):h.le h':=fun k x e=>by
 cases ho:o k with
 | some y=>rw [s.own k y ho] at e;rw [s'.own k y ho];exact e
 | none=>rw [s.rest k ho] at e;rw [s'.rest k ho];exact l k x e
end
section
variable {h g o:aF} {T:Tb} {M:Nat->Nat->Int} {S:Nat->Rat} {K:VP} {m:Nat}
def A4f{α:Type}[E:Enc α]{P:Program}{t e ty:aR}{z:aT}{bytes:Nat}(st:SliceT P t e z E.default.size bytes){h g o:aF}{A:Option aJ}{c n:Nat}{xs:List α}(s:Sep h g o)(w:OwnSl o e A c xs)(hxn:n=xs.length){v:aT}{y:α}(hv:v.cells=(enc y).toArray)(hsz:E.default.size<=1000)
 (hb:(2*(xs.length+1)+192)*bytes<=281474976710656) (hn:xs.length+1<=9223372036854775807) {K:Option aJ->Nat->Nat->aF->Prop}
 (x:∀ A' c' h' g' o',g.le g'->Sep h' g' o'->OwnSl o' e A' c' (xs++[y])->(∀ k u,o k=some u->A≠some ⟨k,0,none⟩->o' k=some u/\A'≠some ⟨k,0,none⟩)->K A' (xs.length+1) c' h'):
 wpH P (aZ t 1 #[(0,v)]) (fun v' hp=>∃ (B:Option aJ) (m d:Nat),v'= .slice B m d/\wpH P (bD #[t,t] ty #[.slice A n c,.slice B m d]) (fun v1 hp1=>∃ (A':Option aJ) (n' c':Nat),v1= .slice A' n' c'/\K A' n' c' hp1) hp) h:=by
 subst hxn
 refine He _ (OwnSl.push (ty:=ty) st s w hv hsz hb hn (K1:=fun _=>True) (K:=K) (fun _ _=>trivial) x) ?_
 rintro v' hp ⟨B,m,d,e,_,a⟩
 exact ⟨B,m,d,e,a⟩
abbrev zs(l:List Nat):List Int:=l.map fun (n:Nat)=>(n:Int)
end
abbrev Ivl:=List UInt8 × List UInt8
def S5{X Y:Prop}(y:Y):Br (!true) X Y:=y
def S6{X Y:Prop}(x:X):Br (!false) X Y:=x
def Km(z:Int)(l:List aT):iAt (I z::l) 0=z:=rfl
section
variable {h:aF} {K:VP} {A B:Option aJ} {ts:List U6} {vars:Int} {c:Nat}
def N1{i:Nat}(h:i<=9223372036854775806):B5 ((i:Int)+1)=((i+1:Nat):Int):=by rw [B6]<;>omega
def Rg(pa:aY h A ts)(hK1:ts.length<=5->(∀ i,i<ts.length->(tm ts i).1.length<=8/\(tm ts i).2.length<=12)->K (.bool true) h)(hK0:¬ (ts.length<=5/\∀ i,i<ts.length->(tm ts i).1.length<=8/\(tm ts i).2.length<=12)->K (.bool false) h):aN prog Ei #[.agg #[I vars,.slice A ts.length c],I 5,I 8] h K:=by
 refine Uo _ _ _ _ _ _ ?_
 unfold Tt
 refine B4 (fun e=>hK0 fun x=>by omega) (fun e=>?_)
 refine ⟨fun L l=>∃ i:Nat,i<=ts.length/\L=[I (i:Int)]/\l=h/\∀ j,j<i->(tm ts j).1.length<=8/\(tm ts j).2.length<=12,fun L _=>ts.length-(iAt L 0).toNat,⟨0,by omega,rfl,rfl,fun j m=>by omega⟩,?_⟩
 rintro z l ⟨i,y,q,rfl,g⟩
 obtain rfl:=sI1 q
 refine B4 (fun r=>?_) (fun s=>hK1 (by omega) fun j m=>g j (by omega))
 have b:i<ts.length:=by omega
 obtain ⟨a,D,d,k,n,o,B⟩:=pa i b
 refine ⟨a,k,by omega,by omega,_,n,?_⟩
 rw [G7]
 refine B4 (fun e=>hK0 fun x=>by have:=(x.2 i b).1;omega) (fun u=>⟨a,k,by omega,by omega,_,_,_,o,B4 (fun e=>hK0 fun x=>by have:=(x.2 i b).2;omega) (fun w=>?_)⟩)
 rw [N1 (by omega)]
 refine ⟨⟨i+1,by omega,rfl,rfl,fun j m=>?_⟩,by simp only [Km];omega⟩
 by_cases p:j=i
 ·rw [p];exact ⟨by omega,by omega⟩
 ·exact g j (by omega)
def A9j{dg:Int}(pa:aY h A ts)(hts:ts.length<=1000000)(hex:∀ i,i<ts.length->(tm ts i).2.length<=1000000)(hK1:vars<=6->(∀ i,i<ts.length->∀ j,j<(tm ts i).2.length->(tm ts i).2.getD j 0<=dg)->K (.bool true) h)(hK0:¬ (vars<=6/\∀ i,i<ts.length->∀ j,j<(tm ts i).2.length->(tm ts i).2.getD j 0<=dg)->K (.bool false) h):aN prog A3w #[.agg #[I vars,.slice A ts.length c],I 6,I dg] h K:=by
 refine B4v _ _ _ _ _ _ ?_
 unfold C0m
 refine B4 (fun e=>hK0 fun x=>by omega) (fun e=>?_)
 refine ⟨fun L n=>∃ i:Nat,i<=ts.length/\L=[I (i:Int)]/\n=h/\∀ g,g<i->∀ j,j<(tm ts g).2.length->(tm ts g).2.getD j 0<=dg,fun L _=>ts.length-(iAt L 0).toNat,⟨0,by omega,rfl,rfl,fun j m=>by omega⟩,?_⟩
 rintro z n ⟨i,M,B,rfl,r⟩
 obtain rfl:=sI1 B
 refine B4 (fun F=>?_) (fun H=>hK1 (by omega) fun j m=>r j (by omega))
 have b:i<ts.length:=by omega
 obtain ⟨a,D,d,y,Q,u,E⟩:=pa i b
 have C:=hex i b
 refine ⟨fun L q=>∃ k:Nat,k<=(tm ts i).2.length/\L=[I (k:Int)]/\q=n/\∀ j,j<k->(tm ts i).2.getD j 0<=dg,fun L _=>(tm ts i).2.length-(iAt L 0).toNat,⟨0,by omega,rfl,rfl,fun j m=>by omega⟩,?_⟩
 rintro O G ⟨k,N,o,rfl,l⟩
 obtain rfl:=sI1 o
 refine ⟨a,y,by omega,by omega,_,_,_,u,B4 (fun w=>?_) (fun s=>?_)⟩
 ·refine ⟨a,y,by omega,by omega,_,_,_,u,?_⟩
  refine E.load rfl (by omega) (by omega) ?_
  rw [aD]
  refine B4 (fun e=>hK0 fun x=>by have:=x.2 i b k (by omega);omega) (fun R=>?_)
  rw [N1 (by omega)]
  refine ⟨⟨k+1,by omega,rfl,rfl,fun j m=>?_⟩,by simp only [Km];omega⟩
  by_cases p:j=k
  ·rw [p];omega
  ·exact l j (by omega)
 ·rw [N1 (by omega)]
  refine ⟨⟨i+1,by omega,rfl,rfl,fun g J j m=>?_⟩,by simp only [Km];omega⟩
  by_cases p:g=i
  ·subst p;exact l j (by omega)
  ·exact r g (by omega) j m
def Fy{l l2:List Ivl}{an bn ac bc:Nat}(x:SlV h A (l.flatMap F6))(y:SlV h B (l2.flatMap F6))(hn:an=l.length)(hm:bn=l2.length)(hl:l.length<=1000000)(hK:K (.bool (decide (l=l2))) h):aN prog O3 #[.slice A an ac,.slice B bn bc] h K:=by
 subst hn hm
 refine Up _ _ _ _ _ _ ?_
 unfold Tu
 have n:¬ l=l2->K (.bool false) h:=fun e=>by rw [decide_eq_false e] at hK;exact hK
 refine N8 (fun e=>n fun x=>e (by rw [x])) (fun e=>?_)
 have e:l.length=l2.length:=by omega
 refine ⟨fun L g=>∃ i:Nat,i<=l.length/\L=[I (i:Int)]/\g=h/\∀ j,j<i->l[j]? = l2[j]?,fun L _=>l.length-(iAt L 0).toNat,⟨0,by omega,rfl,rfl,fun j k=>by omega⟩,?_⟩
 rintro z g ⟨i,F,w,rfl,d⟩
 obtain rfl:=sI1 w
 refine B4 (fun D=>?_) (fun s=>?_)
 ·have o:i<l.length:=by omega
  have m:i<l2.length:=by omega
  obtain ⟨a,q,c0,c1⟩:=Oi x o
  obtain ⟨b,C,E,r⟩:=Oi y m
  refine ⟨a,q,by omega,by omega,_,_,c0,c1,b,C,by omega,by omega,_,_,E,r,?_⟩
  rw [Ew,Ew]
  refine Br.of (fun c=>n fun x=>?_) (fun c=>?_)
  ·subst x
   simp at c
  ·have:l[i]=l2[i]:=by
    have p:l[i].1=l2[i].1/\l[i].2=l2[i].2:=by simpa using c
    exact Prod.ext p.1 p.2
   rw [N1 (by omega)]
   refine ⟨⟨i+1,by omega,rfl,rfl,fun j k=>?_⟩,by simp only [Km];omega⟩
   by_cases u:j=i
   ·subst u;rw [aC o,aC m,this]
   ·exact d j (by omega)
 ·have:l=l2:=List.ext_getElem? fun j=>by
   by_cases k:j<l.length
   ·exact d j (by omega)
   ·rw [aO (by omega),aO (by omega)]
  rw [decide_eq_true this] at hK
  exact hK
def Ic(l:List Ivl):Prop:=∀ x∈l,A4j x.1 x.2
def If{l:List Ivl}{n:Nat}(gl:Gl h)(x:SlV h A (l.flatMap F6))(hn:n=l.length)(hl:l.length<=1000000)(ht:∀ x∈l,x.1.length<=20/\x.2.length<=20)(hK1:Ic l->K (.bool true) h)(hK0:¬ Ic l->K (.bool false) h):aN prog Bw #[.slice A n c] h K:=by
 subst hn
 refine Zn _ _ _ ?_
 unfold Wp
 refine ⟨fun L r=>∃ i:Nat,i<=l.length/\L=[I (i:Int)]/\r=h/\∀ j (b:j<l.length),j<i->A4j l[j].1 l[j].2,fun L _=>l.length-(iAt L 0).toNat,⟨0,by omega,rfl,rfl,fun j _ b=>by omega⟩,?_⟩
 rintro z r ⟨i,M,E,rfl,o⟩
 obtain rfl:=sI1 E
 refine B4 (fun G=>?_) (fun B=>hK1 fun y F=>?_)
 ·have e:i<l.length:=by omega
  obtain ⟨a,s,c0,c1⟩:=Oi x e
  obtain ⟨D,H⟩:=ht _ (aG e)
  refine ⟨a,s,by omega,by omega,_,_,c0,c1,?_⟩
  refine T8 (m:=80) gl (Lx (k:=20) D (by omega) (by omega)) (Lx (k:=20) H (by omega) (by omega)) (by omega) (fun p q u w d=>⟨_,rfl,S5 ?_⟩) (fun g=>⟨_,rfl,S6 (hK0 fun x=>g (x _ (aG e)))⟩)
  rw [N1 (by omega)]
  refine ⟨⟨i+1,by omega,rfl,rfl,fun j b J=>?_⟩,by simp only [Km];omega⟩
  by_cases C:j=i
  ·subst C;exact ⟨p,q,u,w,d⟩
  ·exact o j b (by omega)
 ·obtain ⟨j,b,rfl⟩:=List.getElem_of_mem F
  exact o j b (by omega)
def A1a{i:Nat}(pa:aY h A ts)(hts:ts.length<=1000000)(hi:∀ t,t<ts.length->i<(tm ts t).2.length)(hK:∀ most:Int,0<=most->(∀ t,t<ts.length->(tm ts t).2.getD i 0<=most)->(∀ B:Int,0<=B->(∀ t,t<ts.length->(tm ts t).2.getD i 0<=B)->most<=B)->K (I most) h):aN prog Bg #[.agg #[I vars,.slice A ts.length c],I (i:Int)] h K:=by
 refine Pv _ _ _ _ _ ?_
 unfold Me
 refine ⟨fun L o=>∃ (k:Nat) (most:Int),k<=ts.length/\L=[I most,I (k:Int)]/\o=h/\0<=most/\(∀ t,t<k->(tm ts t).2.getD i 0<=most)/\(∀ B:Int,0<=B->(∀ t,t<k->(tm ts t).2.getD i 0<=B)->most<=B),fun L _=>ts.length-(iAt L 1).toNat,⟨0,0,by omega,rfl,rfl,by omega,fun t j=>by omega,fun B e _=>e⟩,?_⟩
 rintro m z o ⟨k,most,H,p,rfl,r,n,e⟩
 simp only [aL,aK,true_and,and_true] at p
 obtain ⟨rfl,rfl⟩:=p
 refine B4 (fun C=>?_) (fun E=>hK m r (fun t j=>n t (by omega)) fun B l g=>e B l fun t j=>g t (by omega))
 have b:k<ts.length:=by omega
 obtain ⟨a,D,d,F,G,w,y⟩:=pa k b
 have q:=hi k b
 refine ⟨a,F,by omega,by omega,_,_,_,_,G,w,?_⟩
 refine y.load rfl (by omega) (by omega) ?_
 rw [aD,N1 (by omega)]
 generalize hx:(tm ts k).2.getD i 0=x at *
 refine ⟨⟨k+1,if x>m then x else m,by omega,rfl,rfl,by split<;>omega,fun t j=>?_,fun B l g=>?_⟩,?_⟩
 ·by_cases u:t=k
  ·subst u;rw [hx];split<;>omega
  ·have:=n t (by omega);split<;>omega
 ·have J:=e B l fun t j=>g t (by omega)
  have s:=g k (by omega)
  rw [hx] at s
  split<;>omega
 ·show ts.length-((k+1:Nat):Int).toNat<ts.length-(k:Int).toNat
  omega
end
structure I2 where
 a:QV
 b:QV
instance:Enc I2:=⟨⟨fun x=>[.bool x.a.s,.slice x.a.A x.a.n x.a.c,.bool x.a.s2,.slice x.a.A2 x.a.n2 x.a.c2,.bool x.b.s,.slice x.b.A x.b.n x.b.c,.bool x.b.s2,.slice x.b.A2 x.b.n2 x.b.c2],8,fun _=>rfl,fun x v hv=>by simp at hv;rcases hv with rfl|rfl|rfl|rfl|rfl|rfl|rfl|rfl<;>rfl⟩⟩
structure RT where
 w:QV
 B:Option aJ
 n:Nat
 c:Nat
instance:Enc RT:=⟨⟨fun x=>[.bool x.w.s,.slice x.w.A x.w.n x.w.c,.bool x.w.s2,.slice x.w.A2 x.w.n2 x.w.c2,.slice x.B x.n x.c],5,fun _=>rfl,fun x v hv=>by simp at hv;rcases hv with rfl|rfl|rfl|rfl|rfl<;>rfl⟩⟩
abbrev I2r:aF->I2->Rat × Rat->Prop:=fun h w x=>NQ h w.a x.1/\NQ h w.b x.2
def B3f:Mon I2r:=fun _ _ _ _ l i=>⟨NQ.mono l i.1,NQ.mono l i.2⟩
abbrev RTr:aF->RT->U6->Prop:=fun h w t=>NQ h w.w (rv t.1)/\w.n=t.2.length/\SlI .i64 h w.B t.2
def B3e:Mon RTr:=fun _ _ _ _ l i=>⟨NQ.mono l i.1,i.2.1,i.2.2.mono l⟩
def bxQ(l:List Ivl)(i:Nat):Rat × Rat:=(rv (l.getD i ([],[])).1,rv (l.getD i ([],[])).2)
section
variable {h:aF} {K:VP} {A B:Option aJ} {ts:List U6} {vars:Int} {c:Nat}
def Cg{l:List Ivl}{n:Nat}(x:SlV h A (l.flatMap F6))(hn:n=l.length)(hl:l.length<=1000000)(ht:∀ x∈l,x.1.length<=20/\x.2.length<=20)(hK1:Ic l->∀ A' c' h',h.le h'->RowV I2r h' A' l.length (bxQ l)->K (.tuple #[.slice A' l.length c',.bool true]) h')(hK0:¬ Ic l->∀ h',h.le h'->K (.tuple #[.slice none 0 0,.bool false]) h'):aN prog Ee #[.slice A n c] h K:=by
 subst hn
 refine A27 _ _ _ ?_
 unfold A28
 refine ⟨fun L D=>∃ (k:Nat) (g o:aF) (d:List I2) (A':Option aJ) (c':Nat),k<=l.length/\L=[.slice A' k c',I (k:Int)]/\h.le g/\Sep D g o/\OwnSl o A05 A' c' d/\d.length=k/\Row I2r g d k (bxQ l)/\∀ j (e:j<l.length),j<k->A4j l[j].1 l[j].2,fun L _=>l.length-(iAt L 1).toNat,
  ⟨0,h,Oh,[],none,0,by omega,rfl,B3 _,Sep.refl h,OwnSl.nil,rfl,Row.nil,fun j _ e=>by omega⟩,?_⟩
 rintro oA on oc z D ⟨k,g,o,d,A',c',hk,eL,u,s,S,b,Q,N⟩
 obtain ⟨⟨rfl,rfl,rfl⟩,rfl⟩:=sI2 eL
 refine B4 (fun aa=>?_) (fun ab=>?_)
 ·have r:on<l.length:=by omega
  obtain ⟨a,e1,c0,c1⟩:=Oi x r
  obtain ⟨t1,t2⟩:=ht _ (aG r)
  have i:=A0 u s.le
  refine ⟨a,e1,by omega,by omega,_,_,D4 i c0,D4 i c1,?_⟩
  refine s.call (A37 (m:=80) (by omega) (by omega) (Pg t1 (by omega)) (Pg t2 (by omega)) (by omega) (fun p q V T H F J g2 C Z n2 W M=>⟨_,_,_,_,_,_,_,_,_,_,_,_,_,_,_,_,_,rfl,S5 ?_⟩) (fun E F J g2 C W M=>⟨_,_,_,_,_,_,_,_,_,_,_,_,_,_,_,_,_,rfl,S6 (hK0 (fun y=>E (y _ (aG r))) W (A0 u (A0 C M.le)))⟩))
  refine A4f (ty:=A88) C3p M S b.symm (y:=(⟨F,J⟩:I2)) rfl (by decide) (by omega) (by omega) ?_
  intro A3 c3 h3 R o3 B s3 G _
  rw [b,N1 (by omega)]
  refine ⟨⟨on+1,R,o3,_,A3,c3,by omega,rfl,A0 u (A0 C B),s3,G,by rw [aH,b];rfl,?_,fun j e X=>?_⟩,?_⟩
  ·have rA:Row I2r R d d.length (bxQ l):=by rw [b];exact Q.mono B3f (A0 C B)
   have O:=rA.push (w:=(⟨F,J⟩:I2)) (by
    rw [b]
    have e4:bxQ l on=(p,q):=by
     unfold bxQ
     rw [aE,aC r]
     show (rv l[on].1,rv l[on].2)=_
     rw [V,T,C7,C7]
    rw [e4]
    exact ⟨NQ.mono B Z,NQ.mono B n2⟩)
   rw [aH,b] at O
   exact O
  ·by_cases ej:j=on
   ·subst ej;exact ⟨p,q,V,T,H⟩
   ·exact N j e (by omega)
  ·show l.length-((on+1:Nat):Int).toNat<l.length-(on:Int).toNat
   omega
 ·obtain rfl:on=l.length:=by omega
  refine hK1 (fun y hy=>?_) oA oc D (A0 u s.le) ⟨d,S.slF s.ole,b,Q.mono B3f s.le⟩
  obtain ⟨j,e,rfl⟩:=List.getElem_of_mem hy
  exact N j e e
def PrI(h:aF)(ts:List U6)(vars:Int)(L:List aT)(hp:aF):Prop:=∃ (k:Nat) (g o:aF) (ws:List RT) (A':Option aJ) (c':Nat) (u0:Int) (u1A:Option aJ) (u1n u1c:Nat),k<=ts.length/\L=[I (k:Int),I u0,.slice u1A u1n u1c,I vars,.slice A' k c']/\h.le g/\Sep hp g o/\OwnSl o W4 A' c' ws/\ws.length=k/\Row RTr g ws k (tm ts)/\∀ j,j<k->B8r vars ts j
def B54{g o:aF}{ws:List RT}{n:Nat}(s:Sep h g o)(ow:OwnSl o W4 A c ws)(hwl:ws.length=n)(hn:n<=1000){w:QV}{D:Option aJ}{n1 d:Nat}{K:Option aJ->Nat->Nat->aF->Prop}(k:∀ A' c' h' g' o',g.le g'->Sep h' g' o'->OwnSl o' W4 A' c' (ws++[(⟨w,D,n1,d⟩:RT)])->K A' (n+1) c' h'):
 wpH prog (aZ Am 1 #[(0,.agg #[.bool w.s,.slice w.A w.n w.c,.bool w.s2,.slice w.A2 w.n2 w.c2,.slice D n1 d])]) (fun v hp=>∃ (B:Option aJ) (m e:Nat),v= .slice B m e/\Heap.le h hp/\wpH prog (bD #[Am,Am] Am #[.slice A n c,.slice B m e]) (fun v1 hp1=>∃ (A':Option aJ) (n' c':Nat),v1= .slice A' n' c'/\K A' n' c' hp1) hp) h:=by
 subst hwl
 exact OwnSl.push (ty:=Am) B6p s ow (y:=(⟨w,D,n1,d⟩:RT)) rfl (by decide) (by omega) (by omega) (K1:=fun i=>Heap.le h i) (fun _ l=>l) fun A' c' h' g' o' l b a _=>k A' c' h' g' o' l b a
def A0t(pa:aY h A ts)(hts:ts.length<=1000)(hc:∀ i,i<ts.length->(tm ts i).1.length<=100000000)(hK1:WfOk vars ts->∀ A' c' h',h.le h'->RowV RTr h' A' ts.length (tm ts)->K (.tuple #[.agg #[I vars,.slice A' ts.length c'],.bool true]) h')(hK0:¬ WfOk vars ts->∀ h',h.le h'->K (.tuple #[.agg #[I 0,.slice none 0 0],.bool false]) h'):aN prog Rw #[.agg #[I vars,.slice A ts.length c]] h K:=by
 refine A7g _ _ _ _ ?_
 unfold B1g
 refine B4 (fun e=>hK0 (fun x=>by have:=x.lo;omega) h (B3 _)) (fun e0=>B4 (fun e=>hK0 (fun x=>by have:=x.hi;omega) h (B3 _)) (fun e6=>?_))
 refine ⟨PrI h ts vars,fun L _=>ts.length-(iAt L 0).toNat,
  ⟨0,h,Oh,[],none,0,0,none,0,0,by omega,rfl,B3 _,Sep.refl h,OwnSl.nil,rfl,Row.nil,fun j hj=>by omega⟩,?_⟩
 rintro z aj aa T ab M oA on oc hp ⟨k,g,o,ws,A',c',C,m,n,p,hk,eL,Q,s,ow,r,rr,hh⟩
 simp only [aL,aK,aS,true_and,and_true] at eL
 obtain ⟨rfl,rfl,⟨rfl,rfl,rfl⟩,rfl,rfl,rfl,rfl⟩:=eL
 refine B4 (fun ar=>?_) (fun ao=>?_)
 ·have u:on<ts.length:=by omega
  have ae:=A0 Q s.le
  obtain ⟨a,D,d,G,e2,N,e4⟩:=pa on u
  refine ⟨a,G,by omega,by omega,_,D4 ae e2,?_⟩
  refine s.call (Cu (hc on u) (fun q eq w g2 S nq h2 R=>⟨_,_,_,_,_,_,_,_,_,rfl,S5 ?_⟩) (fun ac w g2 S h2 R=>⟨_,_,_,_,_,_,_,_,_,rfl,S6 (hK0 (fun y=>?_) h2 (A0 Q (A0 S R.le)))⟩))
  ·have b:=A0 Q (A0 S R.le)
   have F:∀ {hq:aF},h.le hq->¬ TermOk M (tm ts on)->K (.tuple #[.agg #[I 0,.slice none 0 0],.bool false]) hq:=fun l x=>hK0 (fun y=>x (y.all on u).1) _ l
   refine Uz (nq.mono R.le) ⟨_,rfl,B3 _,D9 (fun e=>F b fun y=>?_) (fun e=>?_)⟩
   ·obtain ⟨q',E,e7⟩:=y.num
    rw [eq] at E
    have e8:q=q':=by rw [<- C7 q,<- C7 q',E]
    rw [Int.sign_eq_zero_iff_zero] at e
    exact e7 (by rw [<- e8];exact Rat.num_eq_zero.1 e)
   ·refine ⟨a,G,by omega,by omega,_,_,_,D4 b N,N8 (fun E=>F b fun y=>E y.len) (fun E=>?_)⟩
    have ah:q≠0:=fun x=>e (by rw [x];rfl)
    refine ⟨fun L ak=>∃ j:Nat,j<=(tm ts on).2.length/\(∃ (C:Int) (m:Option aJ) (n p:Nat),L=[I (j:Int),I C,.slice m n p])/\ak=h2/\∀ B,B<j->0<=(tm ts on).2.getD B 0/\(tm ts on).2.getD B 0<=1048576,fun L _=>(tm ts on).2.length-(iAt L 0).toNat,⟨0,by omega,⟨_,_,_,_,rfl⟩,rfl,fun j hj=>by omega⟩,?_⟩
    rintro z2 w0 aw av aq al ⟨j,hj,⟨C,m,n,p,Z⟩,rfl,hx⟩
    simp only [aL,aK,aS,true_and,and_true] at Z
    obtain ⟨rfl,rfl,rfl,rfl,rfl⟩:=Z
    have J:=e4.mono b
    refine B4 (fun an=>?_) (fun am=>?_)
    ·have ai:j<(tm ts on).2.length:=by omega
     refine ⟨a,G,by omega,by omega,_,_,_,D4 b N,?_⟩
     refine J.load rfl (by omega) (by omega) ?_
     rw [aD]
     have nb:¬ (0<=(tm ts on).2.getD j 0/\(tm ts on).2.getD j 0<=1048576)->K (.tuple #[.agg #[I 0,.slice none 0 0],.bool false]) al:=fun x=>F b fun y=>x (y.exps _ (Kn ai))
     refine B4 (fun e8=>nb (by omega)) (fun e8=>⟨a,G,by omega,by omega,_,_,_,D4 b N,?_⟩)
     refine J.load rfl (by omega) (by omega) ?_
     rw [aD]
     refine B4 (fun e9=>nb (by omega)) (fun e9=>?_)
     rw [N1 (by omega)]
     refine ⟨⟨j+1,by omega,⟨_,_,_,_,rfl⟩,rfl,fun B X=>?_⟩,by simp only [Km];omega⟩
     by_cases ej:B=j
     ·rw [ej];exact ⟨by omega,by omega⟩
     ·exact hx B (by omega)
    ·have ok:TermOk M (tm ts on):=⟨⟨q,eq,ah⟩,E,Vo fun B X=>hx B (by omega)⟩
     have V:B8r M ts on->∀ (C:Int) (m:Option aJ) (n p:Nat) (A':Option aJ) (c':Nat) (h' O o':aF),g2.le O->Sep h' O o'->OwnSl o' W4 A' c' (ws++[(⟨w,D,(tm ts on).2.length,d⟩:RT)])->PrI h ts M [I (B5 ((on:Int)+1)),I C,.slice m n p,I M,.slice A' (on+1) c'] h'/\ts.length-(iAt [I (B5 ((on:Int)+1)),I C,.slice m n p,I M,.slice A' (on+1) c'] 0).toNat<ts.length-(iAt [I (on:Int),I aj,.slice aa T ab,I M,.slice oA on oc] 0).toNat:=by
      intro ad C m n p A' c' h' O o' l' s' af
      rw [N1 (by omega)]
      refine ⟨⟨on+1,O,o',_,A',c',C,m,n,p,by omega,rfl,A0 Q (A0 S l'),s',af,by rw [aH,r];rfl,?_,fun B X=>?_⟩,by simp only [Km];omega⟩
      ·have rA:Row RTr O ws ws.length (tm ts):=by rw [r];exact rr.mono B3e (A0 S l')
       have rB:=rA.push (w:=(⟨w,D,(tm ts on).2.length,d⟩:RT)) (by
        rw [r]
        refine ⟨?_,rfl,e4.mono (A0 Q (A0 S l'))⟩
        show NQ O w (rv (tm ts on).1)
        rw [eq,C7]
        exact NQ.mono l' nq)
       rw [aH,r] at rB
       exact rB
      ·by_cases ej:B=on
       ·rw [ej];exact ad
       ·exact hh B (by omega)
     refine B4 (fun au=>?_) (fun ap=>⟨a,G,by omega,by omega,_,_,_,D4 b N,B54 R ow r (by omega) (V ⟨ok,fun h0=>by omega⟩ _ _ _ _)⟩)
     have ek:B5 ((on:Int)-1)=((on-1:Nat):Int):=by rw [B6]<;>omega
     obtain ⟨a',D',d',f1,f2,f3,f4⟩:=pa (on-1) (by omega)
     have W:=(hh (on-1) (by omega)).1
     have H:(tm ts (on-1)).2.length=(tm ts on).2.length:=by have:=W.len;have:=ok.len;omega
     rw [ek]
     refine ⟨a',f1,by omega,by omega,_,_,_,D4 b f3,a,G,by omega,by omega,_,_,_,D4 b N,?_⟩
     refine A36 H (W.exb (by omega)) (ok.exb (by omega)) (f4.mono b) J ⟨_,rfl,B3 _,B4 (fun ag=>hK0 (fun y=>?_) _ b) (fun ag=>⟨a,G,by omega,by omega,_,_,_,D4 b N,B54 R ow r (by omega) (V ⟨ok,fun h0=>by omega⟩ _ _ _ _)⟩)⟩
     have:=(y.all on u).2 (by omega)
     omega
  ·obtain ⟨q',E,_⟩:=(y.all on u).1.num
   exact ac ⟨q',E⟩
 ·obtain rfl:on=ts.length:=by omega
  exact hK1 ⟨by omega,by omega,hh⟩ oA oc hp (A0 Q s.le) ⟨ws,ow.slF s.ole,r,rr.mono B3e s.le⟩
def A3e(pa:aY h A ts)(hts:ts.length<=1000)(hc:∀ i,i<ts.length->(tm ts i).1.length<=100000000)(hK1:Io vars ts->∀ A' c' h',h.le h'->RowV RTr h' A' ts.length (tm ts)->K (.tuple #[.agg #[I vars,.slice A' ts.length c'],.bool true]) h')(hK0:¬ Io vars ts->∀ h',h.le h'->K (.tuple #[.agg #[I 0,.slice none 0 0],.bool false]) h'):aN prog Yh #[.agg #[I vars,.slice A ts.length c]] h K:=by
 refine B1f _ _ _ _ ?_
 unfold B61
 refine B4 (fun e=>by omega) (fun _=>?_)
 refine A0t pa hts hc (fun wf A' c' h' d j=>⟨_,_,_,_,_,rfl,S5 ?_⟩) (fun n h' d=>⟨_,_,_,_,_,rfl,S6 (hK0 (fun y=>n y.1) h' d)⟩)
 refine B4 (fun m=>?_) (fun m=>hK1 ⟨wf,fun q=>by omega⟩ A' c' h' d j)
 obtain ⟨a,w,o,⟨r,k,p⟩,b⟩:=RowV.at (by decide) j (i:=0) (by omega)
 have l:=b 4 _ rfl
 refine ⟨a,o,by omega,by omega,_,_,_,l,?_⟩
 rw [k]
 refine A35 p ⟨_,rfl,S7 (Br.of (fun g=>hK1 ⟨wf,fun _=>g⟩ A' c' h' d j) (fun g=>hK0 (fun y=>?_) h' d))⟩
 have:=y.2 (by omega)
 rw [this] at g;cases g
end
section
variable {h:aF} {lo hi x:List UInt8}
end
def Br.t{b:Bool}{A B:Prop}(hb:b=true)(x:A):Br b A B:=by subst hb;exact x
def Br.f{b:Bool}{A B:Prop}(hb:b=false)(x:B):Br b A B:=by subst hb;exact x
def C1s{m:Nat}{p q r s:Rat}(hp:Sz m p)(hq:Sz m q)(hr:Sz m r)(hs:Sz m s):Sz (m+m) (Nb p q r s)/\Sz (m+m) (Nc p q r s):=by
 have a:∀ t∈[p*s,q*r,q*s],Sz (m+m) t:=by
  intro t b
  simp only [List.mem_cons,List.not_mem_nil,or_false] at b
  rcases b with rfl|rfl|rfl
  ·exact hp.mul hs
  ·exact hq.mul hr
  ·exact hq.mul hs
 exact ⟨(hp.mul hr).mnL a,(hp.mul hr).mxL a⟩
def eq2(a b:List UInt8):((bs a).toList==(bs a).toList&&((bs b).toList==(bs b).toList&&true))=true:=by simp
section
variable {h:aF} {K:VP} {m:Nat} {lo hi x lo2 hi2:List UInt8}
end
def tmE(es:List Int)(f:Nat->Rat × Rat)(c:Rat):Nat->Rat × Rat
 | 0=>(c,c)
 | k+1=>(Nb (tmE es f c k).1 (tmE es f c k).2 (Aa (f k).1 (f k).2 (es.getD k 0).toNat) (Ab (f k).1 (f k).2 (es.getD k 0).toNat),Nc (tmE es f c k).1 (tmE es f c k).2 (Aa (f k).1 (f k).2 (es.getD k 0).toNat) (Ab (f k).1 (f k).2 (es.getD k 0).toNat))
def evE(ts:List U6)(f:Nat->Rat × Rat)(n:Nat):Nat->Rat × Rat
 | 0=>(0,0)
 | i+1=>((evE ts f n i).1+(tmE (tm ts i).2 f (rv (tm ts i).1) n).1,(evE ts f n i).2+(tmE (tm ts i).2 f (rv (tm ts i).1) n).2)
def B9a{a b c d:Rat}:Nb a b c d<=Nc a b c d:=Rat.le_trans (B9e [a*d,b*c,b*d] (a*c)).1 (B9f [a*d,b*c,b*d] (a*c)).1
def B52(es:List Int)(f:Nat->Rat × Rat)(c:Rat):∀ k,(tmE es f c k).1<=(tmE es f c k).2
 | 0=>Rat.le_refl
 | _+1=>B9a
def A53{a b:Rat}(h:a<=b):Nb a b 1 1=a/\Nc a b 1 1=b:=by
 unfold Nb Nc
 simp only [Rat.mul_one,Qa,Pz,A9c,A99]
 constructor
 ·unfold mn;grind
 ·unfold mx;grind
def A0u(a b:Rat):Aa a b 0=1/\Ab a b 0=1:=by
 unfold Aa Ab
 rw [iN (by omega),iN (by omega),Rat.pow_zero,Rat.pow_zero]
 exact ⟨by unfold mn;split<;>rfl,by unfold mx;split<;>rfl⟩
def B2t{es:List Int}{f:Nat->Rat × Rat}{c:Rat}{k:Nat}(h:(es.getD k 0).toNat=0):tmE es f c (k+1)=tmE es f c k:=by
 show (Nb _ _ _ _,Nc _ _ _ _)=_
 rw [h,(A0u _ _).1,(A0u _ _).2,(A53 (B52 es f c k)).1,(A53 (B52 es f c k)).2]
def C1o{m k:Nat}{a b:Rat}(hm:1<=m)(ha:Sz m a)(hb:Sz m b):Sz (m*k+1) (Aa a b k)/\Sz (m*k+1) (Ab a b k):=by
 have g:=ha.pow hm k
 have i:=hb.pow hm k
 have d:Sz (m*k+1) 0:=Sz.zero (by omega)
 unfold Aa Ab
 constructor
 ·split
  ·exact Sz.mnL d fun q c=>by simp at c;rcases c with rfl|rfl<;>assumption
  ·rcases B9d (a^k) (b^k) with e|e<;>rw [e]<;>assumption
 ·split
  ·exact Sz.mxL d fun q c=>by simp at c;rcases c with rfl|rfl<;>assumption
  ·rcases B99 (a^k) (b^k) with e|e<;>rw [e]<;>assumption
structure SmE (ts:List U6) (f:Nat->Rat × Rat) (n:Nat):Prop where
 len:ts.length<=5
 n6:n<=6
 coef:∀ i,i<ts.length->Sz 32 (rv (tm ts i).1)
 elen:∀ i,i<ts.length->(tm ts i).2.length=n
 exps:∀ i,i<ts.length->∀ k,k<n->0<=(tm ts i).2.getD k 0/\(tm ts i).2.getD k 0<=6
 box:∀ k,k<n->Sz 80 (f k).1/\Sz 80 (f k).2
def SmE.pow{ts:List U6}{f:Nat->Rat × Rat}{n:Nat}(s:SmE ts f n){e k:Nat}(hk:k<n)(he:e<=6):Sz 481 (Aa (f k).1 (f k).2 e)/\Sz 481 (Ab (f k).1 (f k).2 e):=by
 obtain ⟨a,b⟩:=s.box k hk
 obtain ⟨c,d⟩:=C1o (k:=e) (by omega) a b
 exact ⟨c.mono (by omega),d.mono (by omega)⟩
def SmE.tm{ts:List U6}{f:Nat->Rat × Rat}{n:Nat}(s:SmE ts f n){i:Nat}(hi:i<ts.length):∀ k,k<=n->Sz (481*2^k) (tmE (Go.Proofs.YtmbfcbbkbefgfaaGreatDoor.tm ts i).2 f (rv (Go.Proofs.YtmbfcbbkbefgfaaGreatDoor.tm ts i).1) k).1/\Sz (481*2^k) (tmE (Go.Proofs.YtmbfcbbkbefgfaaGreatDoor.tm ts i).2 f (rv (Go.Proofs.YtmbfcbbkbefgfaaGreatDoor.tm ts i).1) k).2:=by
 intro k
 induction k with
 | zero=>exact fun _=>⟨(s.coef i hi).mono (by omega),(s.coef i hi).mono (by omega)⟩
 | succ k ih=>
  intro l
  obtain ⟨d,c⟩:=ih (by omega)
  have a:481<=481*2^k:=aU 481 (Nat.pow_pos (by decide))
  have j:=s.exps i hi k (by omega)
  obtain ⟨g,b⟩:=s.pow (e:=((Go.Proofs.YtmbfcbbkbefgfaaGreatDoor.tm ts i).2.getD k 0).toNat) (k:=k) (by omega) (by omega)
  have e:481*2^(k+1)=481*2^k+481*2^k:=by rw [Nat.pow_succ];omega
  rw [e]
  exact C1s d c (g.mono a) (b.mono a)
def Ra{k:Nat}(h:k<=6):481*2^k<=30784:=Nat.le_trans (Nat.mul_le_mul_left 481 (Nat.pow_le_pow_right (by decide) h)) (by decide)
def SmE.ev{ts:List U6}{f:Nat->Rat × Rat}{n:Nat}(s:SmE ts f n):∀ i,i<=ts.length->Sz (1+i*30785) (evE ts f n i).1/\Sz (1+i*30785) (evE ts f n i).2:=by
 intro i
 induction i with
 | zero=>exact fun _=>⟨Sz.zero (by omega),Sz.zero (by omega)⟩
 | succ i ih=>
  intro g
  obtain ⟨b,a⟩:=ih (by omega)
  obtain ⟨c,d⟩:=s.tm (i:=i) (by omega) n (aX n)
  have e:=Ra s.n6
  exact ⟨(b.add c).mono (by omega),(a.add d).mono (by omega)⟩
section
variable {h:aF} {K:VP} {A B:Option aJ} {ts:List U6} {c bc n:Nat} {f:Nat->Rat × Rat}
def A0p(sm:SmE ts f n)(rt:RowV RTr h A ts.length (tm ts))(bx:RowV I2r h B n f)(hK:∀ w1 w2 h',h.le h'->NQ h' w1 (evE ts f n ts.length).1->NQ h' w2 (evE ts f n ts.length).2->K (iv8 w1 w2) h'):aN prog Ru #[.agg #[I (n:Int),.slice A ts.length c],.slice B n bc] h K:=by
 refine A7c _ _ _ _ _ _ _ ?_
 unfold B17
 have ac:=sm.len
 have T:=sm.n6
 refine ⟨fun L D=>∃ (i:Nat) (w1 w2:QV),i<=ts.length/\L=[I (i:Int),.bool w1.s,.slice w1.A w1.n w1.c,.bool w1.s2,.slice w1.A2 w1.n2 w1.c2,.bool w2.s,.slice w2.A w2.n w2.c,.bool w2.s2,.slice w2.A2 w2.n2 w2.c2]/\h.le D/\NQ D w1 (evE ts f n i).1/\NQ D w2 (evE ts f n i).2,fun L _=>ts.length-(iAt L 0).toNat,⟨0,⟨false,none,0,0,false,none,0,0⟩,⟨false,none,0,0,false,none,0,0⟩,by omega,rfl,B3 _,NQ.zero,NQ.zero⟩,?_⟩
 rintro z o0 ak au a2 o2 a1 an aw o4 ah ae az o6 ao a4 a6 D ⟨i,w1,w2,hi,G,l,n1,n2⟩
 simp only [aL,aK,Value.bool.injEq,aS,true_and,and_true] at G
 obtain ⟨rfl,rfl,⟨rfl,rfl,rfl⟩,rfl,⟨rfl,rfl,rfl⟩,rfl,⟨rfl,rfl,rfl⟩,rfl,⟨rfl,rfl,rfl⟩⟩:=G
 refine B4 (fun a5=>?_) (fun ag=>?_)
 ·have u:i<ts.length:=by omega
  obtain ⟨a,w,X,⟨m1,m2,m3⟩,r⟩:=RowV.at (by decide) (rt.mono B3e l) u
  have x:∀ j v,(enc w)[j]? = some v->D.cell? (aM (aM (aM a (i*5)) 0) j)=some v:=fun j v hv=>by
   rw [show aM (aM a (i*5)) 0=aM a (i*5) by rw [Sx]]
   exact r j v hv
  refine ⟨a,X,by omega,by omega,_,_,_,_,_,_,_,_,x 0 _ rfl,x 1 _ rfl,x 2 _ rfl,x 3 _ rfl,a,X,by omega,by omega,_,_,_,_,_,_,_,_,x 0 _ rfl,x 1 _ rfl,x 2 _ rfl,x 3 _ rfl,?_⟩
  refine ⟨fun L C=>∃ (k:Nat) (o p:QV),k<=n/\L=[I (k:Int),.bool o.s,.slice o.A o.n o.c,.bool o.s2,.slice o.A2 o.n2 o.c2,.bool p.s,.slice p.A p.n p.c,.bool p.s2,.slice p.A2 p.n2 p.c2]/\D.le C/\NQ C o (tmE (tm ts i).2 f (rv (tm ts i).1) k).1/\NQ C p (tmE (tm ts i).2 f (rv (tm ts i).1) k).2,fun L _=>n-(iAt L 0).toNat,⟨0,w.w,w.w,by omega,rfl,B3 _,m1,m1⟩,?_⟩
  rintro z p0 af aj ai p2 a3 ax av p4 a7 al a0 p6 ar ay aq am ⟨k,o,p,hk,G,E,x1,x2⟩
  simp only [aL,aK,Value.bool.injEq,aS,true_and,and_true] at G
  obtain ⟨rfl,rfl,⟨rfl,rfl,rfl⟩,rfl,⟨rfl,rfl,rfl⟩,rfl,⟨rfl,rfl,rfl⟩,rfl,⟨rfl,rfl,rfl⟩⟩:=G
  have H:=A0 l E
  refine B4 (fun ab=>?_) (fun aa=>?_)
  ·have q:k<n:=by omega
   obtain ⟨b,y,eb,⟨y1,y2⟩,g⟩:=RowV.at (by decide) (bx.mono B3f H) q
   have ad:k<(tm ts i).2.length:=by rw [sm.elen i u];exact q
   have ap:=sm.exps i u k q
   refine ⟨b,eb,by omega,by omega,_,_,_,_,_,_,_,_,_,_,_,_,_,_,_,_,g 0 _ rfl,g 1 _ rfl,g 2 _ rfl,g 3 _ rfl,g 4 _ rfl,g 5 _ rfl,g 6 _ rfl,g 7 _ rfl,a,X,by omega,by omega,_,_,_,D4 E (r 4 _ rfl),?_⟩
   rw [m2]
   refine (m3.mono E).load rfl (by omega) (by omega) ?_
   rw [aD]
   obtain ⟨e,he⟩:∃ e:Nat,(tm ts i).2.getD k 0=(e:Int):=⟨((tm ts i).2.getD k 0).toNat,by omega⟩
   obtain ⟨b1,b2⟩:=sm.box k q
   rw [he]
   refine A0q (a:=y.a) (b:=y.b) (m:=80) y1 y2 b1 b2 (by omega) (by omega) (by omega) (by omega) ?_
   intro u1 u2 h2 O q1 q2
   obtain ⟨V,S⟩:=sm.tm u k (by omega)
   obtain ⟨p1,p2⟩:=sm.pow (e:=e) q (by omega)
   have F:481<=481*2^k:=aU 481 (Nat.pow_pos (by decide))
   have W:=Ra (show k<=6 by omega)
   refine ⟨_,_,_,_,_,_,_,_,_,_,_,_,_,_,_,_,rfl,O,?_⟩
   refine A0n (a:=o) (b:=p) (c:=u1) (d:=u2) (m:=481*2^k) (NQ.mono O x1) (NQ.mono O x2) q1 q2 V S (p1.mono F) (p2.mono F) (by omega) ?_
   intro N J Z M R Q
   rw [N1 (by omega)]
   refine ⟨_,_,_,_,_,_,_,_,_,_,_,_,_,_,_,_,rfl,M,⟨k+1,N,J,by omega,rfl,A0 E (A0 O M),?_,?_⟩,by simp only [Km];omega⟩
   ·show NQ Z N (Nb _ _ (Aa _ _ ((tm ts i).2.getD k 0).toNat) (Ab _ _ ((tm ts i).2.getD k 0).toNat))
    rw [he];exact R
   ·show NQ Z J (Nc _ _ (Aa _ _ ((tm ts i).2.getD k 0).toNat) (Ab _ _ ((tm ts i).2.getD k 0).toNat))
    rw [he];exact Q
  ·obtain rfl:k=n:=by omega
   obtain ⟨V,S⟩:=sm.tm u k (aX k)
   obtain ⟨s1,s2⟩:=sm.ev i (by omega)
   have W:=Ra T
   refine A38 (a:=w1) (b:=w2) (c:=o) (d:=p) (m:=400000) (NQ.mono E n1) (NQ.mono E n2) x1 x2 (s1.mono (by omega)) (s2.mono (by omega)) (V.mono (by omega)) (S.mono (by omega)) (by omega) ?_
   intro N J Z M R Q
   rw [N1 (by omega)]
   exact ⟨_,_,_,_,_,_,_,_,_,_,_,_,_,_,_,_,rfl,⟨i+1,N,J,by omega,rfl,A0 H M,R,Q⟩,by simp only [Km];omega⟩
 ·obtain rfl:i=ts.length:=by omega
  exact hK w1 w2 D l n1 n2
end
structure Hd where
 A:Option aJ
 n:Nat
 c:Nat
instance:Enc Hd:=⟨⟨fun s=>[.slice s.A s.n s.c],1,fun _=>rfl,fun s v hv=>by rw [List.mem_singleton.1 hv];rfl⟩⟩
instance:Enc Ivl:=⟨⟨fun x=>[.string (bs x.1),.string (bs x.2)],2,fun _=>rfl,fun x v hv=>by simp at hv;rcases hv with rfl|rfl<;>rfl⟩⟩
abbrev IVr:aF->Ivl->Rat × Rat->Prop:=fun _ w x=>w=(E4 x.1,E4 x.2)
def B75:Mon IVr:=fun _ _ _ _ _ i=>i
def Sep.giveR{α β:Type}[E:Enc α]{R:aF->α->β->Prop}(m:Mon R){h g o:aF}{ys:List α}{bb n:Nat}{f:Nat->β}(s:Sep h g o)(rb:RowB o bb ys)(hy:ys.length=n)(rr:Row R g ys n f):∃ g2,g.le g2/\Sep h g2 (o.without bb)/\RowV R g2 (some ⟨bb,0,none⟩) n f:=by
 have a:(o.without bb).le o:=fun k x e=>by
  by_cases b:k=bb
  ·subst b
   have:Heap.without o k k=none:=K4 _ _
   rw [this] at e;cases e
  ·unfold Heap.without at e;rw [iN b] at e;exact e
 obtain ⟨g2,c,d⟩:=s.give a
 obtain ⟨e,ex,j⟩:=rb
 have i:g2 bb=some (.cells (ys.flatMap enc++ex).toArray e):=by
  rw [<- d.rest bb (K4 _ _)]
  exact s.own _ _ j
 exact ⟨g2,c,d,ys,RowB.slF (o:=g2) ⟨e,ex,i⟩ (B3 _),hy,rr.mono m c⟩
def pwF(f:Nat->Rat × Rat)(i:Nat):Nat->Rat × Rat:=fun e=>(Aa (f i).1 (f i).2 e,Ab (f i).1 (f i).2 e)
def PwRow(ts:List U6)(f:Nat->Rat × Rat)(g:aF)(hds:List Hd)(i:Nat):Prop:=∃ s,hds[i]? = some s/\(∀ t,t<ts.length->(tm ts t).2.getD i 0<s.n)/\RowV IVr g s.A s.n (pwF f i)
def PwRow.mono{ts:List U6}{f:Nat->Rat × Rat}{g g':aF}{hds:List Hd}{i:Nat}(l:g.le g')(p:PwRow ts f g hds i):PwRow ts f g' hds i:=by
 obtain ⟨s,e,a,b⟩:=p
 exact ⟨s,e,a,b.mono B75 l⟩
def B7m{l:List Ivl}(ok:Ic l){i:Nat}(hi:i<l.length):l[i].1=E4 (bxQ l i).1/\l[i].2=E4 (bxQ l i).2:=by
 obtain ⟨p,q,a,b,_⟩:=ok _ (aG hi)
 unfold bxQ
 rw [aE,aC hi]
 show l[i].1=E4 (rv l[i].1)/\l[i].2=E4 (rv l[i].2)
 rw [a,b,C7,C7]
 exact ⟨rfl,rfl⟩
section
variable {h:aF} {K:VP} {A B:Option aJ} {ts:List U6} {vars:Int} {c bc:Nat} {l:List Ivl}
def Oj{x:List UInt8}(hK:K (ivT x x) h):aN prog Lb #[.string (bs x)] h K:=by
 refine A7v _ ?_
 unfold B25
 exact hK
def Ub(gl:Gl h)(pa:aY h A ts)(x:SlV h B (l.flatMap F6))(hts:ts.length<=5)(hcl:∀ i,i<ts.length->(tm ts i).1.length<=8)(hex:∀ i,i<ts.length->∀ j,j<(tm ts i).2.length->(tm ts i).2.getD j 0<=6)(hl:l.length<=8)(ht:∀ x∈l,x.1.length<=20/\x.2.length<=20)
 (hK1:¬ (Io vars ts/\Ic l)->K (.tuple #[ivE,I 1]) h) (hK4:Io vars ts->Ic l->(l.length:Int)≠vars->K (.tuple #[ivE,I 4]) h)
 (hK0:Io vars ts->Ic l->(l.length:Int)=vars->SmE ts (bxQ l) l.length->∀ h',h.le h'->K (.tuple #[ivS (evE ts (bxQ l) l.length ts.length).1 (evE ts (bxQ l) l.length ts.length).2,I 0]) h'):aN prog Gk #[.agg #[I vars,.slice A ts.length c],.slice B l.length bc] h K:=by
 refine Zq _ _ _ _ _ _ _ ?_
 unfold Ws
 refine A0v gl.tz pa (by omega) (fun i r=>by have:=hcl i r;omega) (fun po=>⟨_,rfl,S5 ?_⟩) (fun no=>⟨_,rfl,S6 (hK1 fun y=>no y.1)⟩)
 refine If gl x rfl (by omega) ht (fun bo=>⟨_,rfl,S5 ?_⟩) (fun no=>⟨_,rfl,S6 (hK1 fun y=>no y.2)⟩)
 refine N8 (fun e=>hK4 po bo e) (fun en=>?_)
 obtain ⟨wf,_⟩:=id po
 have bi:=wf.hi
 have b:∀ i,i<ts.length->(tm ts i).2.length=l.length:=fun i r=>by have:=(wf.all i r).1.len;omega
 have sm:SmE ts (bxQ l) l.length:=⟨hts,by omega,fun i r=>Pg (k:=8) (hcl i r) (by omega),b,fun i r k hk=>⟨((wf.all i r).1.exps _ (Kn (by rw [b i r];exact hk))).1,hex i r k (by rw [b i r];exact hk)⟩,fun k hk=>by
  obtain ⟨S,Q⟩:=ht _ (aG hk)
  unfold bxQ
  rw [aE,aC hk]
  exact ⟨Pg (k:=20) S (by omega),Pg (k:=20) Q (by omega)⟩⟩
 have N:=hK0 po bo en sm
 clear hK0 hK1 hK4
 obtain ⟨f,hf⟩:∃ f,f=bxQ l:=⟨_,rfl⟩
 obtain ⟨n,hn⟩:∃ n,n=l.length:=⟨_,rfl⟩
 have bt:=fun {i:Nat} (r:i<l.length)=>B7m bo r
 rw [<- hf,<- hn] at sm N
 rw [<- hf] at bt
 rw [<- hn]
 have a5:=sm.n6
 refine Xs C1k (zx:=(⟨none,0,0⟩:Hd)) rfl (by omega) (by omega) (by omega) (by omega) ?_
 intro bp ax
 simp only [aD]
 have s0:=(Sep.refl h).new ax (.cells ((bF n (⟨none,0,0⟩:Hd)).flatMap enc).toArray Hi)
 refine ⟨_,_,_,rfl,fun L W=>∃ (k:Nat) (g o:aF) (p:List Hd),k<=n/\L=[I (k:Int)]/\h.le g/\Sep W g o/\RowX o bp p/\p.length=n/\∀ i,i<k->PwRow ts f g p i,fun L _=>n-(iAt L 0).toNat,⟨0,h,_,_,by omega,rfl,B3 _,s0,RowX.mk,List.length_replicate,fun i r=>by omega⟩,?_⟩
 clear s0
 rintro z ao ⟨k,g,o,p,hk,eL,Z,s,rx,ba,C⟩
 obtain rfl:=sI1 eL
 refine B4 (fun bg=>?_) (fun a1=>?_)
 ·have ay:k<n:=by omega
  have H:k<l.length:=by omega
  have w:=A0 Z s.le
  obtain ⟨a,ea,c0,c1⟩:=Oi x H
  refine ⟨a,ea,by omega,by omega,_,_,D4 w c0,D4 w c1,?_⟩
  refine s.call (A1a (pa.mono Z) (by omega) (fun t E=>by rw [b t E];exact H) (fun F h0 a4 bf h4 s4=>⟨_,rfl,?_⟩))
  have bm:F<=6:=bf 6 (by omega) fun t E=>hex t E k (by rw [b t E];exact H)
  obtain ⟨e,he⟩:∃ e:Nat,F=(e:Int):=⟨F.toNat,by omega⟩
  subst he
  rw [N1 (by omega)]
  refine Xs B6q (zx:=(([],[]):Ivl)) rfl (by omega) (by omega) (by omega) (by omega) ?_
  intro G V
  simp only [aD]
  have fr:bp≠G:=by
   rintro rfl
   obtain ⟨e1,aw⟩:=rx
   rw [s4.own _ _ aw] at V;cases V
  have s5:=s4.new V (.cells ((bF (e+1) (([],[]):Ivl)).flatMap enc).toArray J7)
  refine ⟨_,_,_,rfl,_,rfl,by omega,by omega,?_⟩
  refine Wb A8k (y:=(⟨some ⟨G,0,none⟩,e+1,e+1⟩:Hd)) rfl s5 (rx.other fr _) (i:=k) (by omega) ?_
  intro h6 o6 x6 an s6 X
  have ad:RowX o6 G (bF (e+1) (([],[]):Ivl)):=by
   rw [an]
   exact RowX.mk.other fr.symm _
  have am:(p.set k (⟨some ⟨G,0,none⟩,e+1,e+1⟩:Hd))[k]? = some ⟨some ⟨G,0,none⟩,e+1,e+1⟩:=bI (by omega)
  have aq:∀ {hq gq oq:aF},Sep hq gq oq->RowX oq bp (p.set k (⟨some ⟨G,0,none⟩,e+1,e+1⟩:Hd))->hq.cell? (aM ⟨bp,0,none⟩ (((k:Int)).toNat*1))=some (.slice (some ⟨G,0,none⟩) (e+1) (e+1)):=fun sq rq=>by
   have h1:=RowB.cell rq.rowB (i:=k) (by rw [aI];omega) (j:=0) (v:=.slice (some ⟨G,0,none⟩) (e+1) (e+1)) (by rw [List.getElem_set_self];rfl)
   rw [I0]
   have h2:=sq.cell h1
   rw [aD,Nat.zero_add]
   exact h2
  refine ⟨_,rfl,by omega,by omega,_,_,_,aq s6 X,?_⟩
  refine ⟨fun L W=>∃ (j:Nat) (g' o':aF) (ys:List Ivl),j<=e+1/\L=[I (j:Int)]/\g.le g'/\Sep W g' o'/\RowX o' bp (p.set k (⟨some ⟨G,0,none⟩,e+1,e+1⟩:Hd))/\RowX o' G ys/\ys.length=e+1/\Row IVr g' ys j (pwF f k),fun L _=>e+1-(iAt L 0).toNat,⟨0,g,o6,_,by omega,rfl,B3 _,s6,X,ad,List.length_replicate,Row.nil⟩,?_⟩
  clear ad X s6 s5 an
  rintro z2 bl ⟨j,g7,o7,ys,hj,J,l7,s7,T,al,au,ak⟩
  obtain rfl:=sI1 J
  refine B4 (fun aa=>?_) (fun ab=>?_)
  ·have bj:j<e+1:=by omega
   obtain ⟨S,Q⟩:=bt H
   obtain ⟨b1,a6⟩:=sm.box k ay
   refine ⟨_,rfl,by omega,by omega,_,_,_,aq s7 T,?_⟩
   rw [S,Q]
   refine s7.call (Vm (k:=j) (m:=80) (gl.mono (A0 Z l7)) b1 a6 (by omega) (by omega) (by omega) (by omega) ?_)
   intro h8 s8
   refine ⟨_,_,rfl,s7.le_le s8 (B3 _),_,rfl,by omega,by omega,?_⟩
   refine Wb B2z (y:=((E4 (Aa (f k).1 (f k).2 j),E4 (Ab (f k).1 (f k).2 j)):Ivl)) rfl s8 al (i:=j) (by omega) ?_
   intro h9 o9 x9 a3 s9 az
   rw [N1 (by omega)]
   refine ⟨⟨j+1,g7,o9,_,by omega,rfl,l7,s9,?_,az,by rw [aI];exact au,ak.set (by omega) rfl⟩,by simp only [Km];omega⟩
   rw [a3];exact T.other fr _
  ·obtain rfl:j=e+1:=by omega
   obtain ⟨g8,l8,s8,a0⟩:=s7.giveR B75 al.rowB au ak
   rw [N1 (by omega)]
   refine ⟨⟨k+1,g8,_,_,by omega,rfl,A0 Z (A0 l7 l8),s8,T.keep (fun x e=>by unfold Heap.without;rw [iN fr];exact e),by rw [aI];exact ba,fun i r=>?_⟩,by simp only [Km];omega⟩
   by_cases ei:i=k
   ·subst ei
    exact ⟨_,am,fun t E=>by have:=a4 t E;show _<((e+1:Nat):Int);omega,a0⟩
   ·obtain ⟨s9,e9,h9,r9⟩:=C i (by omega)
    exact ⟨s9,by rw [List.getElem?_set_ne (fun x=>ei x.symm)];exact e9,h9,r9.mono B75 (A0 l7 l8)⟩
 obtain rfl:k=n:=by omega
 have w:=A0 Z s.le
 have ah:=gl.mono w
 have be:=pa.mono w
 have ar:=rx.rowB.slF s.ole
 have pw:∀ i,i<k->PwRow ts f ao p i:=fun i r=>(C i r).mono s.le
 clear C rx s Z
 show aN _ _ #[.string (bs [48])] _ _
 refine Oj ?_
 have e0:([48]:List UInt8)=E4 0:=B2q.symm
 refine ⟨_,_,rfl,fun L W=>∃ i:Nat,i<=ts.length/\L=[I (i:Int),.string (bs (E4 (evE ts f k i).1)),.string (bs (E4 (evE ts f k i).2))]/\W=ao,fun L _=>ts.length-(iAt L 0).toNat,⟨0,by omega,by rw [e0];rfl,rfl⟩,?_⟩
 rintro z u0 u1 M ⟨i,r,eL,rfl⟩
 simp only [aL,aK,Value.string.injEq,true_and,and_true] at eL
 obtain ⟨rfl,rfl,rfl⟩:=eL
 refine B4 (fun bg=>?_) (fun a1=>?_)
 ·have u:i<ts.length:=by omega
  obtain ⟨a,D,d,e1,e2,e3,e4⟩:=be i u
  refine ⟨a,e1,by omega,by omega,_,_,_,_,e2,e3,Oj ?_⟩
  obtain ⟨q,eq,_⟩:=(wf.all i u).1.num
  have ec:(tm ts i).1=E4 (rv (tm ts i).1):=by rw [eq,C7]
  refine ⟨_,_,rfl,fun L W=>∃ j:Nat,j<=k/\L=[I (j:Int),.string (bs (E4 (tmE (tm ts i).2 f (rv (tm ts i).1) j).1)),.string (bs (E4 (tmE (tm ts i).2 f (rv (tm ts i).1) j).2))]/\W=M,fun L _=>k-(iAt L 0).toNat,⟨0,by omega,by rw [show tmE (tm ts i).2 f (rv (tm ts i).1) 0=(rv (tm ts i).1,rv (tm ts i).1) from rfl,<- ec];rfl,rfl⟩,?_⟩
  rintro z2 p0 p1 bh ⟨j,hj,J,rfl⟩
  simp only [aL,aK,Value.string.injEq,true_and,and_true] at J
  obtain ⟨rfl,rfl,rfl⟩:=J
  have bk:=b i u
  refine B4 (fun aa=>?_) (fun ab=>?_)
  ·have R:j<k:=by omega
   refine e4.load rfl (by omega) (by omega) ?_
   rw [aD]
   have hx:=sm.exps i u j R
   refine B4 (fun av=>?_) (fun av=>?_)
   ·obtain ⟨e,he⟩:∃ e:Nat,(tm ts i).2.getD j 0=(e:Int):=⟨((tm ts i).2.getD j 0).toNat,by omega⟩
    obtain ⟨sd,ap,af,a2⟩:=pw j R
    have ai:=af i u
    obtain ⟨a7,bb,ag⟩:=SlF.at (by decide) ar (i:=j) (by omega)
    have aj:p[j]'(by omega)=sd:=by rw [aC (by omega)] at ap;exact aW ap
    rw [aj] at ag
    have O:=ag 0 _ rfl
    rw [Sx] at O
    rw [he] at ai ⊢
    obtain ⟨a8,w8,bd,ac,ae⟩:=RowV.at (by decide) a2 (i:=e) (by omega)
    change w8=_ at ac
    subst ac
    refine ⟨a7,bb,by omega,by omega,_,_,_,O,a8,bd,by omega,by omega,_,_,ae 0 _ rfl,ae 1 _ rfl,?_⟩
    obtain ⟨S,Q⟩:=sm.tm u j (by omega)
    obtain ⟨p1,p2⟩:=sm.pow (e:=e) R (by omega)
    have C:481<=481*2^j:=aU 481 (Nat.pow_pos (by decide))
    have a9:=Ra (show j<=6 by omega)
    refine Vn (m:=481*2^j) ah S Q (p1.mono C) (p2.mono C) (by omega) ?_
    rw [N1 (by omega)]
    refine ⟨_,_,rfl,B3 _,⟨j+1,by omega,?_,rfl⟩,by simp only [Km];omega⟩
    show _=[I _,.string (bs (E4 (Nb _ _ (Aa _ _ ((tm ts i).2.getD j 0).toNat) (Ab _ _ ((tm ts i).2.getD j 0).toNat)))),.string (bs (E4 (Nc _ _ (Aa _ _ ((tm ts i).2.getD j 0).toNat) (Ab _ _ ((tm ts i).2.getD j 0).toNat))))]
    rw [he]
    rfl
   ·rw [N1 (by omega)]
    exact ⟨⟨j+1,by omega,by rw [B2t (show ((tm ts i).2.getD j 0).toNat=0 by omega)],rfl⟩,by simp only [Km];omega⟩
  ·obtain rfl:j=k:=by omega
   obtain ⟨S,Q⟩:=sm.tm u j (aX j)
   obtain ⟨s1,s2⟩:=sm.ev i (by omega)
   have a9:=Ra a5
   refine A6n (m:=400000) ah (s1.mono (by omega)) (s2.mono (by omega)) (S.mono (by omega)) (Q.mono (by omega)) (by omega) ?_
   rw [N1 (by omega)]
   exact ⟨_,_,rfl,⟨i+1,by omega,rfl,rfl⟩,by simp only [Km];omega⟩
 ·obtain rfl:i=ts.length:=by omega
  exact N M w
end
def A2l(l:List Ivl):List (List UInt8):=l.flatMap fun x=>[x.1,x.2]
def Hk(l:List Ivl):(A2l l).flatMap enc=l.flatMap F6:=by
 induction l with
 | nil=>rfl
 | cons x l ih=>
  show ([x.1,x.2]++A2l l).flatMap enc=F6 x++l.flatMap F6
  rw [List.flatMap_append,ih]
  rfl
def B30(l:List Ivl):(A2l l).length=l.length*2:=by
 induction l with
 | nil=>rfl
 | cons x l ih=>
  show ([x.1,x.2]++A2l l).length=_
  rw [aH,ih,List.length_cons]
  show 2+l.length*2=(l.length+1)*2
  omega
def A0f(v:List UInt8):∀ (l:List Ivl) (i:Nat) (_:i<l.length),(A2l l).set (i*2+1) v=A2l (l.set i ((l.getD i ([],[])).1,v))
 | x::l,0,_=>rfl
 | x::l,i+1,h=>by
  have ih:=A0f v l i (by simpa using h)
  show (x.1::x.2::A2l l).set ((i+1)*2+1) v=x.1::x.2::A2l (l.set i ((l.getD i ([],[])).1,v))
  rw [show (i+1)*2+1=(i*2+1)+1+1 by omega,aP,aP,ih]
def A0g(v:List UInt8):∀ (l:List Ivl) (i:Nat) (_:i<l.length),(A2l l).set (i*2) v=A2l (l.set i (v,(l.getD i ([],[])).2))
 | x::l,0,_=>rfl
 | x::l,i+1,h=>by
  have ih:=A0g v l i (by simpa using h)
  show (x.1::x.2::A2l l).set ((i+1)*2) v=x.1::x.2::A2l (l.set i (v,(l.getD i ([],[])).2))
  rw [show (i+1)*2=(i*2)+1+1 by omega,aP,aP,ih]
def Sep.grabE{h g o:aF}(s:Sep h g o){b:Nat}{x:Obj}(hb:g b=some x):Sep h (g.without b) (o.put b x):=by
 have c:o b=none:=by
  cases ho:o b with
  | none=>rfl
  | some y=>rw [s.dis b y ho] at hb;cases hb
 refine ⟨fun k y e=>?_,fun k e=>?_,fun k y e=>?_⟩
 ·by_cases a:k=b
  ·subst a
   rw [C4] at e;cases e
   exact s.le k _ hb
  ·rw [B7 _ _ a] at e;exact s.own k y e
 ·by_cases a:k=b
  ·subst a;rw [C4] at e;cases e
  ·rw [B7 _ _ a] at e
   unfold Heap.without
   rw [iN a];exact s.rest k e
 ·by_cases a:k=b
  ·subst a;exact K4 _ _
  ·rw [B7 _ _ a] at e
   unfold Heap.without
   rw [iN a];exact s.dis k y e
def Px{h g:aF}{b:Nat}(l:h.le g)(hb:h b=none):h.le (g.without b):=fun k x e=>by
 have a:k≠b:=by rintro rfl;rw [hb] at e;cases e
 unfold Heap.without
 rw [iN a];exact l k x e
def B8s(l:List Ivl)(i:Int)(x:List UInt8):Prop:=0<=i/\i<(l.length:Int)/\(rv (l.getD i.toNat ([],[])).1<=rv x/\rv x<=rv (l.getD i.toNat ([],[])).2)
def SplO(l:List Ivl)(i:Int)(x:List UInt8)(l1 l2:List Ivl)(e:Int):Prop:=
 (¬ (Ic l/\IsNum x)/\l1=[]/\l2=[]/\e=1)\/(Ic l/\IsNum x/\¬ B8s l i x/\l1=[]/\l2=[]/\e=3)\/(Ic l/\IsNum x/\B8s l i x/\l1=l.set i.toNat ((l.getD i.toNat ([],[])).1,x)/\l2=l.set i.toNat (x,(l.getD i.toNat ([],[])).2)/\e=0)
def SplO.eq{l:List Ivl}{i:Int}{x:List UInt8}{l1 l2 m1 m2:List Ivl}{e f:Int}(a:SplO l i x l1 l2 e)(b:SplO l i x m1 m2 f):l1=m1/\l2=m2/\e=f:=by
 rcases a with ⟨a1,rfl,rfl,rfl⟩|⟨a1,a2,a3,rfl,rfl,rfl⟩|⟨a1,a2,a3,rfl,rfl,rfl⟩<;>rcases b with ⟨b1,rfl,rfl,rfl⟩|⟨b1,b2,b3,rfl,rfl,rfl⟩|⟨b1,b2,b3,rfl,rfl,rfl⟩<;>first
 | exact ⟨rfl,rfl,rfl⟩
 | exact absurd ⟨b1,b2⟩ a1
 | exact absurd ⟨a1,a2⟩ b1
 | exact absurd b3 a3
 | exact absurd a3 b3
section
variable {h:aF} {K:VP} {A B:Option aJ} {bc:Nat} {l:List Ivl} {x:List UInt8}
def Uw{h1 g1 h2 g2:aF}{A1 A2:Option aJ}{c1 c2 i:Nat}(hi:i<l.length)(l1:h.le g1)(p1:PrivF h1 g1 J7 A1 c1 l)(l2:h1.le g2)(p2:PrivF h2 g2 J7 A2 c2 l)(hl:l.length<=1000){K0:aF->Prop}
 (hK:∀ h',h.le h'->SlV h' A1 ((l.set i ((l.getD i ([],[])).1,x)).flatMap F6)->SlV h' A2 ((l.set i (x,(l.getD i ([],[])).2)).flatMap F6)->K0 h'):
 ∃ a1,A1=some a1/\0<=(i:Int)/\(i:Int)<((l.length:Nat):Int)/\wpH prog (Instr.storeAt R2 (.pointer (some (aM (aM a1 (((i:Int)).toNat*2)) 1))) (.string (bs x))) (fun _ hp5=>∃ a2,A2=some a2/\0<=(i:Int)/\(i:Int)<((l.length:Nat):Int)/\wpH prog (Instr.storeAt R2 (.pointer (some (aM (aM a2 (((i:Int)).toNat*2)) 0))) (.string (bs x))) (fun _ hp6=>K0 hp6) hp5) h2:=by
 have j:l≠[]:=by rintro rfl;simp at hi
 obtain ⟨b,r,rfl,d,rfl,O,G⟩:=A26 p1 j
 obtain ⟨k,C,rfl,o,rfl,N,D⟩:=A26 p2 j
 have c:g2 b=some r:=l2 _ _ (C4 _ _ _)
 have a:b≠k:=by rintro rfl;rw [o] at c;cases c
 have q:h b=none:=by
  cases e:h b with
  | none=>rfl
  | some y=>rw [l1 _ _ e] at d;cases d
 have w:h.le (g2.without b):=Px (A0 l1 (A0 (Heap.le_put _ d) l2)) q
 have sg:=N.grabE c
 have J:RowB ((Oh.put k C).put b r) b (A2l l):=by
  obtain ⟨e,ex,n⟩:=G
  rw [C4] at n
  refine ⟨e,ex,?_⟩
  rw [C4,n,Hk];rfl
 have E:RowB ((Oh.put k C).put b r) k (A2l l):=by
  obtain ⟨e,ex,n⟩:=D
  refine ⟨e,ex,?_⟩
  rw [B7 _ _ a.symm,n,Hk];rfl
 have B:=B30 l
 refine ⟨_,rfl,by omega,by omega,?_⟩
 rw [I0,I0,aD]
 refine Sep.store Od (y:=x) rfl sg J (i:=i*2+1) (by omega) (by show 0+i*2+1=(i*2+1)*1;omega) ?_
 intro R H S A L p
 refine ⟨_,rfl,by omega,by omega,?_⟩
 rw [I0,I0]
 have s:RowB H k (A2l l):=by rw [A];exact E.other a.symm _
 refine Sep.store Od (y:=x) rfl L s (i:=i*2) (by omega) (by show 0+i*2+0=i*2*1;omega) ?_
 intro M F Q z u g
 have m:RowB F b ((A2l l).set (i*2+1) x):=by rw [z];exact p.other a _
 rw [A0f x l i hi] at m
 rw [A0g x l i hi] at g
 refine hK M (A0 w u.le) ?_ ?_
 ·have:=m.slF u.ole
  rw [<- Hk];exact this
 ·have:=g.slF u.ole
  rw [<- Hk];exact this
def Rk(y:SlV h B (l.flatMap F6))(hne:l≠[])(hl:l.length<=1000)(hK:∀ A' c' h' g',h.le g'->PrivF h' g' J7 A' c' l->K (.slice A' l.length c') h'):aN prog Lc #[.slice B l.length bc] h K:=by
 refine A7x _ _ _ ?_
 unfold B28
 obtain ⟨a,rfl,_⟩:=Oi y (i:=0) (List.length_pos_iff.2 hne)
 refine Br.of (fun e=>by cases e) (fun _=>Rf B6q ?_)
 intro b g
 have c:=Heap.le_put (h:=h) (.cells #[] J7) g
 refine ⟨_,_,_,rfl,Dj (α:=Ivl) B6q (PrivF.nil _ J7 (some ⟨b,0,none⟩)) (ys:=l) rfl (y.mono c) (by simp;omega) (by simp;omega) ?_⟩
 intro A' c' h' g' d p
 rw [bC] at p ⊢
 exact ⟨_,_,_,rfl,hK A' c' h' g' (A0 c d) p⟩
def A3n{i:Int}(gl:Gl h)(y:SlV h B (l.flatMap F6))(hl:l.length<=1000)(ht:∀ x∈l,x.1.length<=20/\x.2.length<=20)(hx:x.length<=20)(hK:∀ l1 l2 e,SplO l i x l1 l2 e->∀ A1 c1 A2 c2 h',h.le h'->SlV h' A1 (l1.flatMap F6)->SlV h' A2 (l2.flatMap F6)->K (.tuple #[.slice A1 l1.length c1,.slice A2 l2.length c2,I e]) h'):aN prog La #[.slice B l.length bc,I i,.string (bs x)] h K:=by
 refine A7u _ _ _ _ _ ?_
 unfold B22
 have g:¬ (Ic l/\IsNum x)->K (.tuple #[.slice none 0 0,.slice none 0 0,I 1]) h:=fun e=>hK [] [] 1 (.inl ⟨e,rfl,rfl,rfl⟩) none 0 none 0 h (B3 _) SlV.nil SlV.nil
 refine If gl y rfl (by omega) ht (fun s=>⟨_,rfl,S5 ?_⟩) (fun d=>⟨_,rfl,S6 (g fun z=>d z.1)⟩)
 refine Cr gl (by omega) (fun u=>⟨_,rfl,S5 ?_⟩) (fun d=>⟨_,rfl,S6 (g fun z=>d z.2)⟩)
 have c:¬ B8s l i x->K (.tuple #[.slice none 0 0,.slice none 0 0,I 3]) h:=fun e=>hK [] [] 3 (.inr (.inl ⟨s,u,e,rfl,rfl,rfl⟩)) none 0 none 0 h (B3 _) SlV.nil SlV.nil
 refine B4 (fun e=>c fun z=>by have:=z.1;omega) (fun e0=>B4 (fun e=>c fun z=>by have:=z.2.1;omega) (fun e1=>?_))
 obtain ⟨k,rfl⟩:∃ k:Nat,i=(k:Int):=⟨i.toNat,by omega⟩
 have b:k<l.length:=by omega
 obtain ⟨a,W,c0,c1⟩:=Oi y b
 obtain ⟨N,T⟩:=ht _ (aG b)
 have A:l.getD ((k:Int)).toNat ([],[])=l[k]:=by rw [aD,aE,aC b];rfl
 refine ⟨a,W,by omega,by omega,_,_,c0,c1,?_⟩
 refine Uc (m:=80) gl (Lx (k:=20) N (by omega) (by omega)) (Lx (k:=20) T (by omega) (by omega)) (Lx (k:=20) hx (by omega) (by omega)) (by omega) (fun p q r o n j J V=>⟨_,rfl,S5 ?_⟩) (fun d=>⟨_,rfl,S6 (c fun z=>d ?_)⟩)
 ·have w:B8s l (k:Int) x:=⟨by omega,by omega,by rw [A,o,n,j,C7,C7,C7];exact ⟨J,V⟩⟩
  refine Rk y (by rintro rfl;simp at b) hl ?_
  intro A1 M h3 X F G
  have C:=A0 F G.le
  refine ⟨_,_,_,rfl,Rk (y.mono C) (by rintro rfl;simp at b) hl ?_⟩
  intro A2 R Z g4 Q H
  refine ⟨_,_,_,rfl,?_⟩
  refine Uw b F G Q H hl ?_
  intro h' O L S
  have:=hK _ _ 0 (.inr (.inr ⟨s,u,w,rfl,rfl,rfl⟩)) A1 M A2 R h' O L S
  rw [aI,aI] at this
  exact this
 ·obtain ⟨p,q,o,n,_⟩:=s _ (aG b)
  obtain ⟨r,j⟩:=u
  obtain ⟨_,_,D,E⟩:=z
  rw [A,o,j,C7,C7] at D
  rw [A,n,j,C7,C7] at E
  exact ⟨p,q,r,o,n,j,D,E⟩
def A0o{i:Int}(y:SlV h B (l.flatMap F6))(hl:l.length<=1000)(ht:∀ x∈l,x.1.length<=20/\x.2.length<=20)(hx:x.length<=20)(hK:∀ l1 l2 e,SplO l i x l1 l2 e->∀ A1 c1 A2 c2 h',h.le h'->SlV h' A1 (l1.flatMap F6)->SlV h' A2 (l2.flatMap F6)->K (.tuple #[.slice A1 l1.length c1,.slice A2 l2.length c2,I e]) h'):aN prog Ks #[.slice B l.length bc,I i,.string (bs x)] h K:=by
 refine A7b _ _ _ _ _ ?_
 unfold B14
 have n:∀ {hq:aF},h.le hq->¬ (Ic l/\IsNum x)->K (.tuple #[.slice none 0 0,.slice none 0 0,I 1]) hq:=fun E e=>hK [] [] 1 (.inl ⟨e,rfl,rfl,rfl⟩) none 0 none 0 _ E SlV.nil SlV.nil
 refine Cg y rfl (by omega) ht (fun N A' c' Z l1 X=>⟨_,_,_,_,rfl,?_⟩) (fun o Z l1=>⟨_,_,_,_,rfl,?_⟩)
 ·refine Cu (by omega) (fun r q w A l2 S=>⟨_,_,_,_,_,_,_,_,_,rfl,S5 (S5 ?_)⟩) (fun o w A l2=>⟨_,_,_,_,_,_,_,_,_,rfl,S5 (S6 (n (A0 l1 l2) fun z=>o z.2))⟩)
  have g:=A0 l1 l2
  have O:IsNum x:=⟨r,q⟩
  have j:∀ {hq:aF},h.le hq->¬ B8s l i x->K (.tuple #[.slice none 0 0,.slice none 0 0,I 3]) hq:=fun E e=>hK [] [] 3 (.inr (.inl ⟨N,O,e,rfl,rfl,rfl⟩)) none 0 none 0 _ E SlV.nil SlV.nil
  refine B4 (fun e=>j g fun z=>by have:=z.1;omega) (fun e0=>B4 (fun e=>j g fun z=>by have:=z.2.1;omega) (fun e1=>?_))
  obtain ⟨k,rfl⟩:∃ k:Nat,i=(k:Int):=⟨i.toNat,by omega⟩
  have s:k<l.length:=by omega
  obtain ⟨t1,t2⟩:=ht _ (aG s)
  have eg:l.getD ((k:Int)).toNat ([],[])=l[k]:=by rw [aD,aE,aC s];rfl
  have p:l.getD k ([],[])=l[k]:=eg
  obtain ⟨b,u,eb,⟨u1,u2⟩,d⟩:=RowV.at (by decide) (X.mono B3f l2) s
  refine ⟨b,eb,by omega,by omega,_,_,_,_,_,_,_,_,_,_,_,_,_,_,_,_,d 0 _ rfl,d 1 _ rfl,d 2 _ rfl,d 3 _ rfl,d 4 _ rfl,d 5 _ rfl,d 6 _ rfl,d 7 _ rfl,?_⟩
  have z1:Sz 80 (bxQ l k).1:=by unfold bxQ;rw [p];exact Pg (k:=20) t1 (by omega)
  have z2:Sz 80 (bxQ l k).2:=by unfold bxQ;rw [p];exact Pg (k:=20) t2 (by omega)
  have z3:Sz 80 r:=by have:=Pg (k:=20) hx (by omega);rw [q,C7] at this;exact this
  refine Vc (a:=u.a) (b:=u.b) (c:=w) (m:=80) u1 u2 S z1 z2 z3 (by omega) (fun F C=>⟨_,rfl,B3 _,S5 ?_⟩) (fun o=>⟨_,rfl,B3 _,S6 (j g fun z=>o ?_)⟩)
  ·have G:B8s l (k:Int) x:=⟨by omega,by omega,by
    rw [aD,q,C7]
    exact ⟨F,C⟩⟩
   refine Rf B6q ?_
   intro b1 H
   have J:=Heap.le_put (h:=A) (.cells #[] J7) H
   refine ⟨_,_,_,rfl,Dj (α:=Ivl) B6q (PrivF.nil _ J7 (some ⟨b1,0,none⟩)) (ys:=l) rfl (y.mono (A0 g J)) (by simp;omega) (by simp;omega) ?_⟩
   intro A1 d1 h4 g4 T D
   rw [bC] at D ⊢
   refine ⟨_,_,_,rfl,Rf B6q ?_⟩
   intro b2 L
   have R:=Heap.le_put (h:=h4) (.cells #[] J7) L
   have M:=A0 g (A0 J (A0 T D.le))
   refine ⟨_,_,_,rfl,Dj (α:=Ivl) B6q (PrivF.nil _ J7 (some ⟨b2,0,none⟩)) (ys:=l) rfl (y.mono (A0 M R)) (by simp;omega) (by simp;omega) ?_⟩
   intro A2 d2 h6 g6 l6 Q
   rw [bC] at Q ⊢
   refine ⟨_,_,_,rfl,?_⟩
   refine Uw s (A0 g (A0 J T)) D (A0 R l6) Q hl ?_
   intro h' lh s1 s2
   have:=hK _ _ 0 (.inr (.inr ⟨N,O,G,rfl,rfl,rfl⟩)) A1 d1 A2 d2 h' lh s1 s2
   rw [aI,aI] at this
   exact this
  ·obtain ⟨_,_,V,W⟩:=z
   rw [aD,q,C7] at V W
   exact ⟨V,W⟩
 ·refine Cu (by omega) (fun r q w A l2 S=>⟨_,_,_,_,_,_,_,_,_,rfl,S6 (n (A0 l1 l2) fun z=>o z.1)⟩) (fun aa w A l2=>⟨_,_,_,_,_,_,_,_,_,rfl,S6 (n (A0 l1 l2) fun z=>o z.1)⟩)
end
section
variable {h:aF} {K:VP} {A B:Option aJ} {c bc:Nat} {l:List Ivl} {x:List UInt8} {ts:List U6} {vars:Int}
def EvO(ts:List U6)(vars:Int)(l:List Ivl)(a b:List UInt8)(e:Int):Prop:=
 (¬ (Io vars ts/\Ic l)/\a=[]/\b=[]/\e=1)\/(Io vars ts/\Ic l/\(l.length:Int)≠vars/\a=[]/\b=[]/\e=4)\/(Io vars ts/\Ic l/\(l.length:Int)=vars/\a=E4 (evE ts (bxQ l) l.length ts.length).1/\b=E4 (evE ts (bxQ l) l.length ts.length).2/\e=0)
def EvO.eq{ts:List U6}{vars:Int}{l:List Ivl}{a b a' b':List UInt8}{e e':Int}(x:EvO ts vars l a b e)(y:EvO ts vars l a' b' e'):a=a'/\b=b'/\e=e':=by
 rcases x with ⟨a1,rfl,rfl,rfl⟩|⟨a1,a2,a3,rfl,rfl,rfl⟩|⟨a1,a2,a3,rfl,rfl,rfl⟩<;>rcases y with ⟨b1,rfl,rfl,rfl⟩|⟨b1,b2,b3,rfl,rfl,rfl⟩|⟨b1,b2,b3,rfl,rfl,rfl⟩<;>first
 | exact ⟨rfl,rfl,rfl⟩
 | exact absurd ⟨b1,b2⟩ a1
 | exact absurd ⟨a1,a2⟩ b1
 | exact absurd b3 a3
 | exact absurd a3 b3
def Qt(pa:aY h A ts)(y:SlV h B (l.flatMap F6))(hts:ts.length<=5)(hcl:∀ i,i<ts.length->(tm ts i).1.length<=8)(hex:∀ i,i<ts.length->∀ j,j<(tm ts i).2.length->(tm ts i).2.getD j 0<=6)(hl:l.length<=8)(ht:∀ x∈l,x.1.length<=20/\x.2.length<=20)
 (hK:∀ a b e,EvO ts vars l a b e->∀ h',h.le h'->K (.tuple #[ivT a b,I e]) h'):aN prog X3 #[.agg #[I vars,.slice A ts.length c],.slice B l.length bc] h K:=by
 refine Ze _ _ _ _ _ _ _ ?_
 unfold Wc
 have S:∀ i,i<ts.length->(tm ts i).1.length<=100000000:=fun i g=>by have:=hcl i g;omega
 refine A3e pa (by omega) S (fun w A1 c1 F o L=>⟨_,_,_,_,_,rfl,?_⟩) (fun s F o=>⟨_,_,_,_,_,rfl,?_⟩)
 ·refine Cg (y.mono o) rfl (by omega) ht (fun u A2 c2 p n C=>⟨_,_,_,_,rfl,S5 (S5 ?_)⟩) (fun s p n=>⟨_,_,_,_,rfl,S5 (S6 ?_)⟩)
  ·have r:=A0 o n
   refine N8 (fun e=>hK [] [] 4 (.inr (.inl ⟨w,u,e,rfl,rfl,rfl⟩)) p r) (fun T=>?_)
   obtain ⟨wf,_⟩:=id w
   have E:=wf.hi
   have d:∀ i,i<ts.length->(tm ts i).2.length=l.length:=fun i g=>by have:=(wf.all i g).1.len;omega
   have sm:SmE ts (bxQ l) l.length:=⟨hts,by omega,fun i g=>Pg (k:=8) (hcl i g) (by omega),d,fun i g k q=>⟨((wf.all i g).1.exps _ (Kn (by rw [d i g];exact q))).1,hex i g k (by rw [d i g];exact q)⟩,fun k q=>by
    obtain ⟨M,Q⟩:=ht _ (aG q)
    unfold bxQ
    rw [aE,aC q]
    exact ⟨Pg (k:=20) M (by omega),Pg (k:=20) Q (by omega)⟩⟩
   subst T
   refine A0p sm (L.mono B3e n) C ?_
   intro V W N R D J
   obtain ⟨G,O⟩:=sm.ev ts.length (aX _)
   refine ⟨_,_,_,_,_,_,_,_,_,_,_,_,_,_,_,_,rfl,A0m (m:=400000) D J (G.mono (by omega)) (O.mono (by omega)) (by omega) ⟨_,_,rfl,hK _ _ 0 (.inr (.inr ⟨w,u,rfl,rfl,rfl,rfl⟩)) N (A0 r R)⟩⟩
  ·exact hK [] [] 1 (.inl ⟨fun z=>s z.2,rfl,rfl,rfl⟩) p (A0 o n)
 ·refine Cg (y.mono o) rfl (by omega) ht (fun u A2 c2 p n C=>⟨_,_,_,_,rfl,S6 ?_⟩) (fun H p n=>⟨_,_,_,_,rfl,S6 ?_⟩)
  ·exact hK [] [] 1 (.inl ⟨fun z=>s z.1,rfl,rfl,rfl⟩) p (A0 o n)
  ·exact hK [] [] 1 (.inl ⟨fun z=>s z.1,rfl,rfl,rfl⟩) p (A0 o n)
def law_eval{i:Int}(gl:Gl h)(pa:aY h A ts)(y:SlV h B (l.flatMap F6)):aN prog Gi #[.agg #[I vars,.slice A ts.length c],.slice B l.length bc,I i,.string (bs x)] h (B4u h):=by
 refine Pu _ _ _ _ _ _ _ _ _ ?_
 unfold Md
 have aw:∀ E,h.le E->aN prog V6 #[] E (fun r hp=>∃ t,r= .bool t/\B4u h (.bool t) hp):=fun E l=>A6w (gl.mono l) ⟨_,rfl,rfl,l⟩
 have g:=aw h (B3 _)
 refine Rg pa (fun G J=>⟨_,rfl,S5 ?_⟩) (fun _=>⟨_,rfl,S6 g⟩)
 refine A9j pa (by omega) (fun i S=>by have:=(J i S).2;omega) (fun _ F=>⟨_,rfl,S5 ?_⟩) (fun _=>⟨_,rfl,S6 g⟩)
 refine B4 (fun _=>g) (fun h8=>?_)
 refine A3k y rfl (by omega) (fun M=>⟨_,rfl,S5 ?_⟩) (fun _=>⟨_,rfl,S6 g⟩)
 rw [G7]
 refine B4 (fun _=>g) (fun hx=>?_)
 have z:∀ i,i<ts.length->(tm ts i).1.length<=8:=fun i S=>(J i S).1
 have u:∀ (a b:List UInt8) (e:Int),EvO ts vars l a b e->∀ m,h.le m->aN prog X3 #[.agg #[I vars,.slice A ts.length c],.slice B l.length bc] m (fun L k=>∃ (t52a0:ByteArray) (t52a1:ByteArray) (t52b:Int),L= .tuple #[.agg #[.string t52a0,.string t52a1],I t52b]/\t52a0=bs a/\t52a1=bs b/\t52b=e/\h.le k):=by
  intro a b e ho m w
  refine Qt (pa.mono w) (y.mono w) G z F (by omega) M ?_
  intro a' b' e' ab h2 l2
  obtain ⟨rfl,rfl,rfl⟩:=ho.eq ab
  exact ⟨_,_,_,rfl,rfl,rfl,rfl,A0 w l2⟩
 have q:∀ (a b:List UInt8) (e:Int),EvO ts vars l a b e->∀ m,h.le m->aN prog X3 #[.agg #[I vars,.slice A ts.length c],.slice B l.length bc] m (fun L k=>∃ (t52a0:ByteArray) (t52a1:ByteArray) (t52b:Int),L= .tuple #[.agg #[.string t52a0,.string t52a1],I t52b]/\aN prog La #[.slice B l.length bc,I i,.string (bs x)] k (fun O C=>∃ (t59aA:Option aJ) (t59an:Nat) (t59ac:Nat) (t59bA:Option aJ) (t59bn:Nat) (t59bc:Nat) (t59c:Int),O= .tuple #[.slice t59aA t59an t59ac,.slice t59bA t59bn t59bc,I t59c]/\aN prog Ks #[.slice B l.length bc,I i,.string (bs x)] C (fun T d=>∃ (t67aA:Option aJ) (t67an:Nat) (t67ac:Nat) (t67bA:Option aJ) (t67bn:Nat) (t67bc:Nat) (t67c:Int),T= .tuple #[.slice t67aA t67an t67ac,.slice t67bA t67bn t67bc,I t67c]/\Br ((aV (bs a)==aV t52a0)&&((aV (bs b)==aV t52a1)&&true)) (Br (e==t52b) (aN prog O3 #[.slice t59aA t59an t59ac,.slice t67aA t67an t67ac] d (fun ac o=>∃ (t82:Bool),ac= .bool t82/\Br t82 (aN prog O3 #[.slice t59bA t59bn t59bc,.slice t67bA t67bn t67bc] o (fun W j=>∃ (t87:Bool),W= .bool t87/\Br t87 (Br (t59c==t67c) (aN prog V6 #[] j (fun R H=>∃ (t95:Bool),R= .bool t95/\B4u h (.bool t95) H))
 (B4u h (.bool false) j))
 (B4u h (.bool false) j)))
 (B4u h (.bool false) o)))
 (B4u h (.bool false) d))
 (B4u h (.bool false) d)))):=by
  intro a b e ho m w
  refine FCall.mono (u a b e ho m w) ?_
  rintro L k ⟨t0,t1,t2,rfl,rfl,rfl,rfl,X⟩
  refine ⟨_,_,_,rfl,A3n (gl.mono X) (y.mono X) (by omega) M (by omega) ?_⟩
  intro Z Q f so A1 c1 A2 c2 ae V s1 s2
  have n:=A0 X V
  refine ⟨_,_,_,_,_,_,_,rfl,A0o (y.mono n) (by omega) M (by omega) ?_⟩
  intro m1 m2 f' aa A3 c3 A4 c4 ad s s3 s4
  obtain ⟨rfl,rfl,rfl⟩:=so.eq aa
  have D:=A0 n s
  have p:Z.length<=1000000/\Q.length<=1000000:=by
   rcases so with ⟨_,rfl,rfl,_⟩|⟨_,_,_,rfl,rfl,_⟩|⟨_,_,_,rfl,rfl,_⟩
   ·exact ⟨bA _,bA _⟩
   ·exact ⟨bA _,bA _⟩
   ·rw [aI,aI];omega
  refine ⟨_,_,_,_,_,_,_,rfl,?_⟩
  rw [Ew,Ew,decide_eq_true rfl,decide_eq_true rfl]
  refine Br.of (fun _=>D9 (fun _=>?_) (fun e=>absurd rfl e)) (fun e=>by cases e)
  refine Fy (s1.mono s) s3 rfl rfl p.1 ⟨_,rfl,?_⟩
  rw [decide_eq_true rfl]
  refine Br.of (fun _=>?_) (fun e=>by cases e)
  refine Fy (s2.mono s) s4 rfl rfl p.2 ⟨_,rfl,?_⟩
  rw [decide_eq_true rfl]
  exact Br.of (fun _=>D9 (fun _=>aw _ D) (fun e=>absurd rfl e)) (fun e=>by cases e)
 refine Ub gl pa y G z F (by omega) M (fun no=>⟨_,_,_,rfl,q [] [] 1 (.inl ⟨no,rfl,rfl,rfl⟩) h (B3 _)⟩) (fun po N en=>⟨_,_,_,rfl,q [] [] 4 (.inr (.inl ⟨po,N,en,rfl,rfl,rfl⟩)) h (B3 _)⟩) (fun po N en _ E l'=>⟨_,_,_,rfl,q _ _ 0 (.inr (.inr ⟨po,N,en,rfl,rfl,rfl⟩)) E l'⟩)
end
end Go.Proofs.YtmbfcbbkbefgfaaGreatDoor
namespace Go.Proofs.YtmbfcbbkbefgfaaGreatDoor
set_option maxRecDepth 20000
open Go Go.RowKit
def A40(s:ByteArray):bs s.data.toList=s:=by
 cases s;simp [bs]
def Ib:aT->List UInt8
 | .string s=>s.data.toList
 | _=>[]
def B94{W:World}{a:aJ}{n:Nat}{V0 V1:Nat->aT}(h:∀ i,i<n->(memOf W).cell? (a.add (i*2))=some (.string (bs (Ib (V0 i))))/\(memOf W).cell? (a.add (i*2+1))=some (.string (bs (Ib (V1 i))))):SlV (memOf W) (some a) (((aQ n).map fun i=>((Ib (V0 i),Ib (V1 i)):Ivl)).flatMap F6):=by
 refine .inr ⟨a,rfl,fun k v c=>?_⟩
 have d:=Vl ((aQ n).map fun i=>((Ib (V0 i),Ib (V1 i)):Ivl))
 rw [List.length_map,List.length_range] at d
 have q:k<n*2:=by
  by_cases p:k<n*2
  ·exact p
  ·rw [aO (by omega)] at c;cases c
 have l:k/2<n:=by omega
 have o:k%2<2:=Nat.mod_lt k (by decide)
 have g:=A16 ((aQ n).map fun i=>((Ib (V0 i),Ib (V1 i)):Ivl)) (i:=k/2) (by simpa using l) (j:=k%2) o
 rw [show k/2*2+k%2=k by omega,List.getElem_map,List.getElem_range] at g
 rw [g] at c
 obtain ⟨c0,c1⟩:=h (k/2) l
 by_cases e:k%2=0
 ·rw [e] at c
  have b:(.string (bs (Ib (V0 (k/2)))):aT)=v:=aW c
  rw [<- b,show k=k/2*2 by omega]
  rw [show k/2*2/2=k/2 by omega]
  exact c0
 ·have m:k%2=1:=by omega
  rw [m] at c
  have b:(.string (bs (Ib (V1 (k/2)))):aT)=v:=aW c
  rw [<- b]
  have:=c1
  rw [show k/2*2+1=k by omega] at this
  exact this
def open_ivs{H:Type}{enc:aR × aT->H}{P:Program}{W:World}{base:Nat}{sp:Nat->Bool}{held:Bool}{t e:aR}{f0 f1:Field}{fuel:Nat}{A:Option aJ}{len cap:Nat}{x:DataW H × List MemPlace}(ht:P.underlying t=some (.slice e))(he:P.underlying e=some (.struct #[f0,f1]))(u0:P.underlying f0.type=some .string)(u1:P.underlying f1.type=some .string)
 (hoff:(f0.offset=0/\f1.offset=1)/\P.cellsOf e=2/\P.cellsOf f0.type=1/\P.cellsOf f1.type=1)
 (hf:DataW.trod enc P W base sp held fuel t [.slice A len cap]=some x):∃ l:List Ivl,len=l.length/\SlV (memOf W) A (l.flatMap F6):=by
 obtain ⟨⟨s,y⟩,r,c0,c1⟩:=hoff
 rcases Deep.open_slice_pairs ht he r s y c0 c1 hf with ⟨b,_⟩|⟨a,l,c,m,n,V0,V1,D0,D1,P0,P1,b,_,D,_,k,_,d⟩
 ·simp at b
  obtain ⟨rfl,rfl,rfl⟩:=b
  exact ⟨[],rfl,SlV.nil⟩
 ·simp at b
  obtain ⟨rfl,rfl,rfl⟩:=b
  have B:len<=m:=by rw [k];split<;>omega
  refine ⟨(aQ len).map fun i=>(Ib (V0 i),Ib (V1 i)),by simp,B94 fun i C=>?_⟩
  obtain ⟨o,p,z,w⟩:=d i (by omega)
  obtain ⟨q,j,_,_⟩:=DataW.trod_string u0 z
  obtain ⟨u,g,_,_⟩:=DataW.trod_string u1 w
  simp at j g
  rw [j] at o
  rw [g] at p
  rw [j,g]
  show _=some (bG (bs q.data.toList))/\_=some (bG (bs u.data.toList))
  rw [A40,A40]
  exact ⟨T6 o,T6 p⟩
def A93{H:Type}{enc:aR × aT->H}{P:Program}{W:World}{base:Nat}{sp:Nat->Bool}{held:Bool}{t e:aR}{fuel:Nat}{v:aT}{x:DataW H × List MemPlace}(ht:P.underlying t=some (.slice e))(he:P.underlying e=some (.int .i64))(hc:P.cellsOf e=1)
 (hf:DataW.trod enc P W base sp held fuel t [v]=some x):∃ (xs:List Int) (B:Option aJ) (c:Nat),v= .slice B xs.length c/\SlI .i64 (memOf W) B xs:=by
 rcases ChangeShapes.open_ints ht he hc hf with ⟨b,_⟩|⟨a,l,c,zs,b,_,p,_,m,_,d,_⟩
 ·simp at b
  exact ⟨[],none,0,b,SlI.nil⟩
 ·simp at b
  have k:l<=zs.length:=by rw [m];split<;>omega
  refine ⟨zs.take l,some a,c,by rw [b,List.length_take,Nat.min_eq_left k],.inr ⟨a,rfl,fun i w g=>?_⟩⟩
  rw [List.getElem?_map] at g
  have n:i<l:=by
   by_cases o:i<l
   ·exact o
   ·rw [aO (by rw [List.length_take];omega)] at g;cases g
  rw [List.getElem?_take,iP n,aC (by omega)] at g
  have:=d i (by omega)
  rw [aE,aC (by omega)] at this
  have j:(.int .i64 zs[i]:aT)=w:=aW g
  rw [<- j]
  exact T6 this
def open_poly{H:Type}{enc:aR × aT->H}{P:Program}{W:World}{base:Nat}{sp:Nat->Bool}{held:Bool}{r:Reach}{b0:Nat}{t e q:aR}{f0 f1 g0 g1:Field}{v:aT}{d:DataW H}{ps:List MemPlace}(ht:P.underlying t=some (.struct #[f0,f1]))(u0:P.underlying f0.type=some (.int .i64))(u1:P.underlying f1.type=some (.slice e))(ue:P.underlying e=some (.struct #[g0,g1]))(w0:P.underlying g0.type=some .string)(w1:P.underlying g1.type=some (.slice q))(wq:P.underlying q=some (.int .i64))
 (hoff:(f0.offset=0/\f1.offset=1/\g0.offset=0/\g1.offset=1)/\P.cellsOf f0.type=1/\P.cellsOf f1.type=1/\P.cellsOf t=2/\P.cellsOf e=2/\P.cellsOf g0.type=1/\P.cellsOf g1.type=1/\P.cellsOf q=1)
 (hval:Value.okWide P W r b0 t v) (hd:DataW.Trod enc P W base sp held t v d ps):∃ (vars:Int) (A:Option aJ) (cap:Nat) (ts:List U6),v= .agg #[.int .i64 vars,.slice A ts.length cap]/\aY (memOf W) A ts:=by
 obtain ⟨⟨V,o1,p0,Q⟩,c0,c1,Z,X,d0,d1,cq⟩:=hoff
 obtain ⟨k,rfl,s⟩:=WideShapes.okWide_struct ht hval
 obtain ⟨N,hf⟩:=hd
 obtain ⟨y0,y1,n,hx,hl,J,j⟩:=ChangeShapes.trod_struct2 ht hf
 rw [V,c0] at J
 rw [o1,c1] at j
 obtain ⟨M,o,_,_⟩:=DataW.trod_int u0 J
 rw [Z] at s
 obtain ⟨z0,z1,hm⟩:∃ z0 z1,k.toList=[z0,z1]:=by
  have x:k.toList.length=2:=by simpa using s
  match h:k.toList,x with
  | [p,q],_=>exact ⟨p,q,rfl⟩
 simp only [Value.cells] at o j
 rw [hm] at o j
 simp at o j
 have g:k=#[z0,z1]:=by rw [<- Array.toArray_toList (xs:=k),hm]
 rcases Deep.open_slice_pairs u1 ue X p0 Q d0 d1 j with ⟨w,_⟩|⟨a,l,c,m,n',V0,V1,D0,D1,P0,P1,w,_,O,_,G,_,b⟩
 ·simp at w
  exact ⟨M,none,0,[],by rw [g,o,w];rfl,fun i C=>by simp at C⟩
 ·simp at w
  have S:l<=m:=by rw [G];split<;>omega
  obtain ⟨E,R⟩:=Deep.choose_lt (α:=List Int × Option aJ × Nat) (n:=l) (p:=fun i y=>V1 i= .slice y.2.1 y.1.length y.2.2/\SlI .i64 (memOf W) y.2.1 y.1) (fun i C=>by
   obtain ⟨xs,B,c',z,h2⟩:=A93 w1 wq cq (b i (by omega)).2.2.2
   exact ⟨(xs,B,c'),z,h2⟩)
  refine ⟨M,some a,c,(aQ l).map fun i=>(Ib (V0 i),(E i).1),by rw [g,o,w];simp,fun i C=>?_⟩
  have u:i<l:=by simpa using C
  obtain ⟨L,z,D,_⟩:=b i (by omega)
  obtain ⟨t0,F,_,_⟩:=DataW.trod_string w0 D
  simp at F
  obtain ⟨h3,T⟩:=R i u
  have et:tm ((aQ l).map fun i=>(Ib (V0 i),(E i).1)) i=(Ib (V0 i),(E i).1):=by
   show ((aQ l).map fun i=>(Ib (V0 i),(E i).1)).getD i ([],[])=_
   rw [aE,List.getElem?_map,List.getElem?_range u]
   rfl
  rw [et]
  rw [F] at L
  rw [h3] at z
  refine ⟨a,(E i).2.1,(E i).2.2,rfl,?_,?_,T⟩
  ·rw [F,Er]
   show _=some (bG (bs t0.data.toList))
   rw [A40]
   exact T6 L
  ·rw [Er]
   exact T6 z
