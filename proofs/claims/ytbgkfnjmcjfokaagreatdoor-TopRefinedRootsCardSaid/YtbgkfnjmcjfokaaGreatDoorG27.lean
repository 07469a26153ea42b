/- A part. -/
import Derived.Test.YtbgkfnjmcjfokaaGreatDoorG26
open Go.Proofs.Tryz
set_option linter.all false
open Nat renaming zero_add->aC
namespace Go.Proofs.YtbgkfnjmcjfokaaGreatDoor
set_option maxRecDepth 20000
open Go
def ENk(c:Nat->Rat):Heap->EV->Nat->Prop:=fun h e k=>RQ h e.w (c k)/\e.xs=[(k:Int),0,0,0,0,0]
def Qm(c:Nat->Rat):Mon (ENk c):=fun _ _ _ _ a i=>⟨⟨i.1.num.mono a,i.1.den.mono a⟩,i.2⟩
def C63(a b:Int):B3g [a,0,0,0,0,0] [b,0,0,0,0,0]=Bb a b:=by
 have c:∀ x:Int,([x,0,0,0,0,0]:List Int).sum=x:=fun x=>by simp
 unfold B3g
 rw [c,c]
 by_cases h:a=b
 ·subst h
  rw [iN o]
  simp [Hh,Bb]
 ·rw [iP o]
def C5q{k:Nat}(h:k<=1000):ExB [(k:Int),0,0,0,0,0]:=⟨by simp,fun x a=>by simp at a;omega⟩
def B8h{o:Heap}{b i:Nat}{es:List EV}(rb:RowB o b es)(hi:i<es.length):∀ j v,(enc es[i])[j]? = some v->o.cell? (Addr.add (Addr.add ⟨b,0,none⟩ (i*10)) j)=some v:=fun j v a=>by
 have c:=RowB.cell rb hi (j:=j) (v:=v) a
 rw [T8,F3,aC]
 exact c
section
variable {h g o:Heap} {K:VP} {c:Nat->Rat} {bb n ca:Nat}
def Xo{ea eb:EV}{a b:Nat}(xa:ea.xs=[(a:Int),0,0,0,0,0])(xb:eb.xs=[(b:Int),0,0,0,0,0])(ha:a<=1000)(hb:b<=1000)(hK:∀ h',h.le h'->K (I (Bb (b:Int) (a:Int))) h'):FCall prog 138 #[ea.v,eb.v] h K:=by
 refine (fnk func138) ?_
 refine Pc fun q k=>⟨_,rfl,Pc fun r l=>⟨_,rfl,?_⟩⟩
 have p:∀ j:Nat,U3 (some (Addr.add ⟨j,0,none⟩ 0)) 6 0 1=some ⟨j,0,none⟩:=fun j=>by rw [V1 oo];rfl
 rw [p,p]
 have sl:∀ (g:Heap) (j:Nat) (e:EV) (t:TypeId),SlI .i64 (g.put j (.cells (Value.agg #[I e.x0,I e.x1,I e.x2,I e.x3,I e.x4,I e.x5,.bool e.w.s,.slice e.w.A e.w.n e.w.c,.bool e.w.s2,.slice e.w.A2 e.w.n2 e.w.c2]).cells t)) (some ⟨j,0,none⟩) e.xs:=fun g j e t=>by
  refine SlV.new g j _ _ t _ fun i v d=>?_
  match i,d with
  | 0,d=>exact d
  | 1,d=>exact d
  | 2,d=>exact d
  | 3,d=>exact d
  | 4,d=>exact d
  | 5,d=>exact d
  | i+6,d=>cases d
 have m:=Heap.le_put (.cells (Value.agg #[I eb.x0,I eb.x1,I eb.x2,I eb.x3,I eb.x4,I eb.x5,.bool eb.w.s,.slice eb.w.A eb.w.n eb.w.c,.bool eb.w.s2,.slice eb.w.A2 eb.w.n2 eb.w.c2]).cells 126) l
 refine Kc (a:=eb.xs) (b:=ea.xs) rfl (by rw [xb];exact C5q hb) (by rw [xa];exact C5q ha) (sl _ _ _ _) (SlI.mono m (sl _ _ _ _)) ⟨_,rfl,B0 _,?_⟩
 rw [xa,xb,C63]
 exact hK _ (A0 (Heap.le_put _ k) m)
def Hole(f:Nat->Nat)(i j:Nat):Prop:=∀ p q,p<q->q<=i->q≠j->f q<f p
def sw(f:Nat->Nat)(j:Nat):Nat->Nat:=fun k=>if k=j then f (j-1) else if k=j-1 then f j else f k
def B9c(f:Nat->Nat)(n:Nat):Prop:=∀ p q,p<q->q<n->f q<f p
def Same(n:Nat)(f g:Nat->Nat):Prop:=∀ v,(∃ i,i<n/\f i=v) ↔ ∃ i,i<n/\g i=v
def Inj(n:Nat)(f:Nat->Nat):Prop:=∀ i j,i<n->j<n->f i=f j->i=j
def Hole.sw{f:Nat->Nat}{i j:Nat}(h:Hole f i j)(hj:0<j)(hji:j<=i)(hlt:f (j-1)<f j):Hole (sw f j) i (j-1):=by
 intro p q d a g
 have m:=h p q d a
 have k:=h p (j-1)
 have n:=h j q
 have l:=h (j-1) q
 unfold Go.Proofs.YtbgkfnjmcjfokaaGreatDoor.sw
 by_cases b:q=j
 ·subst b
  rw [iP rfl,iN oo]
  by_cases c:p=q-1
  ·rw [iP c];omega
  ·rw [iN c];exact k oo oo oo
 ·rw [iN b,iN g]
  have:=m b
  by_cases c:p=j
  ·rw [iP c];exact l oo a b
  ·rw [iN c]
   by_cases e:p=j-1
   ·rw [iP e];exact n oo a b
   ·rw [iN e];exact this
def Same.sw{f g:Nat->Nat}{n j:Nat}(h:Same n f g)(hj:0<j)(hjn:j<n):Same n (sw f j) g:=by
 intro v
 rw [<- h v]
 unfold Go.Proofs.YtbgkfnjmcjfokaaGreatDoor.sw
 constructor
 ·rintro ⟨i,c,e⟩
  by_cases b:i=j
  ·rw [iP b] at e;exact ⟨j-1,oo,e⟩
  ·rw [iN b] at e
   by_cases a:i=j-1
   ·rw [iP a] at e;exact ⟨j,hjn,e⟩
   ·rw [iN a] at e;exact ⟨i,c,e⟩
 ·rintro ⟨i,c,e⟩
  by_cases b:i=j
  ·exact ⟨j-1,oo,by rw [iN oo,iP rfl,<- b];exact e⟩
  ·by_cases a:i=j-1
   ·exact ⟨j,hjn,by rw [iP rfl,<- a];exact e⟩
   ·exact ⟨i,c,by rw [iN b,iN a];exact e⟩
def Inj.sw{f:Nat->Nat}{n j:Nat}(h:Inj n f)(hj:0<j)(hjn:j<n):Inj n (sw f j):=by
 intro p q a b e
 have d:=h p q a b
 have g:=h p j a hjn
 have i:=h p (j-1) a oo
 have c:=h j q hjn b
 have k:=h (j-1) q oo b
 have l:=h j (j-1) hjn oo
 unfold Go.Proofs.YtbgkfnjmcjfokaaGreatDoor.sw at e
 grind
def A64{es:List EV}{f:Nat->Nat}(s:Sep h g o)(rb:RowB o bb es)(hl:es.length=n)(rr:Row (ENk c) g es n f)(hi:Inj n f)(hn:n<=12)(hk:∀ i,i<n->f i<=1000)
 (hK:∀ h' g' o' es' f',g.le g'->Sep h' g' o'->RowB o' bb es'->es'.length=n->Row (ENk c) g' es' n f'->B9c f' n->Same n f' f->(∀ k x,k≠bb->o k=some x->o' k=some x)->K (.tuple #[]) h'):
 FCall prog 264 #[.slice (some ⟨bb,0,none⟩) n ca,I 0,I (n:Int),.func (.func 138) #[] #[]] h K:=by
 refine (fnk func264 [(1,[8],[],[I 0]),(4,[9],[],[I 0])]) ?_
 refine ⟨fun L hp=>∃ (i:Nat) (g' o':Heap) (es':List EV) (f':Nat->Nat),L=[I (i:Int)]/\1<=i/\(i<=n\/i=1)/\g.le g'/\Sep hp g' o'/\RowB o' bb es'/\es'.length=n/\Row (ENk c) g' es' n f'/\B9c f' i/\Same n f' f/\Inj n f'/\∀ k x,k≠bb->o k=some x->o' k=some x,fun L _=>n-(iAt L 0).toNat,⟨1,g,o,es,f,rfl,oo,.inr rfl,B0 _,s,rb,hl,rr,fun p q _ _=>oo,fun _=>Iff.rfl,hi,fun _ _ _ e=>e⟩,?_⟩
 rintro iz hp ⟨i,g1,o1,X,f1,eL,au,ax,lg,s1,ae,aa,af,F,G,am,keep⟩
 obtain rfl:=sI1 eL
 have ei:B9 ((i:Int)+1)=((i+1:Nat):Int):=by rw [B5]<;>omega
 refine B4 (fun ac=>?_) (fun av=>?_)
 ·have ar:i<n:=oo
  refine ⟨fun L hq=>∃ (j:Nat) (g' o':Heap) (es':List EV) (f':Nat->Nat),L=[I (j:Int)]/\j<=i/\g.le g'/\Sep hq g' o'/\RowB o' bb es'/\es'.length=n/\Row (ENk c) g' es' n f'/\Hole f' i j/\Same n f' f/\Inj n f'/\∀ k x,k≠bb->o k=some x->o' k=some x,fun L _=>(iAt L 0).toNat,⟨i,g1,o1,X,f1,rfl,Nat.le_refl _,lg,s1,ae,aa,af,fun p q W h2 h3=>F p q W oo,G,am,keep⟩,?_⟩
  rintro jz hq ⟨j,g2,o2,ab,u,ag,ap,Q,l,D,M,E,w,r,B,m⟩
  obtain rfl:=sI1 ag
  have ad:∀ {O:Heap} {T o3:Heap} {C:List EV},g.le T->Sep O T o3->RowB o3 bb C->C.length=n->Row (ENk c) T C n u->(∀ k x,k≠bb->o k=some x->o3 k=some x)->(0<j->u j<u (j-1))->
   (∃ (S:Nat) (g' o':Heap) (es':List EV) (f':Nat->Nat),[I (B9 ((i:Int)+1))]=[I (S:Int)]/\1<=S/\(S<=n\/S=1)/\g.le g'/\Sep O g' o'/\RowB o' bb es'/\es'.length=n/\Row (ENk c) g' es' n f'/\B9c f' S/\Same n f' f/\Inj n f'/\∀ k x,k≠bb->o k=some x->o' k=some x)/\n-(iAt [I (B9 ((i:Int)+1))] 0).toNat<n-(iAt [I (i:Int)] 0).toNat:=by
   intro O T o3 C aj d ak an ao N R
   rw [ei]
   refine ⟨⟨i+1,T,o3,C,u,rfl,oo,.inl oo,aj,d,ak,an,ao,fun p q W h2=>?_,r,B,N⟩,by simp only [Ca];omega⟩
   by_cases e:q=j
   ·subst e
    have hl:=R oo
    by_cases e2:p=q-1
    ·rw [e2];exact hl
    ·have:=w p (q-1) oo oo oo
     omega
   ·exact w p q W oo e
  refine B4 (fun al=>?_) (fun al=>ad Q l D M E m fun z=>oo)
  have hj:0<j:=oo
  have ej:B9 ((j:Int)-1)=((j-1:Nat):Int):=by rw [B5]<;>omega
  rw [ej]
  have b:=B8h D (i:=j) oo
  have a:=B8h D (i:=j-1) oo
  have k1:=E.get (i:=j) oo oo
  have k0:=E.get (i:=j-1) oo oo
  generalize hE1:ab[j]'oo=e1 at *
  generalize hE0:ab[j-1]'oo=e0 at *
  have fb:∀ i,i<n->u i<=1000:=fun i hi=>by
   obtain ⟨S,ah,e⟩:=(r (u i)).1 ⟨i,hi,rfl⟩
   rw [<- e];exact hk S ah
  refine ⟨_,rfl,oo,oo,_,_,_,_,_,_,_,_,_,_,_,_,_,_,l.cell (b 0 _ rfl),l.cell (b 1 _ rfl),l.cell (b 2 _ rfl),l.cell (b 3 _ rfl),l.cell (b 4 _ rfl),l.cell (b 5 _ rfl),l.cell (b 6 _ rfl),l.cell (b 7 _ rfl),l.cell (b 8 _ rfl),l.cell (b 9 _ rfl),
   _,rfl,oo,oo,_,_,_,_,_,_,_,_,_,_,_,_,_,_,l.cell (a 0 _ rfl),l.cell (a 1 _ rfl),l.cell (a 2 _ rfl),l.cell (a 3 _ rfl),l.cell (a 4 _ rfl),l.cell (a 5 _ rfl),l.cell (a 6 _ rfl),l.cell (a 7 _ rfl),l.cell (a 8 _ rfl),l.cell (a 9 _ rfl),?_⟩
  refine l.call (Xo (ea:=e1) (eb:=e0) k1.2 k0.2 (fb j oo) (fb (j-1) oo) ?_)
  intro T V h3 d
  refine ⟨_,rfl,B4 (fun A=>?_) (fun A=>?_)⟩
  ·have ac:u (j-1)<u j:=by unfold Bb at A;omega
   refine ⟨_,rfl,oo,oo,_,_,_,_,_,_,_,_,_,_,_,_,_,_,d.cell (a 0 _ rfl),d.cell (a 1 _ rfl),d.cell (a 2 _ rfl),d.cell (a 3 _ rfl),d.cell (a 4 _ rfl),d.cell (a 5 _ rfl),d.cell (a 6 _ rfl),d.cell (a 7 _ rfl),d.cell (a 8 _ rfl),d.cell (a 9 _ rfl),
    _,rfl,oo,oo,_,_,_,_,_,_,_,_,_,_,_,_,_,_,d.cell (b 0 _ rfl),d.cell (b 1 _ rfl),d.cell (b 2 _ rfl),d.cell (b 3 _ rfl),d.cell (b 4 _ rfl),d.cell (b 5 _ rfl),d.cell (b 6 _ rfl),d.cell (b 7 _ rfl),d.cell (b 8 _ rfl),d.cell (b 9 _ rfl),_,rfl,oo,oo,?_⟩
   rw [F3,aC]
   refine Sep.store Gu (y:=e0) rfl d D (i:=j) oo rfl ?_
   rintro h4 o4 x4 rfl s4 ai
   refine ⟨_,rfl,oo,oo,?_⟩
   rw [F3,aC]
   refine Sep.store Gu (y:=e1) rfl s4 ai (i:=j-1) (by rw [List.length_set];omega) rfl ?_
   rintro h5 o5 x5 rfl s5 aq
   refine ⟨⟨j-1,T,_,_,sw u j,rfl,oo,A0 Q V,s5,aq,by simp [M],?_,w.sw hj ap ac,r.sw hj oo,B.sw hj oo,fun k x H e=>?_⟩,by simp only [Ca];omega⟩
   ·have r3:=E.mono (Qm c) V
    have u1:=r3.upd (k:=j) oo (Qm c _ _ _ _ V k0)
    have u2:=u1.upd (k:=j-1) (by rw [List.length_set];omega) (Qm c _ _ _ _ V k1)
    refine u2.congr fun i hi=>?_
    unfold sw
    by_cases z1:i=j
    ·rw [iN oo,iP z1,iP z1]
    ·by_cases z2:i=j-1
     ·rw [iP z2,iN z1,iP z2]
     ·rw [iN z2,iN z1,iN z1,iN z2]
   ·rw [B6 _ _ H,B6 _ _ H];exact m k x H e
  ·refine ad (A0 Q V) d D M (E.mono (Qm c) V) m fun _=>?_
   have W:¬ u (j-1)<u j:=fun z=>A (by unfold Bb;omega)
   have h2:u (j-1)≠u j:=fun z=>by have:=B (j-1) j oo oo z;omega
   omega
 ·refine hK hp g1 o1 X f1 lg s1 ae aa af (fun p q W h2=>?_) G keep
  exact F p q W oo
end
