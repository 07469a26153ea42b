/- A part. -/
import Derived.Test.YtkfhdoblhajcbaaGreatDoorG26
open Go.Proofs.Tryz
set_option linter.all false
open Classical renaming byContradiction->aQ
open Int renaming natAbs_mul->aD,tmod->aP
open List.cons renaming injEq->aO
open Nat renaming mul_le_mul->aC,le_refl->aE,le_trans->aH,pow_le_pow_right->aJ
open Rat renaming divInt_eq_div->aL,intCast_mul->aN
open _root_.Go.Value.int renaming injEq->aM
open _root_.Go.Value.slice renaming injEq->aK
open _root_.Go.Proofs.YtkfhdoblhajcbaaGreatDoor renaming FCall->aF,Heap->aG,TapeS->aI
namespace Go.Proofs.YtkfhdoblhajcbaaGreatDoor
set_option maxRecDepth 20000
open Go
def Whl(x:Rat):Prop:=∃ z:Int,x=z/\z.natAbs<=2
def W12(x:Rat):Prop:=∃ z:Int,x*12=z/\0<z/\z<=108
def Whl.sz{x:Rat}(h:Whl x):Sz 2 x:=by
 obtain ⟨z,rfl,a⟩:=h
 exact Sz.int (by unfold ZB;omega) o
def W12.sz{x:Rat}(h:W12 x):Sz 8 x/\0<x:=by
 obtain ⟨z,b,a,c⟩:=h
 have e:x=Rat.divInt z 12:=by rw [aL,<- b];grind
 rw [e]
 exact ⟨U3 dc (by unfold ZB;omega) (by unfold ZB;decide),B9z a dc⟩
def B7o{a b:Nat}(ha:a<9)(hb:b<4):W12 (Rat.divInt (1+(a:Int)) (1+(b:Int))):=by
 rw [W12,aL]
 rcases (show b=0\/b=1\/b=2\/b=3 from o) with rfl|rfl|rfl|rfl
 ·exact ⟨12*(1+a),by push_cast;grind,o,o⟩
 ·exact ⟨6*(1+a),by push_cast;grind,o,o⟩
 ·exact ⟨4*(1+a),by push_cast;grind,o,o⟩
 ·exact ⟨3*(1+a),by push_cast;grind,o,o⟩
section
variable {h g o:aG} {K:VP} {xs:List Int} {b:Nat}
def Z9{k:Nat}(hk:k<=2)(s:Sep h g o)(t:aI g o b xs)(hK:∀ w q h' g' o',g.le g'->Sep h' g' o'->aI g' o' b xs->OffB b o o'->NQ g' w q->Whl q->K w.v h'):aF prog 52 #[.pointer (some ⟨b,0,none⟩),I (k:Int)] h K:=by
 refine (fnk func52 (own:=[4]) (wr:=[8])) ?_
 rw [show C4 (C4 (2*(k:Int))+1)=((2*k+1:Nat):Int) by rw [C1 (n:=2*(k:Int)) oo oo,C1]<;>omega]
 refine V5 (n:=2*k+1) s t oo ?_
 intro d r u l j t1 a
 refine ⟨_,rfl,?_⟩
 rw [show C4 ((d:Int)-(k:Int))=(d:Int)-k from C1 oo oo]
 refine j.call (Gb oo ?_)
 intro w m c i p f
 exact ⟨_,_,_,_,_,_,_,_,rfl,hK w _ _ _ _ c f (t1.keep c fun _ e=>e) a i ⟨_,rfl,oo⟩⟩
def Sa(s:Sep h g o)(t:aI g o b xs)(hK:∀ w q h' g' o',g.le g'->Sep h' g' o'->aI g' o' b xs->OffB b o o'->NQ g' w q->W12 q->K w.v h'):aF prog 53 #[.pointer (some ⟨b,0,none⟩)] h K:=by
 refine (fnk func53 (own:=[2]) (wr:=[8])) ?_
 refine V5 (n:=9) s t oo ?_
 intro a T W l L t1 j
 refine ⟨_,rfl,?_⟩
 rw [show C4 (1+(a:Int))=1+(a:Int) from C1 oo oo]
 refine L.call (Cx oo ?_)
 intro sg A n c R y D Q F
 refine ⟨_,_,_,_,rfl,V5 (n:=4) F (t1.keep y fun _ e=>e) oo ?_⟩
 intro p h3 o3 d M z f
 refine ⟨_,rfl,?_⟩
 rw [show C4 (1+(p:Int))=1+(p:Int) from C1 oo oo]
 refine M.call (Cx oo ?_)
 intro N A2 n2 c2 X i H S C
 have G:ZB 8 (1+(a:Int)):=by unfold ZB;omega
 have E:ZB 8 (1+(p:Int)):=by unfold ZB;omega
 refine ⟨_,_,_,_,rfl,C.call (Mj (m:=8) (D.mono i) H oo G E oo ?_)⟩
 intro w g5 r B V O
 exact ⟨_,_,_,_,_,_,_,_,rfl,hK w _ _ _ _ (B0 y (B0 i r)) O (z.keep (B0 i r) fun _ e=>e) (fun k u=>(f k u).trans (j k u)) B (B7o l d)⟩
def OffB.own{α:Type}[E:Enc α]{o o':aG}{e:TypeId}{A:Option Addr}{c:Nat}{ys:List α}(x:OffB b o o')(w:OwnSl o e A c ys)(hA:A≠some ⟨b,0,none⟩):OwnSl o' e A c ys:=w.keep fun j u q a=>by rw [x j (fun z=>hA (by rw [q,z]))];exact a
def OwnSl.blk{α:Type}[E:Enc α]{o:aG}{e:TypeId}{A:Option Addr}{c j:Nat}{ys:List α}(w:OwnSl o e A c ys)(hA:A=some ⟨j,0,none⟩):∃ x,o j=some x:=by
 rcases w.2 with g|⟨b,a,d,f,_⟩
 ·grind
 grind
structure PtS (v:Nat) (xs:List Int) (b:Nat) (g0 hp:aG) (k:Nat) (A B:Option Addr) (c d:Nat) (g o:aG) (ps:List HV) (ws:List QV) (X:Nat->Nat->Rat) (w:Nat->Rat):Prop where
 le:g0.le g
 s:Sep hp g o
 t:aI g o b xs
 p:OwnSl o 27 A c ps
 q:OwnSl o 37 B d ws
 pl:ps.length=k
 ql:ws.length=k
 pr:Row (RWr v) g ps k X
 qr:Row NQr g ws k w
 hX:∀ l j,l<k->j<v->Whl (X l j)
 hw:∀ l,l<k->W12 (w l)
 Ab:A≠some ⟨b,0,none⟩
 Bb:B≠some ⟨b,0,none⟩
 AB:∀ e,A=some ⟨e,0,none⟩->B≠some ⟨e,0,none⟩
def A3l{v:Nat}(v1:1<=v)(v2:v<=2)(s:Sep h g o)(t:aI g o b xs)
 (hK:∀ n A c B d X w h',1<=n->n<=3->g.le h'->RowV (RWr v) h' A n X->RowV NQr h' B n w->(∀ l j,l<n->j<v->Whl (X l j))->(∀ l,l<n->W12 (w l))->K (.tuple #[.slice A n c,.slice B n d]) h'):aF prog 9 #[.pointer (some ⟨b,0,none⟩),I (v:Int)] h K:=by
 refine (fnk func9 [(4,[6,7,8],[],[.slice none 0 0,.slice none 0 0,I 0]),(8,[9,10],[],[.slice none 0 0,I 0])] (wr:=[8,52,53])) ?_
 refine V5 (n:=3) s t oo ?_
 intro r h1 o1 hr s1 t1 aw
 refine ⟨_,rfl,?_⟩
 rw [show C4 (1+(r:Int))=((r+1-0:Nat):Int) by rw [C1]<;>omega]
 refine ⟨fun L hp=>∃ (k:Nat) (A B:Option Addr) (c d:Nat) (g' o':aG) (ps:List HV) (ws:List QV) (X:Nat->Nat->Rat) (w:Nat->Rat),k<=r+1/\L=[.slice A k c,.slice B k d,I ((r+1-k:Nat):Int)]/\PtS v xs b g hp k A B c d g' o' ps ws X w,fun L _=>(iAt L 2).toNat,
  ⟨0,none,none,0,0,g,o1,[],[],fun _ _=>0,fun _=>0,oo,rfl,⟨B7 _,s1,t1,OwnSl.nil,OwnSl.nil,rfl,rfl,Row.nil,Row.nil,fun _ _ q=>oo,fun _ q=>oo,by simp,by simp,fun _ q=>by cases q⟩⟩,?_⟩
 rintro xA xn xc wA M wc z hp ⟨k,A,B,c,d,g2,o2,ps,ws,X,w,hk,eL,T⟩
 simp only [aO,aK,aM,true_and,and_true] at eL
 obtain ⟨⟨rfl,rfl,rfl⟩,⟨rfl,rfl,rfl⟩,rfl⟩:=eL
 refine C0 (fun av=>?_) (fun ax=>?_)
 ·refine ⟨fun L hq=>∃ (m:Nat) (g' o':aG) (P:Option Addr) (pc:Nat) (V:List QV) (f:Nat->Rat),m<=v/\L=[.slice P m pc,I (m:Int)]/\g2.le g'/\Sep hq g' o'/\aI g' o' b xs/\OwnSl o' 37 P pc V/\V.length=m/\Row NQr g' V m f/\(∀ i,i<m->Whl (f i))/\P≠some ⟨b,0,none⟩/\∀ j x,j≠b->o2 j=some x->o' j=some x/\P≠some ⟨j,0,none⟩,fun L _=>v-(iAt L 1).toNat,
   ⟨0,g2,o2,none,0,[],fun _=>0,oo,rfl,B7 _,T.s,T.t,OwnSl.nil,rfl,Row.nil,fun i hi=>oo,by simp,fun j x _ e=>⟨e,by simp⟩⟩,?_⟩
  rintro lA C lc z2 hq ⟨m,g3,o3,P,pc,V,f,hm,W,l3,s3,t3,Q,D,rr,hs,H,u⟩
  simp only [aO,aK,aM,true_and,and_true] at W
  obtain ⟨⟨rfl,rfl,rfl⟩,rfl⟩:=W
  refine C0 (fun ar=>?_) (fun aq=>?_)
  ·refine Z9 (k:=2) oo s3 t3 ?_
   intro w4 q h4 g4 o4 l4 s4 t4 ag iw sq
   refine ⟨_,_,_,_,_,_,_,_,rfl,?_⟩
   refine J6 (ty:=27) Io s4 (ag.own Q H) D.symm (y:=w4) rfl dc oo oo ?_
   intro A5 c5 h5 g5 o5 O s5 aj ac
   rw [D,wiS C oo]
   obtain ⟨_,_,_,_,ao,_⟩:=id t4
   refine ⟨⟨C+1,g5,o5,A5,c5,_,fun i=>if i=C then q else f i,oo,rfl,B0 l3 (B0 l4 O),s5,t4.keep O fun x e=>(ac b x e H).1,aj,gz0,?_,fun i hi=>gz0,(ac b _ ao H).2,fun j x N e=>?_⟩,?_⟩
   ·have rA:Row NQr g5 V V.length (fun i=>if i=C then q else f i):=by
     rw [D]
     exact (rr.mono J4 (B0 l4 O)).congr fun i hi=>(iN oo).symm
    have rB:=rA.push (w:=w4) (by rw [D,iP rfl];exact J4 _ _ _ _ O iw)
    grind
   ·obtain ⟨e1,e2⟩:=u j x N e
    have e3:o4 j=some x:=by rw [ag j N];exact e1
    grind
   ·show v-((C+1:Nat):Int).toNat<v-(C:Int).toNat
    omega
  ·obtain rfl:C=v:=oo
   obtain ⟨R,rfl,rb⟩:=Q.rowB gz0
   have au:R≠b:=fun e=>H (by rw [e])
   obtain ⟨g5,O,s5,rv⟩:=s3.giveB rb D rr
   have kp:∀ j x,j≠b->o2 j=some x->(o3.without R) j=some x:=fun j x N e=>by
    obtain ⟨e1,e2⟩:=u j x N e
    unfold Heap.without
    grind
   have t5:aI g5 (o3.without R) b xs:=t3.keep O fun x e=>by unfold Heap.without;grind
   have ap:=T.p.keep (o':=o3.without R) fun e x F a=>kp e x (fun q=>T.Ab (by rw [F,q])) a
   have ah:=T.q.keep (o':=o3.without R) fun e x F a=>kp e x (fun q=>T.Bb (by rw [F,q])) a
   refine J6 (ty:=26) B5a s5 ap T.pl.symm (y:=(⟨some ⟨R,0,none⟩,C,lc⟩:HV)) rfl dc (by have:=T.pl;omega) (by have:=T.pl;omega) ?_
   intro A6 c6 h6 g6 o6 l6 s6 ai G
   obtain ⟨_,_,_,_,am,_⟩:=id t5
   have t6:aI g6 o6 b xs:=t5.keep l6 fun x e=>(G b x e T.Ab).1
   have ad:=ah.keep (o':=o6) fun e x hB a=>(G e x a fun F=>T.AB e F hB).1
   refine Sa s6 t6 ?_
   intro w7 q7 h7 g7 o7 l7 s7 t7 ae i7 ak
   refine ⟨_,_,_,_,_,_,_,_,rfl,?_⟩
   have A6b:=(G b _ am T.Ab).2
   have af:=ae.own ai A6b
   obtain ⟨_,_,_,_,an,_⟩:=id t7
   refine J6 (ty:=27) Io s7 (ae.own ad T.Bb) T.ql.symm (y:=w7) rfl dc (by have:=T.ql;omega) (by have:=T.ql;omega) ?_
   intro B8 c8 h8 g8 o8 l8 s8 al E
   rw [T.pl,T.ql,show C4 (((r+1-M:Nat):Int)-1)=((r+1-(M+1):Nat):Int) by rw [C1]<;>omega]
   have aa:=B0 l6 (B0 l7 l8)
   have S:=B0 l3 (B0 O aa)
   have BA:∀ e,wA=some ⟨e,0,none⟩->A6≠some ⟨e,0,none⟩:=fun e q=>by
    obtain ⟨x,a⟩:=ah.blk q
    exact (G e x a fun F=>T.AB e F q).2
   refine ⟨⟨M+1,A6,B8,c6,c8,g8,o8,_,_,fun i=>if i=M then f else X i,fun i=>if i=M then q7 else w i,oo,rfl,B0 T.le S,s8,t7.keep l8 fun x e=>(E b x e T.Bb).1,af.keep fun e x F a=>(E e x a fun q=>BA e q F).1,al,by have:=T.pl;simp;omega,by have:=T.ql;simp;omega,?_,?_,fun l j hl N=>?_,fun l hl=>?_,A6b,(E b _ an T.Bb).2,fun e q=>?_⟩,by simp [iAt];omega⟩
   ·have rA:Row (RWr C) g8 ps ps.length (fun i=>if i=M then f else X i):=by
     rw [T.pl]
     exact (T.pr.mono (Xs _) S).congr fun i hi=>(iN oo).symm
    have rB:=rA.push (w:=(⟨some ⟨R,0,none⟩,C,lc⟩:HV)) (by rw [T.pl,iP rfl];exact ⟨rfl,by have:=Q.1;show C<=lc;omega,rv.mono J4 aa⟩)
    have e:=T.pl
    grind
   ·have rA:Row NQr g8 ws ws.length (fun i=>if i=M then q7 else w i):=by
     rw [T.ql]
     exact (T.qr.mono J4 S).congr fun i hi=>(iN oo).symm
    have rB:=rA.push (w:=w7) (by rw [T.ql,iP rfl];exact J4 _ _ _ _ l8 i7)
    have e:=T.ql
    grind
   ·split
    ·exact hs j N
    ·exact T.hX l j oo N
   ·split
    ·exact ak
    ·exact T.hw l oo
   ·obtain ⟨x,a⟩:=af.blk q
    exact (E e x a fun q2=>BA e q2 q).2
 ·obtain rfl:M=r+1:=oo
  exact hK _ _ _ _ _ X w hp oo oo (B0 T.le T.s.le) ⟨ps,T.p.slF T.s.ole,T.pl,T.pr.mono (Xs v) T.s.le⟩ ⟨ws,T.q.slF T.s.ole,T.ql,T.qr.mono J4 T.s.le⟩ T.hX T.hw
end
structure Mrg (v:Nat) (X:Nat->Nat->Rat) (w:Nat->Rat) (i s:Nat) (q:Nat->Nat) (U:Nat->Rat):Prop where
 le:s<=i
 s1:1<=i->1<=s
 lt:∀ k,k<s->q k<i
 dif:PtD s v fun k=>X (q k)
 pos:∀ k,k<s->0<U k
 sz:∀ k,k<s->Sz (9*i) (U k)
 sum:∀ e:List Int,e.length=v->sm i (fun l=>w l*mvl (X l) e 0)=sm s fun k=>U k*mvl (X (q k)) e 0
section
variable {v i s:Nat} {X:Nat->Nat->Rat} {w U:Nat->Rat} {q:Nat->Nat}
def Mrg.nil:Mrg v X w 0 0 q U:=⟨o,o,o,fun _ _ h=>o,o,o,fun _ _=>rfl⟩
def Mrg.new(m:Mrg v X w i s q U)(hw:0<w i)(hs:Sz 8 (w i))(hd:∀ k,k<s->∃ j,j<v/\X i j≠X (q k) j):Mrg v X w (i+1) (s+1) (fun k=>if k=s then i else q k) (fun k=>if k=s then w i else U k):=by
 refine ⟨by have:=m.le;omega,o,fun k a=>?_,fun k l a p c=>?_,fun k a=>?_,fun k a=>?_,fun e g=>?_⟩
 ·split
  ·omega
  ·have:=m.lt k o;omega
 ·by_cases d:k=s
  ·have b:l≠s:=o
   simp only [d,b,if_true,if_false]
   exact hd l o
  ·by_cases b:l=s
   ·simp only [d,b,if_true,if_false]
    obtain ⟨j,f,n⟩:=hd k o
    exact ⟨j,f,Ne.symm n⟩
   ·simp only [d,b,if_false]
    exact m.dif k l o o c
 ·split
  ·exact hw
  ·exact m.pos k o
 ·split
  ·exact hs.mono o
  ·exact (m.sz k o).mono o
 ·show sm i _+_=sm s _+_
  rw [m.sum e g]
  dsimp only
  rw [iP rfl,iP rfl]
  refine congrArg (· + _) (C5 fun k a=>?_)
  rw [iN o,iN o]
end
section
variable {α β α2 β2:Type} [E:Enc α] [E2:Enc α2] {R:aG->α->β->Prop} {e e2:TypeId} {h0 hp:aG} {A A2:Option Addr} {c n c2 n2:Nat} {f:Nat->β} {R2:aG->α2->β2->Prop} {f2:Nat->β2} {P:Program}
def Lst2.weak{h1:aG}(w:h1.le h0)(l:Lst2 R e R2 e2 h0 hp A c n f A2 c2 n2 f2):Lst2 R e R2 e2 h1 hp A c n f A2 c2 n2 f2:=by
 obtain ⟨g,o,a,d,b,r⟩:=l
 exact ⟨g,o,a,d,B0 w b,r⟩
def Lst2.congr{f':Nat->β}(l:Lst2 R e R2 e2 h0 hp A c n f A2 c2 n2 f2)(x:∀ i,i<n->f i=f' i):Lst2 R e R2 e2 h0 hp A c n f' A2 c2 n2 f2:=by
 obtain ⟨g,o,j,d,q,s,w,m,k,p,a,r,b⟩:=l
 exact ⟨g,o,j,d,q,s,w,m,k,p,a,r.congr x,b⟩
def Lst2.litR{α3 β3:Type}[E3:Enc α3]{R3:aG->α3->β3->Prop}(m:Mon R)(m2:Mon R2)(m3:Mon R3){t e3:TypeId}{z:Value}{bytes:Nat}(st:SliceT P t e3 z E3.default.size bytes)(l:Lst2 R e R2 e2 h0 hp A c n f A2 c2 n2 f2){v:Value}{y:α3}(hv:v.cells=(enc y).toArray)(hsz:E3.default.size<=1000){q:β3}(hR:R3 h0 y q){K:VP}
 (x:∀ b g h',h0.le g->hp.le h'->Lst2 R e R2 e2 g h' A c n f A2 c2 n2 f2->RowV R3 g (some ⟨b,0,none⟩) 1 (fun _=>q)->K (.slice (some ⟨b,0,none⟩) 1 1) h'):wpH P (Instr.buildSlice t 1 #[(0,v)]) K hp:=by
 obtain ⟨g,o,E,C,p,s,w,F,G,L,k,r,B⟩:=l
 have D:(enc y).length=E3.default.size:=E3.default.len y
 refine Y5 st (vs:=[v]) (fun u d=>by rw [List.mem_singleton.1 d,hv,List.size_toArray,D]) rfl (by simp;omega) rfl fun b j=>?_
 have H:g b=none:=s.free j
 have a:=Heap.le_put (.cells ([v].flatMap fun v=>v.cells.toList).toArray e3) H
 refine x b _ _ (B0 p a) (Heap.le_put _ j) ⟨_,o,E,C,B7 _,s.vis j _,w,F,G,L,k,r.mono m a,B.mono m2 a⟩ ⟨[y],SlV.new _ _ _ _ _ _ (fun i u d=>by simpa [hv] using d),rfl,fun i M=>⟨y,?_,m3 _ _ _ _ (B0 p a) hR⟩⟩
 obtain rfl:i=0:=oo
 rfl
def Lst2.base(pos:0<E.default.size)(l:Lst2 R e R2 e2 h0 hp A c n f A2 c2 n2 f2):∃ g,h0.le g/\Lst2 R e R2 e2 g hp A c n f A2 c2 n2 f2/\∀ i,i<n->∃ a w,A=some a/\R g w (f i)/\∀ j v,(enc w)[j]? = some v->hp.cell? (Addr.add (Addr.add a (i*E.default.size)) j)=some v:=by
 obtain ⟨g,o,b,p,C,s,w,t,u,B,d,r,m⟩:=l
 refine ⟨g,C,⟨g,o,b,p,B7 _,s,w,t,u,B,d,r,m⟩,fun i z=>?_⟩
 have k:i<b.length:=oo
 obtain ⟨a,q,y⟩:=(w.slF s.ole).at pos k
 exact ⟨a,b[i],q,r.get z k,y⟩
def Lst2.call(m:Mon R)(m2:Mon R2){F:FuncId}{args:Array Value}{K:VP}(l:Lst2 R e R2 e2 h0 hp A c n f A2 c2 n2 f2)(x:∀ g,h0.le g->aF P F args g (fun r g'=>g.le g'/\∀ h',hp.le h'->Lst2 R e R2 e2 g' h' A c n f A2 c2 n2 f2->K r h')):aF P F args hp K:=by
 obtain ⟨g,o,p,j,y,s,w,q,t,u,b,r,i⟩:=l
 refine s.call (FCall.mono (x g y) ?_)
 rintro v g' ⟨a,k⟩ h' d
 exact k h' (s.le_le d a) ⟨g',o,p,j,B7 _,d,w,q,t,u,b,r.mono m a,i.mono m2 a⟩
end
def A9u{x:Nat->Rat}: ∀ (e:List Int) (a:Nat),(∀ j,a<=j->j<a+e.length->Whl (x j))->∃ z:Int,mvl x e a=z/\z.natAbs<=2^(e.map Int.toNat).sum
 | [],_,_=>⟨1,rfl,by simp⟩
 | e::es,a,h=>by
  obtain ⟨z,hz,hl⟩:=A9u es (a+1) fun j f c=>h j o (by simp at c ⊢;omega)
  obtain ⟨y,d,b⟩:=h a o (by simp)
  refine ⟨y^e.toNat*z,?_,?_⟩
  ·unfold mvl
   rw [hz,d,aN,Rat.intCast_pow]
  ·rw [aD,Int.natAbs_pow,List.map_cons,List.sum_cons,Nat.pow_add]
   exact aC (Nat.pow_le_pow_left b _) hl
def B9n{v n:Nat}{X:Nat->Nat->Rat}{w:Nat->Rat}{e:List Int}(he:e.length=v)(hd:(e.map Int.toNat).sum<=6)(hX:∀ l j,l<n->j<v->Whl (X l j))(hw:∀ l,l<n->W12 (w l)):∀ k,k<=n->∃ z:Int,ofS w X e k*12=z/\z.natAbs<=k*6912:=by
 intro k
 induction k with
 | zero=>exact fun _=>⟨0,by unfold ofS sm;simp,by simp⟩
 | succ k ih=>
  intro g
  obtain ⟨z,f,m⟩:=ih o
  obtain ⟨y,c,a⟩:=A9u (x:=X k) e 0 fun j _ i=>hX k j o o
  obtain ⟨u,d,r,q⟩:=hw k o
  have b:y.natAbs<=64:=aH a (aJ dc hd)
  refine ⟨z+u*y,?_,?_⟩
  ·have:ofS w X e (k+1)=ofS w X e k+w k*mvl (X k) e 0:=rfl
   rw [this,c,Rat.intCast_add,aN,<- f,<- d]
   grind
  ·have p:(u*y).natAbs<=108*64:=by rw [aD];exact aC o b
   omega
def C13{x:Rat}{z:Int}(h:x*12=z)(hz:z.natAbs<=20736):Sz 15 x:=by
 have e:x=Rat.divInt z 12:=by rw [aL,<- h];grind
 rw [e]
 exact U3 dc (by unfold ZB;omega) (by unfold ZB;decide)
section
set_option maxRecDepth 100000
variable {h:aG} {K:VP}
end
def cj(a b u v:Int):Nat->Int × Int
 | 0=>(u,v)
 | k+1=>(a*(cj a b u v k).1+b*(cj a b u v k).2,a*(cj a b u v k).2+(cj a b u v k).1)
def C0d{a b u v:Int}(ha:a.natAbs<=2)(hb:b.natAbs<=5)(hu:u.natAbs<=5)(hv:v.natAbs<=5):∀ k,(cj a b u v k).1.natAbs<=5*7^k/\(cj a b u v k).2.natAbs<=5*7^k:=by
 intro k
 induction k with
 | zero=>exact ⟨hu,hv⟩
 | succ k ih=>
  have e:(a*(cj a b u v k).1).natAbs<=2*(5*7^k):=by rw [aD];exact aC ha ih.1
  have f:(b*(cj a b u v k).2).natAbs<=5*(5*7^k):=by rw [aD];exact aC hb ih.2
  have d:(a*(cj a b u v k).2).natAbs<=2*(5*7^k):=by rw [aD];exact aC ha ih.2
  have g:=Int.natAbs_add_le (a*(cj a b u v k).1) (b*(cj a b u v k).2)
  have i:=Int.natAbs_add_le (a*(cj a b u v k).2) (cj a b u v k).1
  have c:=ih.1
  rw [Nat.pow_succ]
  exact ⟨by show (a*(cj a b u v k).1+b*(cj a b u v k).2).natAbs<=_;omega,by show (a*(cj a b u v k).2+(cj a b u v k).1).natAbs<=_;omega⟩
def C0x{z:Int}{m:Nat}(h:z.natAbs<2^m):ZB m z:=h
def Vb{z:Int}{m n:Nat}(h:z.natAbs<=n)(hn:n<2^m)(hm:1<=m):Sz m (z:Rat):=Sz.int (C0x (Nat.lt_of_le_of_lt h hn)) hm
def A5v:∀ v:Fin 3,1<=v.val->∀ i:Fin 28,i.val<(mo v 4).length->((mon v 4 i).map Int.toNat).sum<=6:=by decide +kernel
def Xz:(mo 1 4).length=5:=B0d
section
variable {h h' g o:aG} {K:VP} {A B:Option Addr} {c m v d D tb:Nat} {V:Nat->Rat} {xs:List Int}
def Sep.lit1{α β:Type}[E:Enc α]{R:aG->α->β->Prop}(m:Mon R){P:Program}{t e:TypeId}{z:Value}{bytes:Nat}(st:SliceT P t e z E.default.size bytes)(s:Sep h g o){v:Value}{y:α}(hv:v.cells=(enc y).toArray)(hsz:E.default.size<=1000){q:β}(hR:R g y q){K:VP}
 (x:∀ b h' g',g.le g'->Sep h' g' o->RowV R g' (some ⟨b,0,none⟩) 1 (fun _=>q)->K (.slice (some ⟨b,0,none⟩) 1 1) h'):wpH P (Instr.buildSlice t 1 #[(0,v)]) K h:=by
 have f:(enc y).length=E.default.size:=E.default.len y
 refine Y5 st (vs:=[v]) (fun u a=>by rw [List.mem_singleton.1 a,hv,List.size_toArray,f]) rfl (by simp;omega) rfl fun b d=>?_
 have j:g b=none:=s.free d
 have c:=Heap.le_put (.cells ([v].flatMap fun v=>v.cells.toList).toArray e) j
 refine x b _ _ c (s.vis d _) ⟨[y],SlV.new _ _ _ _ _ _ (fun i u a=>by simpa [hv] using a),rfl,fun i k=>⟨y,?_,m _ _ _ _ c hR⟩⟩
 obtain rfl:i=0:=oo
 rfl
def B0t{a b u w:Int}{wa wb wu wv:QV}(ia:NQ h wa (a:Rat))(ib:NQ h wb (b:Rat))(iu:NQ h wu (u:Rat))(iv:NQ h wv (w:Rat))(ha:a.natAbs<=2)(hb:b.natAbs<=5)(hu:u.natAbs<=5)(hv:w.natAbs<=5)
 (hK:∀ A' c' h',h.le h'->RowV NQr h' A' 5 (fun i=>((2:Int):Rat)*((cj a b u w i).1:Rat))->K (.agg #[I 1,I 4,.slice A' 5 c']) h'):aF prog 70 #[wa.v,wb.v,wu.v,wv.v,I 4] h K:=by
 have le:=C0d ha hb hu hv
 have s1:∀ k,k<=5->Sz 20 ((cj a b u w k).1:Rat)/\Sz 20 ((cj a b u w k).2:Rat):=fun k hk=>by
  have p:5*7^k<=5*7^5:=Nat.mul_le_mul_left _ (aJ (n:=7) dc hk)
  exact ⟨Vb (aH (le k).1 p) dc dc,Vb (aH (le k).2 p) dc dc⟩
 have O:Sz 20 (a:Rat):=Vb ha dc dc
 have sb:Sz 20 (b:Rat):=Vb hb dc dc
 have s2:Sz 20 (((2:Int):Rat)):=Vb (n:=2) dc dc dc
 refine (fnk func70 [(4,[14],[(11,3),(12,4),(13,4)],[I 0,I 0,I 0,.slice none 0 0,.bool false,.slice none 0 0,.bool false,.slice none 0 0,.bool false,.slice none 0 0,.bool false,.slice none 0 0])] (os:=[(2,[2,3,0,1,4,5]),(6,[0,1,3,2,4,5,6,7,8]),(7,[0,1,3,4,7,8,10,2,5,6,9,11,12,13])]) (own:=[5,6,7,8,10,11,12,13]) (wr:=[1000000000])) ?_
 refine ⟨fun L hp=>∃ (k:Nat) (A':Option Addr) (c':Nat) (g:aG) (f j:QV),k<=5/\L=[I (k:Int),I 1,I 4,.slice A' k c',.bool f.s,.slice f.A f.n f.c,.bool f.s2,.slice f.A2 f.n2 f.c2,.bool j.s,.slice j.A j.n j.c,.bool j.s2,.slice j.A2 j.n2 j.c2]/\h.le g/\Lst NQr 37 g hp A' c' k (fun i=>((2:Int):Rat)*((cj a b u w i).1:Rat))/\NQ g f ((cj a b u w k).1:Rat)/\NQ g j ((cj a b u w k).2:Rat),fun L _=>5-(iAt L 0).toNat,⟨0,none,0,h,wu,wv,oo,rfl,B7 _,Lst.nil,iu,iv⟩,?_⟩
 rintro z l0 l1 lA d lc x0 am ar a3 x2 al ay au y0 a0 a4 aw y2 aq a2 az hp ⟨k,A',c',g,f,j,hk,eL,G,L,ix,iy⟩
 simp only [aO,aM,aK,Value.bool.injEq,true_and,and_true] at eL
 obtain ⟨rfl,rfl,rfl,⟨rfl,rfl,rfl⟩,rfl,⟨rfl,rfl,rfl⟩,rfl,⟨rfl,rfl,rfl⟩,rfl,⟨rfl,rfl,rfl⟩,rfl,⟨rfl,rfl,rfl⟩⟩:=eL
 refine C0 (fun ao=>?_) (fun a1=>?_)
 ·have a6:d<=4:=oo
  obtain ⟨R,Q⟩:=s1 d oo
  refine L.call J4 fun g1 aa=>Gb oo fun w1 h1 l1 i1=>⟨l1,fun h2 l2 L2=>⟨_,_,_,_,_,_,_,_,rfl,l2,?_⟩⟩
  have b1:=B0 aa l1
  refine L2.call J4 fun g3 B=>P7 (a:=w1) (b:=f) (m:=20) (NQ.mono B i1) (NQ.mono (B0 b1 B) ix) s2 R oo fun w3 h3 l3 i3=>⟨l3,fun h4 l4 L4=>⟨_,_,_,_,_,_,_,_,rfl,l4,?_⟩⟩
  have T:=B0 b1 (B0 B l3)
  refine L4.pushG J4 Io rfl (y:=w3) (by rfl) i3 dc oo fun A5 c5 h5 L5=>?_
  refine L5.call J4 fun g6 D=>P7 (a:=wa) (b:=f) (m:=20) (NQ.mono (B0 G (B0 T D)) ia) (NQ.mono (B0 T D) ix) O R oo fun w6 h6 l6 i6=>⟨l6,fun h7 l7 L7=>⟨_,_,_,_,_,_,_,_,rfl,l7,?_⟩⟩
  have V:=B0 T (B0 D l6)
  refine L7.call J4 fun g8 C=>P7 (a:=wb) (b:=j) (m:=20) (NQ.mono (B0 G (B0 V C)) ib) (NQ.mono (B0 V C) iy) sb Q oo fun w8 h8 l8 i8=>⟨l8,fun h9 l9 L9=>⟨_,_,_,_,_,_,_,_,rfl,l9,?_⟩⟩
  have b8:=B0 C l8
  refine L9.call J4 fun av r=>Al (a:=w6) (b:=w8) (m:=40) (NQ.mono (B0 b8 r) i6) (NQ.mono r i8) ((O.mul R).mono oo) ((sb.mul Q).mono oo) oo fun af ap E ad=>⟨E,fun a5 ag L11=>⟨_,_,_,_,_,_,_,_,rfl,ag,?_⟩⟩
  have t:=B0 V (B0 b8 (B0 r E))
  refine L11.call J4 fun a7 l=>P7 (a:=wa) (b:=j) (m:=20) (NQ.mono (B0 G (B0 t l)) ia) (NQ.mono (B0 t l) iy) O Q oo fun ah ax M ai=>⟨M,fun aj W L13=>⟨_,_,_,_,_,_,_,_,rfl,W,?_⟩⟩
  have N:=B0 l M
  refine L13.call J4 fun an q=>Al (a:=ah) (b:=f) (m:=40) (NQ.mono q ai) (NQ.mono (B0 t (B0 N q)) ix) ((O.mul Q).mono oo) (R.mono oo) oo fun ae S F X=>⟨F,fun ak ac L15=>⟨_,_,_,_,_,_,_,_,rfl,ac,?_⟩⟩
  have H:=B0 N (B0 q F)
  rw [wiS d oo]
  refine ⟨⟨d+1,A5,c5,S,af,ae,oo,rfl,B0 G (B0 t H),L15,?_,?_⟩,by simp only [S7];omega⟩
  ·have e:((cj a b u w (d+1)).1:Rat)=(a:Rat)*((cj a b u w d).1:Rat)+(b:Rat)*((cj a b u w d).2:Rat):=by
    show ((a*(cj a b u w d).1+b*(cj a b u w d).2:Int):Rat)=_
    push_cast;rfl
   rw [e];exact NQ.mono H ad
  ·have e:((cj a b u w (d+1)).2:Rat)=(a:Rat)*((cj a b u w d).2:Rat)+((cj a b u w d).1:Rat):=by
    show ((a*(cj a b u w d).2+(cj a b u w d).1:Int):Rat)=_
    push_cast;rfl
   rw [e];exact X
 ·obtain rfl:d=5:=oo
  exact hK _ _ _ (B0 G L.le) (L.row J4)
def B2u{x q:Rat}{z:Int}(h:x*12=z)(hz:z.natAbs<=6912)(hq:Whl q):∃ y:Int,(x+q)*12=y/\y.natAbs<=20736:=by
 obtain ⟨k,rfl,a⟩:=hq
 exact ⟨z+12*k,by push_cast;rw [<- h];grind,oo⟩
def Su(s:Sep h g o)(t:aI g o tb xs)
 (hK:∀ v A c V h',g.le h'->RnV h' A v 4 15 V->K (.agg #[I (v:Int),I 4,.slice A (mo v 4).length c]) h'):aF prog 23 #[.pointer (some ⟨tb,0,none⟩)] h K:=by
 refine (fnk func23 [(7,[37],[],[I 0])] (os:=[(9,[0,1,2,3,4,5,6,8,7,9,10,11,12])]) (al:=[(9,[(7,[9])])]) (own:=[2,3]) (wr:=[8,9,52,53])) ?_
 refine V5 (n:=4) s t oo fun r0 h0 o0 a4 s0 t0 _=>⟨_,rfl,?_⟩
 refine D4 (fun e0=>?_) (fun e0=>?_)
 ·refine Z9 (k:=2) oo s0 t0 fun w1 q1 h1 g1 o1 l1 s1 t1 _ i1 z1=>⟨_,_,_,_,_,_,_,_,rfl,?_⟩
  obtain ⟨a,rfl,ha⟩:=z1
  refine V5 (n:=5) s1 t1 oo fun r2 h2 o2 ar s2 t2 _=>⟨_,rfl,?_⟩
  rw [show C4 (1+(r2:Int))=((1+r2:Nat):Int) by rw [C1]<;>omega]
  refine s2.call (Gb oo fun w3 g3 l3 i3 h3 s3=>⟨_,_,_,_,_,_,_,_,rfl,?_⟩)
  refine V5 (n:=3) s3 (t2.keep l3 fun _ e=>e) oo fun r4 h4 o4 a6 s4 t4 _=>⟨_,rfl,?_⟩
  rw [show C4 (3+(r4:Int))=((3+r4:Nat):Int) by rw [C1]<;>omega]
  refine s4.call (Gb oo fun w5 g5 l5 i5 h5 s5=>⟨_,_,_,_,_,_,_,_,rfl,?_⟩)
  refine Z9 (k:=1) oo s5 (t4.keep l5 fun _ e=>e) fun w6 q6 h6 g6 o6 l6 s6 t6 _ i6 z6=>⟨_,_,_,_,_,_,_,_,rfl,?_⟩
  obtain ⟨d,rfl,hd⟩:=z6
  have ay:=B0 l3 l5
  have ai:=B0 ay l6
  refine s6.call (B0t (wa:=w1) (wb:=w3) (wu:=w5) (wv:=w6) (NQ.mono ai i1) (NQ.mono (B0 l5 l6) i3) (NQ.mono l6 i5) i6 ha oo oo oo fun A7 c7 g7 l7 r7 h7 s7=>⟨_,_,_,_,_,rfl,?_⟩)
  have r:=hK 1 A7 c7 _ h7 (B0 (B0 l1 ai) (B0 l7 s7.le)) ⟨oo,oo,oo,by rw [Xz];exact r7.mono J4 s7.le,fun i H=>?_,oo,oo⟩
  ·rw [Xz] at r;exact r
  ·rw [Xz] at H
   have p:5*7^i<=5*7^4:=Nat.mul_le_mul_left _ (aJ (n:=7) dc oo)
   have c:=(C0d (b:=((1+r2:Nat):Int)) (u:=((3+r4:Nat):Int)) (v:=d) ha oo oo oo i).1
   rw [<- aN]
   refine Vb (n:=2*(5*7^4)) ?_ dc dc
   rw [aD]
   exact aC (aE _) (aH c p)
 refine D4 (fun M=>?_) (fun M=>?_)
 ·refine Z9 (k:=2) oo s0 t0 fun w1 q1 h1 g1 o1 l1 s1 t1 _ i1 z1=>⟨_,_,_,_,_,_,_,_,rfl,?_⟩
  refine s1.lit1 J4 Io (y:=w1) (by rfl) dc i1 fun b2 h2 g2 l2 s2 r2=>⟨_,_,_,rfl,?_⟩
  refine s2.lit1 (Xs 1) B5a (y:=(⟨some ⟨b2,0,none⟩,1,1⟩:HV)) (by rfl) dc (q:=fun _=>q1) ⟨rfl,aE _,r2⟩ fun b3 h3 g3 l3 s3 r3=>⟨_,_,_,rfl,?_⟩
  have ah:=B0 l2 l3
  refine Sa s3 (t1.keep ah fun _ e=>e) fun w4 q4 h4 g4 o4 l4 s4 t4 _ i4 z4=>⟨_,_,_,_,_,_,_,_,rfl,?_⟩
  refine s4.lit1 J4 Io (y:=w4) (by rfl) dc i4 fun b5 h5 g5 l5 s5 r5=>⟨_,_,_,rfl,?_⟩
  have hX:∀ l j,l<1->j<1->Whl ((fun (_:Nat) (_:Nat)=>q1) l j):=fun _ _ _ _=>z1
  have hw:∀ l,l<1->W12 ((fun (_:Nat)=>q4) l):=fun _ _=>z4
  refine s5.call (Vj (n:=1) (v:=1) (D:=4) (RowsV.mono (B0 l4 l5) (RowsV.of r3)) r5 oo oo oo oo oo (fun l j E hj=>(hX l j E hj).sz) (fun l E=>(hw l E).sz.1.mono oo) fun A6 c6 g6 L6 h6 s6=>⟨_,_,_,_,_,rfl,?_⟩)
  obtain ⟨g7,p7,ys,l7,s7,an,ap,ao⟩:=L6
  have sj:=s6.join s7
  have aj:=s6.beside s7
  have oj:∀ k x,o4 k=some x->(o4.join p7) k=some x:=fun k x e=>by
   show (match p7 k with|some x=>some x|none=>o4 k)=_
   rw [aj k x e];exact e
  have pj:∀ k x,p7 k=some x->(o4.join p7) k=some x:=fun k x e=>by
   show (match p7 k with|some x=>some x|none=>o4 k)=_
   rw [e]
  have tj:aI g7 (o4.join p7) tb xs:=t4.keep (B0 l5 l7) fun x e=>oj _ _ e
  have au:=an.keep (o':=o4.join p7) fun b x _ e=>pj b x e
  have ae:A6≠some ⟨tb,0,none⟩:=fun e=>by
   obtain ⟨x,hx⟩:=an.blk e
   obtain ⟨_,_,_,_,a1,_⟩:=id t4
   rw [aj _ _ a1] at hx;cases hx
  have aw:g.le g7:=B0 l1 (B0 ah (B0 l4 (B0 l5 l7)))
  have ad:∀ i,i<(mo 1 4).length->∃ z:Int,ofS (fun _=>q4) (fun _ _=>q1) (mon 1 4 i) 1*12=z/\z.natAbs<=6912:=fun i H=>by
   obtain ⟨z,M,e2⟩:=B9n (v:=1) (n:=1) (X:=fun _ _=>q1) (w:=fun _=>q4) ((N5 oo oo (show 4<=6 from oo)).val i H).2.1 (A5v ⟨1,oo⟩ (aE 1) ⟨i,by rw [Xz] at H;omega⟩ H) hX hw 1 (aE _)
   exact ⟨z,M,oo⟩
  rw [Xz] at ap ao ad
  rw [Xz]
  refine ⟨fun L hp=>∃ (i:Nat) (g o:aG) (ys:List QV) (W:Nat->Rat),i<=5/\L=[I (i:Int)]/\g7.le g/\Sep hp g o/\aI g o tb xs/\OwnSl o 37 A6 c6 ys/\ys.length=5/\Row NQr g ys 5 W/\(∀ l,l<5->∃ z:Int,W l*12=z/\z.natAbs<=20736)/\(∀ l,i<=l->l<5->∃ z:Int,W l*12=z/\z.natAbs<=6912),fun L _=>5-(iAt L 0).toNat,⟨0,g7,_,ys,_,oo,rfl,B7 _,sj,tj,au,ap,ao,fun l E=>?_,fun l _ E=>ad l E⟩,?_⟩
  ·obtain ⟨z,M,e2⟩:=ad l E
   exact ⟨z,M,oo⟩
  rintro z hp ⟨i,g8,o8,O,W,H,eL,l8,s8,t8,R,aa,ac,hW,ak⟩
  obtain rfl:=sI1 eL
  refine C0 (fun a2=>?_) (fun a5=>?_)
  ·have af:i<5:=oo
   have S:i<O.length:=oo
   obtain ⟨b,rfl,_⟩:=R.rowB (by intro e;rw [e] at aa;cases aa)
   obtain ⟨a,ea,T⟩:=(R.slF s8.ole).at dc S
   simp only [Option.some.injEq] at ea
   subst ea
   have iw:NQ g8 O[i] (W i):=ac.get af S
   obtain ⟨z,M,e2⟩:=ak i (aE _) af
   have r:∀ {q:Rat} {w9 G:QV} {h9 g9 o9 N C:aG},g8.le g9->Sep h9 g9 o9->aI g9 o9 tb xs->OffB tb o8 o9->Whl q->g9.le C->Sep N C o9->NQ C G (W i+q)->
    wpH prog (Instr.storeAt 37 (.pointer (some (Addr.add ⟨b,0,none⟩ (i*4)))) G.v) (fun _ hq=>(∃ (i':Nat) (g o:aG) (ys:List QV) (W:Nat->Rat),i'<=5/\[I (C4 ((i:Int)+1))]=[I (i':Int)]/\g7.le g/\Sep hq g o/\aI g o tb xs/\OwnSl o 37 (some ⟨b,0,none⟩) c6 ys/\ys.length=5/\Row NQr g ys 5 W/\(∀ l,l<5->∃ z:Int,W l*12=z/\z.natAbs<=20736)/\(∀ l,i'<=l->l<5->∃ z:Int,W l*12=z/\z.natAbs<=6912))/\5-(iAt [I (C4 ((i:Int)+1))] 0).toNat<5-(iAt [I (i:Int)] 0).toNat) N:=fun {q w9 G h9 g9 o9 N C} l9 s9 t9 F zq f B Q=>by
    refine OwnSl.store A03 (y:=G) (by rfl) B (F.own R ae) S rfl fun a7 ax av ag am=>?_
    rw [wiS i oo]
    refine ⟨⟨i+1,C,ax,_,fun l=>if l=i then W i+q else W l,oo,rfl,B0 l8 (B0 l9 f),av,t9.keep f fun x e=>?_,ag,by rw [List.length_set];exact aa,(ac.mono J4 (B0 l9 f)).upd S Q,fun l E=>?_,fun l E az=>?_⟩,by simp only [S7];omega⟩
    ·rw [am _ fun q=>ae (by rw [q])];exact e
    ·show ∃ z:Int,(if l=i then W i+q else W l)*12=z/\_
     split
     ·exact B2u M e2 zq
     ·exact hW l E
    ·show ∃ z:Int,(if l=i then W i+q else W l)*12=z/\_
     rw [iN oo]
     exact ak l oo az
   obtain ⟨x,a0,aq⟩:=id (hW i af)
   have sW:Sz 15 (W i):=C13 a0 aq
   refine ⟨_,rfl,oo,oo,⟨_,_,_,_,_,_,_,_,T 0 _ rfl,T 1 _ rfl,T 2 _ rfl,T 3 _ rfl,?_⟩,?_⟩
   ·refine Z9 (k:=1) oo s8 t8 fun w9 q9 h9 g9 o9 l9 s9 t9 F i9 z9=>⟨_,_,_,_,_,_,_,_,rfl,?_⟩
    refine s9.call (Al (a:=O[i]) (b:=w9) (m:=15) (NQ.mono l9 iw) i9 sW (z9.sz.mono oo) oo fun G C f Q N B=>⟨_,_,_,_,_,_,_,_,rfl,s9.le_le B f,_,rfl,oo,oo,?_⟩)
    exact r (w9:=w9) l9 s9 t9 F z9 f B Q
   ·refine Z9 (k:=1) oo s8 t8 fun w9 q9 h9 g9 o9 l9 s9 t9 F i9 z9=>⟨_,_,_,_,_,_,_,_,rfl,?_⟩
    obtain ⟨a,ea,T⟩:=((F.own R ae).slF s9.ole).at dc S
    simp only [Option.some.injEq] at ea
    subst ea
    refine ⟨_,_,_,_,_,_,_,_,T 0 _ rfl,T 1 _ rfl,T 2 _ rfl,T 3 _ rfl,?_⟩
    refine s9.call (Al (a:=O[i]) (b:=w9) (m:=15) (NQ.mono l9 iw) i9 sW (z9.sz.mono oo) oo fun G C f Q N B=>⟨_,_,_,_,_,_,_,_,rfl,s9.le_le B f,_,rfl,oo,oo,?_⟩)
    exact r (w9:=w9) l9 s9 t9 F z9 f B Q
  ·have r:=hK 1 A6 c6 W hp (B0 aw (B0 l8 s8.le)) ⟨oo,oo,oo,by rw [Xz];exact ⟨O,R.slF s8.ole,aa,ac.mono J4 s8.le⟩,fun i H=>?_,oo,oo⟩
   ·rw [Xz] at r;exact r
   ·rw [Xz] at H
    obtain ⟨z,M,e2⟩:=hW i H
    exact C13 M e2
 ·refine V5 (n:=2) s0 t0 oo fun r2 h2 o2 ar s2 t2 _=>⟨_,rfl,?_⟩
  obtain ⟨v,hv⟩:∃ v,v=1+r2:=⟨_,rfl⟩
  rw [show C4 (1+(r2:Int))=(v:Int) by rw [C1]<;>omega]
  refine A3l (v:=v) oo oo s2 t2 fun n XA xc WA wc X w h3 n1 n3 l3 rX rW hX hw=>⟨_,_,_,_,_,_,rfl,?_⟩
  refine A0b (D:=4) (RowsV.of rX) rW n1 n3 oo oo oo (fun l j E hj=>(hX l j E hj).sz) (fun l E=>(hw l E).sz.1.mono oo) fun A4 c4 h4 l4 r4=>⟨_,_,_,_,_,rfl,?_⟩
  refine hK v A4 c4 _ h4 (B0 l3 l4) ⟨oo,oo,oo,r4,fun i H=>?_,oo,oo⟩
  have a3:=(N5 (v:=v) oo oo (show 4<=6 from oo)).len
  obtain ⟨z,M,e2⟩:=B9n (v:=v) (n:=n) ((N5 oo oo (show 4<=6 from oo)).val i H).2.1 (A5v ⟨v,oo⟩ (by dsimp only;omega) ⟨i,oo⟩ H) hX hw n (aE _)
  exact C13 M (by have:n*6912<=3*6912:=Nat.mul_le_mul_right _ n3;omega)
def stF(V:Nat->Rat)(v d:Nat):Int:=if d<1\/4<2*d then 3 else if 1<=rkM V v d/\rkM V v d=rkM V v (d-1) then 0 else 11
def Vd(f:RnV h A v 4 m V)(hd:d<=3)(hK:∀ h',h.le h'->K (I (stF V v d)) h'):
 aF prog 26 #[.agg #[I (v:Int),I 4,.slice A (mo v 4).length c],I (d:Int),.bool false] h K:=by
 have g:d<1\/4<2*d->stF V v d=3:=fun x=>iP x
 refine (fnk func26 (own:=[3])) ?_
 refine C0 (fun e=>by have:=hK _ (B7 _);rwa [g oo] at this) (fun j=>?_)
 rw [show C4 (2*(d:Int))=((2*d:Nat):Int) by rw [C1]<;>omega]
 refine C0 (fun e=>by have:=hK _ (B7 _);rwa [g oo] at this) (fun l=>?_)
 refine A3b (D:=4) f oo oo oo fun n k i b=>⟨_,rfl,?_⟩
 have a:=hK _ i
 unfold stF at a
 rw [iN oo] at a
 refine Br.not (Br.of (fun e=>?_) (fun e=>?_))
 ·rw [iP (b.1 e)] at a;exact a
 ·rw [iN fun x=>by rw [b.2 x] at e;cases e] at a;exact a
end
def C36(d:Int):∃ e:Nat,e<=3/\aP (C4 (aP d 4+4)) 4=(e:Int):=by
 have a: -4<aP d 4/\aP d 4<4:=by
  have b:=Nat.mod_lt d.natAbs (show 0<4 from o)
  have tt:=Wy d.natAbs 4
  grind
 generalize aP d 4=w at *
 rw [C1 o o,Int.tmod_eq_emod_of_nonneg o]
 exact ⟨((w+4)%4).toNat,o,o⟩
section
variable {h h':aG} {K:VP} {A B:Option Addr} {c m v d n ac bc:Nat} {V:Nat->Rat} {xs:List Int}
def Xe(x:SlI .i64 h A xs)(y:SlI .i64 h B xs)(hl:xs.length<=1000)(hK:K (.bool true) h):aF prog 29 #[.slice A xs.length ac,.slice B xs.length bc] h K:=by
 refine (fnk func29 [(4,[13],[],[I 0])]) ?_
 refine E5 (fun e=>absurd rfl e) (fun _=>?_)
 refine ⟨fun L a=>∃ k:Nat,k<=xs.length/\L=[I (k:Int)]/\a=h,fun L _=>xs.length-(iAt L 0).toNat,⟨0,o,rfl,rfl⟩,?_⟩
 rintro z a ⟨k,f,d,rfl⟩
 obtain rfl:=sI1 d
 refine C0 (fun c=>?_) (fun b=>hK)
 refine x.load rfl o o (y.load rfl o o (E5 (fun e=>absurd rfl e) (fun _=>?_)))
 rw [wiS k o]
 exact ⟨⟨k+1,o,rfl,rfl⟩,by simp only [S7];omega⟩
def A2y{V:Nat->Rat}{v d:Nat}(h:d<1\/4<2*d):stF V v d=3:=iP h
def A2x{V:Nat->Rat}{v d:Nat}(h1:1<=d)(h2:2*d<=4)(h:¬ (rkM V v d=rkM V v (d-1)/\1<=rkM V v d)):stF V v d=11:=by
 unfold stF
 rw [iN o,iN (fun x=>h ⟨x.2,x.1⟩)]
def B46{V:Nat->Rat}{v d:Nat}(h1:1<=d)(h2:2*d<=4)(h:rkM V v d=rkM V v (d-1)/\1<=rkM V v d):stF V v d=0:=by
 unfold stF
 rw [iN o,iP ⟨h.2,h.1⟩]
def A7p(gl:Gl h)(f:FnV h A v 4 15 V)(hd:d<=3)(hw:stF V v d≠0)(hK:∀ h',h.le h'->K (.tuple #[.slice none 0 0,I (stF V v d)]) h'):
 aF prog 24 #[.agg #[I (v:Int),I 4,.slice A (mo v 4).length c],I (d:Int)] h K:=by
 refine Mm (D:=4) gl f o o hd (fun e h' l=>?_) (fun b a no h' l=>?_) (fun k i a g j=>absurd (B46 o a ⟨by rw [g,i];rfl,o⟩) hw)
 ·rw [<- A2y (V:=V) (v:=v) e];exact hK _ l
 ·rw [<- A2x b a no];exact hK _ l
def B2x{var:Int}(gl:Gl h)(f:FnV h A v 4 15 V)(hd:d<=3)(hw:stF V v d≠0)(hK:∀ h',h.le h'->K (.tuple #[Cu 0 0 none 0 0,I (if var<0\/(v:Int)<=var then 3 else stF V v d)]) h'):
 aF prog 25 #[.agg #[I (v:Int),I 4,.slice A (mo v 4).length c],I (d:Int),I var] h K:=by
 refine An (D:=4) gl f o o hd (fun e h' l=>?_) (fun b a k m no h' l=>?_) (fun n j i _ _ a g p=>absurd (B46 o a ⟨by rw [g,i];rfl,o⟩) hw)
 ·have:=hK _ l
  by_cases x:var<0\/(v:Int)<=var
  ·rwa [iP x] at this
  ·rwa [iN x,A2y o] at this
 ·have:=hK _ l
  rwa [iN o,A2x b a no] at this
structure MulR (V:Nat->Rat) (v d:Nat) (var:Int) (h:aG) (e a b:Int) (MA:Option Addr) (mn:Nat):Prop where
 bad:var<0\/(v:Int)<=var->e=3/\a=0/\b=0/\mn=0
 good:∀ j:Nat,var=(j:Int)->j<v->e=0/\a=(rkM V v d:Int)/\b=(rkM V v d:Int)/\mn=rkM V v d*rkM V v d/\RowV SSr h MA (rkM V v d*rkM V v d) (N2 (fmM V (uni j) v d) (rkM V v d))
def A9w{var:Int}(gl:Gl h)(f:FnV h A v 4 15 V)(hd:d<=1)(hf:rkM V v (d+1)=rkM V v d)(hr:1<=rkM V v d)(hK:∀ e a b MA mn mc h',h.le h'->MulR V v d var h' e a b MA mn->K (.tuple #[Cu a b MA mn mc,I e]) h'):
 aF prog 25 #[.agg #[I (v:Int),I 4,.slice A (mo v 4).length c],I ((d+1:Nat):Int),I var] h K:=by
 refine An (D:=4) gl f o o o (fun e h' l=>hK 3 0 0 none 0 0 _ l ⟨fun _=>⟨rfl,rfl,rfl,rfl⟩,fun j g i=>o⟩) (fun g i p s no=>absurd ⟨hf,o⟩ no) ?_
 intro k j t n q _ _ _ MA mc h' l r
 obtain rfl:k=d:=o
 refine hK 0 _ _ MA _ mc _ l ⟨fun e=>o,fun m g i=>?_⟩
 obtain rfl:m=j:=o
 exact ⟨rfl,rfl,rfl,rfl,r⟩
def law_extractBorder{d0 var:Int}{ac:Nat}(gl:Gl h)(sl:SlI .i64 h A xs)(hc:xs.length<=ac):aF prog 4 #[.slice A xs.length ac,I d0,I var] h (C0m h):=by
 refine (fnk func4 [(16,[89],[],[I 0])] (own:=[8,11]) (wr:=[23])) ?_
 obtain ⟨d,hd,ed⟩:=C36 d0
 rw [ed]
 refine A9d sl hc fun b h1 o1 s1 t1 _=>⟨_,rfl,?_⟩
 refine Su s1 t1 fun v FA fc V h2 l2 f=>⟨_,_,_,_,_,rfl,?_⟩
 have G:=f.v1;have O:=f.v2
 have au:=(N5 G O f.d6).len
 refine Cp (m:=15) f.row o f.sz o fun WA wc h3 W r3=>⟨_,_,_,_,_,rfl,?_⟩
 have u:=B0 l2 W
 have fn:FnV h3 WA v 4 15 V:=⟨G,O,f.d6,r3,f.sz,o⟩
 have c:∀ {hx:aG} {K':VP},h.le hx->(∀ h',hx.le h'->K' (.bool true) h')->aF prog 22 #[] hx K':=fun l kk=>A1l (gl.mono l) kk
 have g:∀ {hx:aG} {K':VP} {MA:Option Addr} {mc:Nat},K' (.bool true) hx->aF prog 27 #[Cu 0 0 MA 0 mc,Cu 0 0 none 0 0] hx K':=fun kk=>Hf (ls:=fun _=>[]) RowV.nil RowV.nil o kk
 by_cases E:stF V v d=0
 ·have C:1<=d/\2*d<=4:=aQ fun no=>by
   rw [A2y o] at E;cases E
  have M:rkM V v d=rkM V v (d-1)/\1<=rkM V v d:=aQ fun no=>by
   rw [A2x C.1 C.2 no] at E;cases E
  obtain ⟨d',rfl⟩:∃ d',d=d'+1:=⟨d-1,o⟩
  rw [Nat.add_sub_cancel] at M
  have r1:1<=rkM V v d':=o
  have r6:rkM V v d'<=6:=aH (Rs V v d') (Qu G O o)
  have aq:rkM V v d'*rkM V v d'<=6*6:=aC r6 r6
  refine Mm (D:=4) (gl.mono u) fn o o hd (fun e=>o) (fun _ _ no=>absurd M no) ?_
  intro n ao _ _ _ BA bc h4 Q rb
  obtain rfl:n=d':=o
  refine ⟨_,_,_,_,rfl,?_⟩
  refine Cp (m:=15) (f.row.mono J4 (B0 W Q)) o f.sz o fun WA2 ak h5 l5 r5=>⟨_,_,_,_,_,rfl,?_⟩
  have af:=B0 Q l5
  have r:=B0 u af
  refine A9w (gl.mono r) ⟨G,O,f.d6,r5,f.sz,o⟩ o M.1 r1 fun e a b MA mn mc h6 S R=>⟨_,_,_,_,_,_,rfl,?_⟩
  have ad:=B0 r S
  have f6:=f.mono (B0 W (B0 af S))
  have am:=rb.mono Sm (B0 l5 S)
  refine Vd f6 hd fun h7 l7=>⟨_,rfl,E5 (fun x=>absurd E x) (fun _=>?_)⟩
  refine Lh (D:=4) (f6.mono l7) o o fun CA cc h8 H rc=>⟨_,_,_,rfl,E5 (fun x=>absurd rfl x) (fun _=>E5 (fun x=>absurd rfl x) (fun _=>?_))⟩
  have s:=B0 l7 H
  have N:=B0 ad s
  have f8:=f6.mono s
  have ah:=am.mono Sm s
  refine ⟨fun L hp=>∃ k:Nat,k<=rkM V v n/\L=[I (k:Int)]/\hp=h8,fun L _=>rkM V v n-(iAt L 0).toNat,⟨0,o,rfl,rfl⟩,?_⟩
  rintro z hp ⟨k,hk,eL,rfl⟩
  obtain rfl:=sI1 eL
  refine C0 (fun an=>?_) (fun av=>?_)
  ·have F:k<rkM V v n:=o
   obtain ⟨a1,B1,b1,e1,x1,y1⟩:=ah.mi F
   obtain ⟨a2,B2,b2,e2,x2,y2⟩:=rc.mi F
   refine ⟨a1,e1,o,o,_,_,_,x1,a2,e2,o,o,_,_,_,x2,?_⟩
   refine Xe y1 y2 ?_ ⟨_,rfl,B7 _,Br.nt ?_⟩
   ·have:=((N5 G O (show n<=6 from o)).val _ (Cd V v n F)).2.1
    unfold bdr;omega
   rw [wiS k o]
   exact ⟨⟨k+1,o,rfl,rfl⟩,by simp only [S7];omega⟩
  ·have B:var<0\/(v:Int)<=var->aF prog 22 #[] hp (fun ai q=>∃ (t111:Bool),ai= .bool t111/\Br t111 (Br (e==(3:Int)) (aF prog 27 #[.agg #[I a,I b,.slice MA mn mc],.agg #[I (0:Int),I (0:Int),.slice none 0 0]] q (fun al aa=>∃ (t119:Bool),al= .bool t119/\C0m h (.bool t119) aa)) (C0m h (.bool false) q)) (C0m h (.bool false) q)):=fun x=>by
    obtain ⟨rfl,rfl,rfl,rfl⟩:=R.bad x
    exact c N fun h9 X=>⟨_,rfl,Zd (D4 (fun _=>g ⟨_,rfl,rfl,B0 N X⟩) (fun no=>absurd rfl no))⟩
   refine C0 (fun x=>B (.inl x)) (fun n1=>C0 (fun x=>B (.inr o)) (fun n2=>?_))
   obtain ⟨j,rfl⟩:∃ j:Nat,var=(j:Int):=⟨var.toNat,o⟩
   have hj:j<v:=o
   obtain ⟨rfl,rfl,rfl,rfl,rM⟩:=R.good j rfl hj
   refine c N fun h9 X=>⟨_,rfl,X,Zd (D4 (fun _=>?_) (fun no=>absurd rfl no))⟩
   refine A3a (D:=4) (j:=j) (f8.mono X) o o o r1 hj fun ar ap T aj=>⟨_,_,_,rfl,T,?_⟩
   have sM:∀ i k,i<rkM V v n->k<rkM V v n->Sz 3000000 (fmM V (uni j) v n i k):=fun i k hi hk=>by
    have sb:=A3r (V:=V) (d:=n) (D:=4) G O o o o f.sz hj
    refine (Nv (m:=200000) (w:=rkM V v n) (f:=fun t=>ivM V v n i t) (f2:=fun t=>Zs V (uni j) v n t k) (fun t ht=>(sb i t hi ht).1) (fun t ht=>(sb t k ht hk).2) _ (aE _)).mono ?_
    have:rkM V v n*(2*200000+1)<=6*400001:=Nat.mul_le_mul_right _ r6
    omega
   refine A67 aj o r1 o r1 sM o fun PA pc aw ae ag=>⟨_,_,_,_,_,rfl,ae,?_⟩
   have y:=B0 s (B0 X (B0 T ae))
   exact Hf (rM.mono F0 y) ag o ⟨_,rfl,B7 _,rfl,B0 ad y⟩
 ·refine A7p (gl.mono u) fn hd E fun h4 Q=>⟨_,_,_,_,rfl,?_⟩
  refine Cp (m:=15) (f.row.mono J4 (B0 W Q)) o f.sz o fun WA2 ak h5 l5 r5=>⟨_,_,_,_,_,rfl,?_⟩
  have r:=B0 u (B0 Q l5)
  refine B2x (gl.mono r) ⟨G,O,f.d6,r5,f.sz,o⟩ hd E fun h6 S=>⟨_,_,_,_,_,_,rfl,?_⟩
  refine Vd (f.mono (B0 W (B0 Q (B0 l5 S)))) hd fun h7 l7=>⟨_,rfl,E5 (fun _=>?_) (fun x=>absurd x E)⟩
  have p:=B0 r (B0 S l7)
  refine C0 (fun x=>?_) (fun n1=>C0 (fun x=>?_) (fun n2=>?_))
  ·rw [iP (.inl x)]
   exact c p fun h8 H=>⟨_,rfl,Zd (D4 (fun _=>D4 (fun _=>D4 (fun _=>g ⟨_,rfl,rfl,B0 p H⟩) (fun no=>absurd rfl no)) (fun no=>absurd rfl no)) (fun no=>absurd rfl no))⟩
  ·rw [iP (.inr o)]
   exact c p fun h8 H=>⟨_,rfl,Zd (D4 (fun _=>D4 (fun _=>D4 (fun _=>g ⟨_,rfl,rfl,B0 p H⟩) (fun no=>absurd rfl no)) (fun no=>absurd rfl no)) (fun no=>absurd rfl no))⟩
  ·rw [iN o]
   exact c p fun h8 H=>⟨_,rfl,Zd (D4 (fun _=>D4 (fun _=>D4 (fun _=>g ⟨_,rfl,rfl,B0 p H⟩) (fun no=>absurd rfl no)) (fun no=>absurd rfl no)) (fun no=>absurd rfl no))⟩
end
