/- A part. -/
import Derived.Test.YtmbfcbbkbefgfaaGreatDoorG35
import Derived.Test.YtmbfcbbkbefgfaaGreatDoorG36
import Derived.Deep.SlicePairs
import Derived.Deep.Strs
open Go.Proofs.Tryz
set_option linter.all false
open _root_.Go.Addr renaming add->aM
open _root_.Go.Instr renaming storeAt->bZ
open Int renaming toNat_natCast->aD,tmod->bN,tdiv_eq_ediv_of_dvd->cA
open List renaming getD_eq_getElem?_getD->aC,getElem?_eq_getElem->aE,length_set->aH,range->aI,getElem_mem->aJ,length_append->aK,getElem?_cons_zero->aO,mem_or_eq_of_mem_set->aQ,getElem?_cons_succ->aT,replicate->aU,getElem?_map->aV,length_replicate->aW,getElem?_eq_none->aX,set_cons_succ->aZ,getElem?_range->bJ,getElem?_append_right->bW,getElem?_append_left->bX,getElem?_set_self->cC
open List.cons renaming injEq->bV
open Nat renaming mul_le_mul_left->aN,le_refl->aS,mul_le_mul_right->bH,zero_add->bL,succ_mul->bM,zero_le->bO
open Option.some renaming inj->bF
open Rat renaming le_refl->aF,le_trans->aG,divInt->bC,intCast_mul->bD
open _root_.Go.Value renaming slice->bA,string->bK
open _root_.Go.Value.int renaming injEq->bU
open _root_.Go renaming Addr->aP,Value->aY,TypeId->bG
open _root_.Go.Proofs.YtmbfcbbkbefgfaaGreatDoor renaming Heap->aL,FCall->aR,RowV->bB,RowX->bI,memOf->bY
namespace Go.Proofs.YtmbfcbbkbefgfaaGreatDoor
set_option maxRecDepth 20000
open Go
structure EV where
 x0:Int
 x1:Int
 x2:Int
 x3:Int
 x4:Int
 x5:Int
 w:QV
def EV.xs(e:EV):List Int:=[e.x0,e.x1,e.x2,e.x3,e.x4,e.x5]
def EV.v(e:EV):aY:=.agg #[I e.x0,I e.x1,I e.x2,I e.x3,I e.x4,I e.x5,.bool e.w.s,.slice e.w.A e.w.n e.w.c,.bool e.w.s2,.slice e.w.A2 e.w.n2 e.w.c2]
instance:Enc EV:=⟨⟨fun e=>B5j e.x0 e.x1 e.x2 e.x3 e.x4 e.x5 e.w,10,fun _=>rfl,fun e v hv=>by simp [B5j] at hv;rcases hv with rfl|rfl|rfl|rfl|rfl|rfl|rfl|rfl|rfl|rfl<;>rfl⟩⟩
abbrev ENr:aL->EV->J8->Prop:=fun h e t=>RQ h e.w (rv t.1)/\∀ j,j<6->e.xs.getD j 0=t.2.getD j 0
def Qg:Mon ENr:=fun _ _ _ _ a i=>⟨i.1.mono a,i.2⟩
def B9v:EV:=⟨0,0,0,0,0,0,⟨false,none,0,0,false,none,0,0⟩⟩
def A2z{α:Type}[E:Enc α]{o:aL}{b:Nat}{e:bG}{c:Nat}{zx:α}:OwnSl (o.put b (.cells ((aU c zx).flatMap enc).toArray e)) e (some ⟨b,0,none⟩) c ([]:List α):=
 ⟨bO _,.inr ⟨b,_,rfl,B8 _ _ _,by rw [O6,aW],by simp⟩⟩
def B1g{xs:List Int}(hx:xs.length<=6)(j:Nat):(xs++[0,0,0,0,0,0].drop xs.length).getD j 0=xs.getD j 0:=by
 rw [aC,aC]
 by_cases h:j<xs.length
 ·rw [bX h]
 ·rw [bW (by omega),List.getElem?_drop]
  have a:xs[j]? = none:=aX (by omega)
  rw [a,show xs.length+(j-xs.length)=j by omega]
  match j with
  | 0|1|2|3|4|5=>rfl
  | n+6=>rfl
section
variable {h:aL} {K:VP} {vars:Int}
def Ss{l:List UInt8}{xs:List Int}{A:Option aP}{c:Nat}(gl:Gtz h)(hl:l.length<=100000000)(se:SlI .i64 h A xs)(hv:vars<=6)(hK1:TermOk vars (l,xs)->∀ (e:EV) h',h.le h'->ENr h' e (l,xs)->K (.tuple #[e.v,.bool true]) h')(hK0:¬ TermOk vars (l,xs)->∀ h',h.le h'->K (.tuple #[C1f,.bool false]) h'):aR prog Bm #[I vars,.agg #[.string (bs l),.slice A xs.length c]] h K:=by
 refine Lf _ _ _ _ _ ?_
 unfold Mz
 refine Gx gl hl (fun q e w u g i=>⟨_,_,_,_,_,_,_,_,_,rfl,?_⟩) (fun n w u g _=>⟨_,_,_,_,_,_,_,_,_,rfl,hK0 (fun o=>?_) u g⟩)
 ·refine Bh i ⟨_,rfl,B3 (fun B=>hK0 (fun o=>?_) u g) (fun B=>?_)⟩
  ·obtain ⟨O,D,n'⟩:=o.num
   exact n' (by rw [<- Bg (e.symm.trans D)];exact B)
  refine J9 (fun x=>hK0 (fun o=>x o.len) u g) (fun y=>?_)
  refine ⟨fun l h'=>∃ (k:Nat) (R:List aY),l=I k::R/\k<=xs.length/\(∀ j,j<k->0<=xs.getD j 0/\xs.getD j 0<=1048576)/\h'=u,fun l _=>xs.length-(iAt l 0).toNat,⟨0,_,rfl,by omega,fun j Q=>by omega,rfl⟩,?_⟩
  rintro N ab ag ac ah ae af ai T Z X ad S V aa r ⟨k,R,F,hk,p,rfl⟩
  obtain rfl:N=(k:Int):=by simpa using (List.cons.inj F).1
  refine B3 (fun h2=>?_) (fun h2=>?_)
  ·have d:k<xs.length:=by omega
   refine (se.mono g).load rfl (by omega) (by omega) ?_
   rw [aD]
   refine B3 (fun h3=>hK0 (fun o=>?_) _ g) (fun h3=>B3 (fun h4=>hK0 (fun o=>?_) _ g) (fun h4=>?_))
   ·have:=(o.exps _ (Hb d)).1;exact absurd this (by show ¬ 0<=xs.getD k 0;omega)
   ·have:=(o.exps _ (Hb d)).2;exact absurd this (by show ¬ xs.getD k 0<=1048576;omega)
   ·rw [B5 (by omega) (by omega)]
    refine ⟨⟨k+1,_,rfl,by omega,fun j Q=>?_,rfl⟩,by simp only [iAt,aO];omega⟩
    by_cases C:j=k
    ·subst C;omega
    ·exact p j (by omega)
  ·have d:k=xs.length:=by omega
   subst d
   have ok:TermOk vars (l,xs):=⟨⟨q,e,B⟩,y,Uj p⟩
   refine Rq Dm.info fun b hb=>⟨_,rfl,?_⟩
   refine Lm (n:=4) Zg (vs:=[.bool w.s,.slice w.A w.n w.c,.bool w.s2,.slice w.A2 w.n2 w.c2]) rfl rfl (by simp [St]) (off:=6) (arr:=[I (0:Int),I (0:Int),I (0:Int),I (0:Int),I (0:Int),I (0:Int),.bool false,.slice none 0 0,.bool false,.slice none 0 0]) (by decide) ?_
   have win:Win .i64 (r.put b (.cells (H8 [I (0:Int),I (0:Int),I (0:Int),I (0:Int),I (0:Int),I (0:Int),.bool false,.slice none 0 0,.bool false,.slice none 0 0] 6 [.bool w.s,.slice w.A w.n w.c,.bool w.s2,.slice w.A2 w.n2 w.c2]).toArray C8)) r b C8 (J6 (some (aM ⟨b,0,none⟩ 0)) 6 0 1) [] [0,0,0,0,0,0] [.bool w.s,.slice w.A w.n w.c,.bool w.s2,.slice w.A2 w.n2 w.c2]:=⟨hb,rfl,.inr rfl⟩
   have l2:r.le _:=win.le
   have m:xs.length<=6:=by omega
   refine Ay B7b win rfl ((se.mono g).mono l2) rfl (by simpa using m) fun W H=>⟨_,rfl,?_⟩
   obtain ⟨M,J,G,z,L,E,e6⟩:=B7t (xs++[0,0,0,0,0,0].drop xs.length) (by simp;omega)
   have a:=H.eq
   rw [e6] at a
   refine ⟨M,J,G,z,L,E,_,_,_,_,_,_,_,_,H9 a rfl,H9 a rfl,H9 a rfl,H9 a rfl,H9 a rfl,H9 a rfl,H9 a rfl,H9 a rfl,H9 a rfl,H9 a rfl,?_⟩
   refine hK1 ok ⟨M,J,G,z,L,E,w⟩ W (Heap.le_trans g H.le) ⟨?_,fun j Q=>?_⟩
   ·show RQ W w (rv l)
    rw [e,C3]
    exact i.mono H.le
   ·show [M,J,G,z,L,E].getD j 0=xs.getD j 0
    rw [<- e6,B1g m]
 ·obtain ⟨O,D,_⟩:=o.num
  exact n ⟨O,D⟩
variable {ts:List J8} {A:Option aP} {c:Nat}
def Zf(gl:Gtz h)(pa:PolyAt h A ts)(hl:ts.length<=1000)(hc:∀ i,i<ts.length->(tm ts i).1.length<=100000000)(hK1:WfOk vars ts->∀ A' c' h',h.le h'->bB ENr h' A' ts.length (tm ts)->K (.tuple #[.slice A' ts.length c',.bool true]) h')(hK0:¬ WfOk vars ts->∀ h',h.le h'->K (.tuple #[.slice none 0 0,.bool false]) h'):aR prog L8 #[.agg #[I vars,.slice A ts.length c]] h K:=by
 refine Bc _ _ _ _ ?_
 unfold Z2
 refine B3 (fun h1=>hK0 (fun o=>by have:=o.lo;omega) h (B0 _)) (fun h1=>?_)
 refine B3 (fun h2=>hK0 (fun o=>by have:=o.hi;omega) h (B0 _)) (fun h2=>?_)
 refine Bj (α:=EV) Dm (zx:=B9v) rfl (by omega) (by omega) (by omega) (by omega) fun b hb=>⟨_,_,_,rfl,?_⟩
 rw [aD]
 refine ⟨fun l hp=>∃ (k:Nat) (g o:aL) (p:List EV) (A':Option aP) (c':Nat),k<=ts.length/\l=[.slice A' k c',I (k:Int)]/\h.le g/\Sep hp g o/\OwnSl o C8 A' c' p/\p.length=k/\Row ENr g p k (tm ts)/\∀ j,j<k->B6h vars ts j,fun l _=>ts.length-(iAt l 1).toNat,
  ⟨0,h,_,[],_,_,by omega,rfl,B0 _,Hi hb,A2z,rfl,Row.nil,fun j hj=>by omega⟩,?_⟩
 rintro tA d tc z hp ⟨k,g,o,p,A',c',hk,eL,u,s,ow,m,X,q⟩
 obtain ⟨⟨rfl,rfl,rfl⟩,rfl⟩:=sI2 eL
 have R:=Heap.le_trans u s.le
 refine B3 (fun L=>?_) (fun L=>?_)
 ·have n:d<ts.length:=by omega
  obtain ⟨a,B,cc,e1,e2,e3,e4⟩:=pa d n
  refine ⟨a,e1,by omega,L,_,_,_,_,by rw [aD];exact C4 R e2,by rw [aD];exact C4 R e3,?_⟩
  refine s.call (Ss (gl.mono u) (hc d n) (e4.mono u) (by omega) (fun E e g2 x en D F=>⟨_,_,_,_,_,_,_,_,_,_,_,_,_,_,true,rfl,?_⟩) (fun V g2 x D F=>⟨_,_,_,_,_,_,_,_,_,_,_,_,_,_,false,rfl,hK0 (fun o=>V (o.all d n).1) _ (Heap.le_trans u (Heap.le_trans x F.le))⟩))
  have r:=Heap.le_trans u (Heap.le_trans x F.le)
  have next:B6h vars ts d->wpH prog (Instr.buildSlice I8 1 #[(0,e.v)]) (fun v1 T=>∃ (t57A:Option aP) (t57n:Nat) (t57c:Nat),v1= .slice t57A t57n t57c/\wpH prog (Builtin.append_ #[I8,I8] I8 #[.slice tA d tc,.slice t57A t57n t57c]) (fun v2 S=>∃ (t58A:Option aP) (t58n:Nat) (t58c:Nat),v2= .slice t58A t58n t58c/\(∃ (k:Nat) (g o:aL) (p:List EV) (A':Option aP) (c':Nat),k<=ts.length/\[bA t58A t58n t58c,I (B4 ((d:Int)+1))]=[.slice A' k c',I (k:Int)]/\h.le g/\Sep S g o/\OwnSl o C8 A' c' p/\p.length=k/\Row ENr g p k (tm ts)/\∀ j,j<k->B6h vars ts j)/\ts.length-(iAt [bA t58A t58n t58c,I (B4 ((d:Int)+1))] 1).toNat<ts.length-(iAt [bA tA d tc,I (d:Int)] 1).toNat) T) D:=by
   intro N
   refine A30 (ty:=I8) Dm F ow m.symm (y:=e) rfl (by decide) (by omega) (by omega) ?_
   intro A3 c3 L Z o3 Q s3 O _
   rw [m,B5 (by omega) (by omega)]
   refine ⟨⟨d+1,Z,o3,_,A3,c3,by omega,rfl,Heap.le_trans u (Heap.le_trans x Q),s3,O,by rw [aK,m];rfl,?_,fun j hj=>?_⟩,by simp only [iAt,aT,aO];omega⟩
   ·have rA:Row ENr Z p p.length (tm ts):=by rw [m];exact X.mono Qg (Heap.le_trans x Q)
    have W:=rA.push (w:=e) (by rw [m];exact Qg _ _ _ _ Q en)
    rw [aK,m] at W
    exact W
   ·by_cases J:j=d
    ·subst J;exact N
    ·exact q j (by omega)
  refine B3 (fun h4=>?_) (fun h4=>next ⟨E,fun h0=>by omega⟩)
  have ek:(B4 ((d:Int)-1)).toNat=d-1:=by rw [B5 (by omega) (by omega)];omega
  obtain ⟨a',B',ab,H,aa,G,M⟩:=pa (d-1) (by omega)
  have C:=(q (d-1) (by omega)).1
  refine ⟨a',H,by rw [B5 (by omega) (by omega)];omega,by rw [B5 (by omega) (by omega)];omega,_,_,_,by rw [ek];exact C4 r G,?_⟩
  refine Qe (by have e5:=C.len;have e6:((tm ts d).2.length:Int)=vars:=E.len;omega) (C.exb (by omega)) (E.exb (by omega)) (M.mono r) (e4.mono r) ⟨_,rfl,B0 _,?_⟩
  refine B3 (fun h5=>hK0 (fun o=>?_) _ r) (fun h5=>next ⟨E,fun _=>by omega⟩)
  have:=(o.all d n).2 (by omega)
  omega
 ·have n:d=ts.length:=by omega
  subst n
  exact hK1 ⟨by omega,by omega,q⟩ _ _ _ R ⟨p,ow.slF s.ole,m,X.mono Qg s.le⟩
def Zk(gl:Gtz h)(pa:PolyAt h A ts)(hl:ts.length<=1000)(hc:∀ i,i<ts.length->(tm ts i).1.length<=100000000)(hK1:Gj vars ts->∀ A' c' h',h.le h'->bB ENr h' A' ts.length (tm ts)->K (.tuple #[.slice A' ts.length c',.bool true]) h')(hK0:¬ Gj vars ts->∀ h',h.le h'->K (.tuple #[.slice none 0 0,.bool false]) h'):aR prog Pf #[.agg #[I vars,.slice A ts.length c]] h K:=by
 refine A0w _ _ _ _ ?_
 unfold A9v
 refine B3 (fun s=>by omega) (fun _=>?_)
 refine Zf gl pa hl hc (fun j A' c' h' b d=>⟨_,_,_,_,rfl,?_⟩) (fun g h' b=>⟨_,_,_,_,rfl,hK0 (fun o=>g o.1) h' b⟩)
 refine B3 (fun k=>?_) (fun k=>hK1 ⟨j,fun p=>by omega⟩ _ _ _ b d)
 obtain ⟨a,B,q,l,r,m,n⟩:=pa 0 (by omega)
 refine ⟨a,l,by omega,by omega,_,_,_,C4 b m,?_⟩
 refine No (n.mono b) ⟨_,rfl,T6 (Br.of (fun e=>hK1 ⟨j,fun _=>e⟩ _ _ _ b d) (fun e=>hK0 (fun o=>?_) _ b))⟩
 have:=o.2 (by omega)
 rw [this] at e;cases e
end
section
variable {h:aL} {K:VP} {A B:Option aP} {n c n' c' m:Nat} {s s':Bool} {x y:Int}
def B4v:RQ h ⟨false,none,0,0,false,none,0,0⟩ 0:=⟨ZI.zero,ZI.zero⟩
def B1c{z:Int}(i:ZI h s A n c z):RQ h ⟨s,A,n,c,false,none,0,0⟩ (z:Rat):=⟨by simpa using i,by simpa using ZI.zero⟩
def Wv(gl:Gtz h)(ix:ZI h s A n c x)(iy:ZI h s' B n' c' y)(hx:ZB m x)(hy:ZB m y)(hm:m<=6400000000)(hK:∀ w h',h.le h'->RQ h' w (bC x y)->K w.v h'):aR prog Ir #[.agg #[.bool s,.slice A n c],.agg #[.bool s',.slice B n' c']] h K:=by
 refine A0s _ _ _ _ _ _ _ _ ?_
 unfold A0t
 refine ⟨fun L V=>V=h/\((L=[.bool true]/\bC x y=0)\/(L=[.bool false]/\y≠0)),?_,?_⟩
 ·refine I3 iy ⟨_,rfl,B3 (fun e=>⟨rfl,.inl ⟨rfl,by rw [e];exact Rat.divInt_zero x⟩⟩) (fun e=>I3 ix ⟨_,rfl,rfl,?_⟩)⟩
  by_cases p:x=0
  ·exact .inl ⟨by rw [decide_eq_true p],by rw [p];exact Rat.zero_divInt y⟩
  ·exact .inr ⟨by rw [decide_eq_false p],e⟩
 rintro t V ⟨rfl,hL⟩
 refine Br.of (fun e=>?_) (fun e=>?_)
 ·rcases hL with ⟨_,G⟩|⟨k,_⟩
  ·rw [G] at hK
   exact hK _ _ (B0 _) B4v
  ·simp at k;rw [e] at k;cases k
 have aa:y≠0:=by
  rcases hL with ⟨k,_⟩|⟨_,G⟩
  ·simp at k;rw [e] at k;cases k
  ·exact G
 refine ⟨fun l C=>∃ s A n c s' B n' c' d g,l=[.bool s,.slice A n c,.bool s',.slice B n' c']/\V.le C/\ZI C s A n c d/\ZI C s' B n' c' g/\0<g/\bC d g=bC x y/\ZB m d/\ZB m g,?_,?_⟩
 ·refine Cg iy ⟨_,rfl,B3 (fun e=>?_) (fun e=>?_)⟩
  ·have X:y<0:=by rwa [Int.sign_neg_iff] at e
   refine W5 ix ?_
   intro s1 r
   refine ⟨_,_,_,_,rfl,B0 _,?_⟩
   refine W5 iy ?_
   intro W z
   exact ⟨_,_,_,_,rfl,B0 _,_,_,_,_,_,_,_,_,-x,-y,rfl,B0 _,r,z,by omega,Rat.neg_divInt_neg x y,hx.neg,hy.neg⟩
  ·have i:0<y:=by rw [Int.sign_neg_iff] at e;omega
   exact ⟨_,_,_,_,_,_,_,_,x,y,rfl,B0 _,ix,iy,i,rfl,hx,hy⟩
 rintro s1 A1 n1 c1 W A2 n2 c2 ab ⟨H,A1',S,O,Q,A2',N,J,d,g,hl,j,r,z,i,C,E,o⟩
 obtain ⟨rfl,⟨rfl,rfl,rfl⟩,rfl,rfl,rfl,rfl⟩:s1=H/\(A1=A1'/\n1=S/\c1=O)/\W=Q/\A2=A2'/\n2=N/\c2=J:=by simpa using hl
 rw [<- C] at hK
 refine N3 z ⟨_,rfl,B3 (fun Z=>?_) (fun Z=>?_)⟩
 ·rw [Z,A56] at hK
  exact hK _ _ j (B1c r)
 refine Ci (gl.mono j) r z E o hm ?_
 intro A3 n3 c3 h3 u R
 refine ⟨_,_,_,_,rfl,?_⟩
 generalize hqq:bC d g=q at *
 have a:q.num=d/(Int.gcd d g:Int):=by
  rw [<- hqq,Rat.num_divInt,Int.sign_eq_one_of_pos i,Int.one_mul,Int.gcd_comm]
 have b:(q.den:Int)=g/(Int.gcd d g:Int):=by
  rw [<- hqq,Rat.den_divInt,iN (by omega),Int.gcd_comm,Int.natCast_ediv,Int.natAbs_of_nonneg (by omega)]
 have ac:0<Int.gcd d g:=Int.gcd_pos_of_ne_zero_right d (by omega)
 have D:ZB m (Int.gcd d g:Int):=ZB.gcd (by omega) o
 refine N3 R ⟨_,rfl,T6 (B3 (fun p=>?_) (fun p=>?_))⟩
 ·rw [p] at a b
  simp at a b
  refine N7 (q:=q) (r.mono u) (z.mono u) a b ?_
  intro w M
  exact ⟨_,_,_,_,_,_,_,_,rfl,hK _ _ (Heap.le_trans j u) M⟩
 ·refine R9 (r.mono u) R E D hm (by omega) ?_
  intro s4 A4 n4 c4 h4 F i4
  refine ⟨_,_,_,_,rfl,F,?_⟩
  refine R9 ((z.mono u).mono F) (R.mono F) o D hm (by omega) ?_
  intro s5 A5 n5 c5 h5 T i5
  refine ⟨_,_,_,_,rfl,T,?_⟩
  refine N7 (q:=q) (i4.mono T) i5 (by rw [a,cA (Int.gcd_dvd_left d g)]) (by rw [b,cA (Int.gcd_dvd_right d g)]) ?_
  intro w M
  exact ⟨_,_,_,_,_,_,_,_,rfl,hK _ _ (Heap.le_trans j (Heap.le_trans u (Heap.le_trans F T))) M⟩
end
def tmV(es:List Int)(x:Nat->Rat)(c:Rat):Nat->Rat
 | 0=>c
 | k+1=>tmV es x c k*x k^(es.getD k 0).toNat
def evV(ts:List J8)(x:Nat->Rat)(n:Nat):Nat->Rat
 | 0=>0
 | i+1=>evV ts x n i+tmV (tm ts i).2 x (rv (tm ts i).1) n
def pwZ(q:Rat)(G e:Nat):Int:=q.num^e*(q.den:Int)^(G-e)
def A74(q:Rat)(f:Nat):∀ e:Nat,((q.num^e*(q.den:Int)^f:Int):Rat)=q^e*(((q.den:Int)^(e+f):Int):Rat)
 | 0=>by rw [Int.pow_zero,Int.one_mul,Rat.pow_zero,Rat.one_mul,bL]
 | e+1=>by
  have ih:=A74 q f e
  have a:(q.num:Rat)=q*((q.den:Int):Rat):=(A7k q).symm
  rw [Int.pow_succ,Int.mul_right_comm,bD,ih,a,Rat.pow_succ,show e+1+f=(e+f)+1 by omega,Int.pow_succ,bD]
  grind
def B7k(q:Rat){G e:Nat}(he:e<=G):(pwZ q G e:Rat)=q^e*(((q.den:Int)^G:Int):Rat):=by
 have:=A74 q (G-e) e
 rw [show e+(G-e)=G by omega] at this
 exact this
def B34{q:Rat}{p G e D:Nat}(hq:Sz p q)(hp:1<=p)(he:e<=G)(hG:G<=D):ZB (p*D+2) (pwZ q G e):=by
 have a:=(hq.num.pow hp e).mul (hq.den.pow hp (G-e))
 refine a.mono ?_
 have b:p*e+p*(G-e)=p*G:=by rw [<- Nat.mul_add,show e+(G-e)=G by omega]
 have c:p*G<=p*D:=aN _ hG
 omega
def suZ(f:Nat->Int):Nat->Int
 | 0=>0
 | k+1=>suZ f k+f k
def suA(f:Nat->Int):Nat->Int
 | 0=>0
 | k+1=>suA f k+((f k).natAbs:Int)
def B7e{f:Nat->Int}{T n:Nat}(hf:∀ i,i<n->ZB T (f i)):∀ k,k<=n->suA f k<=k*2^(2*T):=by
 intro k
 induction k with
 | zero=>intro _;exact Int.le_of_eq (by simp [suA])
 | succ k ih=>
  intro b
  have g:=ih (by omega)
  have a:((f k).natAbs:Int)<=2^(2*T):=by
   have d:(f k).natAbs<2^T:=hf k (by omega)
   have c:2^T<=2^(2*T):=Nat.pow_le_pow_right (by decide) (by omega)
   have e:(2:Int)^(2*T)=((2^(2*T):Nat):Int):=by simp
   rw [e];omega
  show suA f k+((f k).natAbs:Int)<=((k+1:Nat):Int)*2^(2*T)
  rw [Int.natCast_add,Int.add_mul]
  have:((1:Nat):Int)*2^(2*T)=2^(2*T):=by simp
  omega
def B7c{f:Nat->Int}{T n:Nat}(hn:n<=1000)(hf:∀ i,i<n->ZB T (f i)):ZB (T+10) (suZ f n):=by
 have:∀ k,k<=n->(suZ f k).natAbs<=k*2^T:=by
  intro k
  induction k with
  | zero=>intro _;exact bO _
  | succ k ih=>
   intro d
   have b:=ih (by omega)
   have a:(f k).natAbs<2^T:=hf k (by omega)
   show (suZ f k+f k).natAbs<=(k+1)*2^T
   rw [Nat.add_mul,Nat.one_mul]
   omega
 have b:=this n (aS _)
 have c:n*2^T<=1000*2^T:=bH _ hn
 have a:2^(T+10)=2^T*1024:=by rw [Nat.pow_add]
 have e:0<2^T:=Nat.pow_pos (by decide)
 unfold ZB
 rw [a];omega
def B7d{ts:List J8}{x:Nat->Rat}{v n:Nat}{f:Nat->Int}{d:Int}(h:∀ i,i<n->(f i:Rat)=tmV (tm ts i).2 x (rv (tm ts i).1) v*(d:Rat)):∀ k,k<=n->(suZ f k:Rat)=evV ts x v k*(d:Rat):=by
 intro k
 induction k with
 | zero=>intro _;show ((0:Int):Rat)=0*_;rw [Rat.zero_mul];rfl
 | succ k ih=>
  intro a
  show ((suZ f k+f k:Int):Rat)=(evV ts x v k+tmV (tm ts k).2 x (rv (tm ts k).1) v)*(d:Rat)
  rw [Rat.intCast_add,ih (by omega),h k (by omega)]
  grind
section
variable {h g o:aL} {K:VP} {A B:Option aP} {ts:List J8} {n c v cc:Nat} {x:Nat->Rat}
def SumS.put{b:Nat}{e:bG}{N:Nat}{M z:Int}(S:SumS h g b e N M z){b2:Nat}(hb2:h b2=none)(X:Obj):SumS (h.put b2 X) (g.put b2 X) b e N M z:=by
 obtain ⟨PA,NA,x,j,p,y,C,q,d,w,n,i,l,rfl,k,m,D,s,A,r,B,o⟩:=S
 have a:b2≠b:=by
  rintro rfl
  rw [B8] at hb2;cases hb2
 rw [B6 _ _ a] at hb2
 have c:d b2=none:=by
  cases e1:d b2 with
  | none=>rfl
  | some u=>rw [i.le _ _ e1] at hb2;cases hb2
 exact ⟨PA,NA,x,j,p,y,C,q,d.put b2 X,w.put b2 X,Priv.put n c X,Priv.put i hb2 X,by rw [B6 _ _ a.symm];exact l,Heap.put_comm _ _ _ a.symm,k,m,D,s,A,r,B,o⟩
def A70{b:Nat}{e:bG}{N:Nat}{M z y:Int}{N1:Nat}{s:Bool}{XA:Option aP}{xn xc:Nat}(S:SumS h g b e N M z)(i:ZI g s XA xn xc y)(hab:xn+2<=N)(hN2:N<=400000000)(hM:M+y.natAbs<b64^N1)(hN1:N1<=N)
 (hK:∀ h' g',g.le g'->SumS h' g' b e N (M+y.natAbs) (z+y)->K (.tuple #[]) h'):aR prog A84 #[.pointer (some ⟨b,0,none⟩),.agg #[.bool s,.slice XA xn xc]] h K:=by
 refine B69 _ _ _ _ _ ?_
 unfold C2e
 refine Ao K9 rfl ?_
 intro c a
 have k:g c=none:=by
  cases e1:g c with
  | none=>rfl
  | some u=>rw [S.le _ _ e1] at a;cases a
 have d:=Heap.le_put (.cells #[U 1] B7) k
 refine ⟨_,_,_,rfl,?_⟩
 have one:ZI (g.put c (.cells #[U 1] B7)) false (some ⟨c,0,none⟩) 1 1 1:=by
  refine ⟨aS _,?_,rfl⟩
  refine ⟨[1],rfl,SlI.new _ _ _ _ _,?_,?_,?_⟩
  ·intro x j;simp at j;subst j;decide
  ·unfold Norm;simp
  ·simp [val]
 refine Ol (N1:=N1) (S.put a _) (i.mono d) one (by omega) hN2 (by rw [Int.mul_one];exact hM) hN1 ?_
 intro h' g' l S'
 rw [Int.mul_one] at S'
 exact ⟨rfl,hK h' g' (Heap.le_trans d l) S'⟩
def RowV.eat{f:Nat->J8}(r:bB ENr h A n f){i:Nat}(hi:i<n):∃ a e,A=some a/\ENr h e (f i)/\∀ j u,(enc e)[j]? = some u->h.cell? (aM (aM a (i*10)) j)=some u:=r.at (by decide) hi
def A20(r:bB ENr h A n (tm ts))(hn:n<=1000)(hK:∀ b h',Own RQr h h' b n (fun i=>rv (tm ts i).1)->K (.slice (some ⟨b,0,none⟩) n n) h'):aR prog X9 #[.slice A n c] h K:=by
 refine Nf _ _ _ ?_
 unfold Ib
 refine Bj C1l (zx:=B6y) rfl (by omega) (by omega) (by omega) (by omega) ?_
 intro b C
 rw [aD]
 refine ⟨_,_,_,rfl,fun L m=>∃ k:Nat,k<=n/\L=[I k]/\OwnK RQr h m b n k (fun i=>rv (tm ts i).1),fun L _=>n-(iAt L 0).toNat,⟨0,by omega,rfl,OwnK.zero C⟩,?_⟩
 rintro t m ⟨k,J,D,g,o,xs,p,s,x,z,q⟩
 obtain rfl:=sI1 D
 refine B3 (fun B=>?_) (fun F=>?_)
 ·have l:k<n:=by omega
  obtain ⟨a,e,rfl,⟨G,_⟩,H⟩:=(r.mono Qg p).eat l
  have d:=fun (j:Nat) (u:aY) (h1:(enc e)[j]? = some u)=>C4 s.le (H j u h1)
  refine ⟨a,rfl,by omega,by omega,_,_,_,_,_,_,_,_,_,_,_,_,_,_,d 0 _ rfl,d 1 _ rfl,d 2 _ rfl,d 3 _ rfl,d 4 _ rfl,d 5 _ rfl,d 6 _ rfl,d 7 _ rfl,d 8 _ rfl,d 9 _ rfl,_,rfl,by omega,by omega,?_⟩
  refine OwnK.store A4y Yy (y:=e.w) p (B0 _) s x z q l rfl G ?_
  intro M E
  rw [wiS k (by omega)]
  exact ⟨⟨k+1,by omega,rfl,E⟩,by simp only [B0k];omega⟩
 ·have:k=n:=by omega
  subst this
  exact hK b m ⟨g,o,xs,p,s,x,z,q⟩
def We{m:Nat}(gl:Gl h)(r:bB ENr h A n (tm ts))(hn:n<=1000)(hs:∀ i,i<n->Sz m (rv (tm ts i).1))(hm:1+n*m+m<=6400000000)
 (hK:∀ s A' n' c' h',h.le h'->ZI h' s A' n' c' (Zp (fun i=>rv (tm ts i).1) n:Int)->K (.agg #[.bool s,.slice A' n' c']) h'):aR prog O1 #[.slice A n c] h K:=by
 refine Es _ _ _ ?_
 unfold Be
 refine A20 r hn ?_
 intro b g a
 refine ⟨_,_,_,rfl,?_⟩
 refine Sy (gl.mono a.le) (a.vis A4y) (by omega) hs hm ?_
 intro s A' n' c' h' e d
 exact ⟨_,_,_,_,rfl,hK _ _ _ _ _ (Heap.le_trans a.le e) d⟩
end
def Cp{a b c d:Rat}(h1:a<=b)(h2:c<=d):a+c<=b+d:=by grind
def InI(a b:Rat × Rat):Prop:=b.1<=a.1/\a.2<=b.2
def B31{es:List Int}{f:Nat->Rat × Rat}{x:Nat->Rat}{c:Rat}: ∀ k,(∀ j,j<k->(f j).1<=x j/\x j<=(f j).2)->(tmE es f c k).1<=tmV es x c k/\tmV es x c k<=(tmE es f c k).2
 | 0,_=>⟨aF,aF⟩
 | k+1,h=>by
  obtain ⟨h1,h2⟩:=B31 k fun j g=>h j (by omega)
  obtain ⟨d,a⟩:=h k (by omega)
  obtain ⟨e,b⟩:=Ls (es.getD k 0).toNat d a
  exact Qd h1 h2 e b
def B3l{ts:List J8}{f:Nat->Rat × Rat}{x:Nat->Rat}{n:Nat}(h:∀ j,j<n->(f j).1<=x j/\x j<=(f j).2):∀ i,(evE ts f n i).1<=evV ts x n i/\evV ts x n i<=(evE ts f n i).2
 | 0=>⟨aF,aF⟩
 | i+1=>by
  obtain ⟨h1,h2⟩:=B3l h i
  obtain ⟨b,a⟩:=B31 (es:=(tm ts i).2) (c:=rv (tm ts i).1) n h
  exact ⟨Cp h1 b,Cp h2 a⟩
def B7q{a b c d a' b' c' d':Rat}(h1:a<=b)(h2:c<=d)(i1:InI (a,b) (a',b'))(i2:InI (c,d) (c',d')):InI (Hm a b c d,Hn a b c d) (Hm a' b' c' d',Hn a' b' c' d'):=by
 obtain ⟨k,j⟩:=i1
 obtain ⟨g,i⟩:=i2
 change a'<=a at k
 change b<=b' at j
 change c'<=c at g
 change d<=d' at i
 have m:=Qd (a:=a') (b:=b') (c:=c') (d:=d') (x:=a) (y:=c) k (aG h1 j) g (aG h2 i)
 have o:=Qd (a:=a') (b:=b') (c:=c') (d:=d') (x:=a) (y:=d) k (aG h1 j) (aG g h2) i
 have p:=Qd (a:=a') (b:=b') (c:=c') (d:=d') (x:=b) (y:=c) (aG k h1) j g (aG h2 i)
 have n:=Qd (a:=a') (b:=b') (c:=c') (d:=d') (x:=b) (y:=d) (aG k h1) j (aG g h2) i
 have e:∀ y,(y=a*c\/y∈[a*d,b*c,b*d])->Hm a' b' c' d'<=y/\y<=Hn a' b' c' d':=by
  intro y l
  simp only [List.mem_cons,List.not_mem_nil,or_false] at l
  rcases l with rfl|rfl|rfl|rfl<;>assumption
 exact ⟨(e _ (A26 _ _)).1,(e _ (A23 _ _)).2⟩
def B7l{a b a' b':Rat}(k:Nat)(h1:a<=b)(i:InI (a,b) (a',b')):InI (S4 a b k,S5 a b k) (S4 a' b' k,S5 a' b' k):=by
 obtain ⟨j,g⟩:=i
 change a'<=a at j
 change b<=b' at g
 have n:=Ls (a:=a') (b:=b') (x:=a) k j (aG h1 g)
 have p:=Ls (a:=a') (b:=b') (x:=b) k (aG j h1) g
 show S4 a' b' k<=S4 a b k/\S5 a b k<=S5 a' b' k
 by_cases c:0<k/\k%2=0/\a<0/\0<b
 ·have q:=Ls (a:=a') (b:=b') (x:=0) k (aG j (Rat.le_of_lt c.2.2.1)) (aG (Rat.le_of_lt c.2.2.2) g)
  rw [A66 c.1] at q
  have d:∀ y,(y=0\/y∈[a^k,b^k])->S4 a' b' k<=y/\y<=S5 a' b' k:=by
   intro y o
   simp only [List.mem_cons,List.not_mem_nil,or_false] at o
   rcases o with rfl|rfl|rfl<;>assumption
  have l:S4 a b k=mnL 0 [a^k,b^k]:=by unfold S4;rw [iP c]
  have m:S5 a b k=mxL 0 [a^k,b^k]:=by unfold S5;rw [iP c]
  rw [l,m]
  exact ⟨(d _ (A26 _ _)).1,(d _ (A23 _ _)).2⟩
 ·have l:S4 a b k=mn (a^k) (b^k):=by unfold S4;rw [iN c]
  have m:S5 a b k=mx (a^k) (b^k):=by unfold S5;rw [iN c]
  rw [l,m]
  constructor
  ·rcases A25 (a^k) (b^k) with e|e<;>rw [e]
   ·exact n.1
   ·exact p.1
  ·rcases A22 (a^k) (b^k) with e|e<;>rw [e]
   ·exact n.2
   ·exact p.2
def B4x{a b:Rat}(k:Nat)(h:a<=b):S4 a b k<=S5 a b k:=aG (Ls k (aF (a:=a)) h).1 (Ls k (aF (a:=a)) h).2
def B32{es:List Int}{f f':Nat->Rat × Rat}{c:Rat}: ∀ k,(∀ j,j<k->(f j).1<=(f j).2/\InI (f j) (f' j))->InI (tmE es f c k) (tmE es f' c k)
 | 0,_=>⟨aF,aF⟩
 | k+1,h=>by
  have h1:=B32 (es:=es) (c:=c) k fun j d=>h j (by omega)
  obtain ⟨a,b⟩:=h k (by omega)
  exact B7q (A3d es f c k) (B4x _ a) h1 (B7l _ a b)
def A8e{ts:List J8}{f f':Nat->Rat × Rat}{n:Nat}(h:∀ j,j<n->(f j).1<=(f j).2/\InI (f j) (f' j)):∀ i,InI (evE ts f n i) (evE ts f' n i)
 | 0=>⟨aF,aF⟩
 | i+1=>by
  obtain ⟨h1,h2⟩:=A8e h i
  obtain ⟨b,a⟩:=B32 (es:=(tm ts i).2) (c:=rv (tm ts i).1) n h
  exact ⟨Cp h1 b,Cp h2 a⟩
def A3x(ts:List J8)(f:Nat->Rat × Rat)(n:Nat):∀ i,(evE ts f n i).1<=(evE ts f n i).2
 | 0=>aF
 | i+1=>Cp (A3x ts f n i) (A3d _ f _ n)
structure HdI where
 A:Option aP
 n:Nat
 c:Nat
instance:Enc HdI:=⟨⟨fun s=>[.slice s.A s.n s.c],1,fun _=>rfl,fun s v hv=>by rw [List.mem_singleton.1 hv];rfl⟩⟩
instance:Enc Ivl:=⟨⟨fun x=>[.string (bs x.1),.string (bs x.2)],2,fun _=>rfl,fun x v hv=>by simp at hv;rcases hv with rfl|rfl<;>rfl⟩⟩
abbrev IVr:aL->Ivl->Rat × Rat->Prop:=fun _ w x=>w=(C9 x.1,C9 x.2)
def B56:Mon IVr:=fun _ _ _ _ _ i=>i
def Sep.giveR{α β:Type}[E:Enc α]{R:aL->α->β->Prop}(m:Mon R){h g o:aL}{ys:List α}{bb n:Nat}{f:Nat->β}(s:Sep h g o)(rb:RowB o bb ys)(hy:ys.length=n)(rr:Row R g ys n f):∃ g2,g.le g2/\Sep h g2 (o.without bb)/\bB R g2 (some ⟨bb,0,none⟩) n f:=by
 have a:(o.without bb).le o:=fun k x e=>by
  by_cases b:k=bb
  ·subst b
   have:Heap.without o k k=none:=G1 _ _
   rw [this] at e;cases e
  ·unfold Heap.without at e;rw [iN b] at e;exact e
 obtain ⟨g2,d,c⟩:=s.give a
 obtain ⟨e,ex,j⟩:=rb
 have i:g2 bb=some (.cells (ys.flatMap enc++ex).toArray e):=by
  rw [<- c.rest bb (G1 _ _)]
  exact s.own _ _ j
 exact ⟨g2,d,c,ys,RowB.slF (o:=g2) ⟨e,ex,i⟩ (B0 _),hy,rr.mono m d⟩
def pwF(f:Nat->Rat × Rat)(i:Nat):Nat->Rat × Rat:=fun e=>(S4 (f i).1 (f i).2 e,S5 (f i).1 (f i).2 e)
def PwRow(ts:List J8)(f:Nat->Rat × Rat)(g:aL)(hds:List HdI)(i:Nat):Prop:=∃ s,hds[i]? = some s/\(∀ t,t<ts.length->(tm ts t).2.getD i 0<s.n)/\bB IVr g s.A s.n (pwF f i)
def PwRow.mono{ts:List J8}{f:Nat->Rat × Rat}{g g':aL}{hds:List HdI}{i:Nat}(l:g.le g')(p:PwRow ts f g hds i):PwRow ts f g' hds i:=by
 obtain ⟨s,e,b,a⟩:=p
 exact ⟨s,e,b,a.mono B56 l⟩
def B5p{l:List Ivl}(ok:Ho l){i:Nat}(hi:i<l.length):l[i].1=C9 (bxQ l i).1/\l[i].2=C9 (bxQ l i).2:=by
 obtain ⟨p,q,a,b,_⟩:=ok _ (aJ hi)
 unfold bxQ
 rw [aC,aE hi]
 show l[i].1=C9 (rv l[i].1)/\l[i].2=C9 (rv l[i].2)
 rw [a,b,C3,C3]
 exact ⟨rfl,rfl⟩
section
variable {h:aL} {K:VP} {A B:Option aP} {ts:List J8} {vars:Int} {c bc:Nat} {l:List Ivl}
def Np{x:List UInt8}(hK:K (ivT x x) h):aR prog Kh #[.string (bs x)] h K:=by
 refine A5y _ ?_
 unfold B08
 exact hK
def Cb(gl:Gl h)(pa:PolyAt h A ts)(x:SlV h B (l.flatMap G5))(hts:ts.length<=5)(hcl:∀ i,i<ts.length->(tm ts i).1.length<=8)(hex:∀ i,i<ts.length->∀ j,j<(tm ts i).2.length->(tm ts i).2.getD j 0<=6)(hl:l.length<=8)(ht:∀ x∈l,x.1.length<=20/\x.2.length<=20)
 (hK1:¬ (Gj vars ts/\Ho l)->K (.tuple #[ivE,I 1]) h) (hK4:Gj vars ts->Ho l->(l.length:Int)≠vars->K (.tuple #[ivE,I 4]) h)
 (hK0:Gj vars ts->Ho l->(l.length:Int)=vars->SmE ts (bxQ l) l.length->∀ h',h.le h'->K (.tuple #[ivS (evE ts (bxQ l) l.length ts.length).1 (evE ts (bxQ l) l.length ts.length).2,I 0]) h'):aR prog X5 #[.agg #[I vars,.slice A ts.length c],.slice B l.length bc] h K:=by
 refine Yg _ _ _ _ _ _ _ ?_
 unfold Vh
 refine Zi gl.tz pa (by omega) (fun i r=>by have:=hcl i r;omega) (fun po=>⟨_,rfl,By ?_⟩) (fun no=>⟨_,rfl,Dh (hK1 fun y=>no y.1)⟩)
 refine Hq gl x rfl (by omega) ht (fun bo=>⟨_,rfl,By ?_⟩) (fun no=>⟨_,rfl,Dh (hK1 fun y=>no y.2)⟩)
 refine J9 (fun e=>hK4 po bo e) (fun en=>?_)
 obtain ⟨wf,_⟩:=id po
 have bi:=wf.hi
 have b:∀ i,i<ts.length->(tm ts i).2.length=l.length:=fun i r=>by have:=(wf.all i r).1.len;omega
 have sm:SmE ts (bxQ l) l.length:=⟨hts,by omega,fun i r=>A72 (k:=8) (hcl i r) (by omega),b,fun i r k hk=>⟨((wf.all i r).1.exps _ (Hb (by rw [b i r];exact hk))).1,hex i r k (by rw [b i r];exact hk)⟩,fun k hk=>by
  obtain ⟨V,W⟩:=ht _ (aJ hk)
  unfold bxQ
  rw [aC,aE hk]
  exact ⟨A72 (k:=20) V (by omega),A72 (k:=20) W (by omega)⟩⟩
 have M:=hK0 po bo en sm
 clear hK0 hK1 hK4
 obtain ⟨f,hf⟩:∃ f,f=bxQ l:=⟨_,rfl⟩
 obtain ⟨n,hn⟩:∃ n,n=l.length:=⟨_,rfl⟩
 have bt:=fun {i:Nat} (r:i<l.length)=>B5p bo r
 rw [<- hf,<- hn] at sm M
 rw [<- hf] at bt
 rw [<- hn]
 have ay:=sm.n6
 refine Bj C08 (zx:=(⟨none,0,0⟩:HdI)) rfl (by omega) (by omega) (by omega) (by omega) ?_
 intro bp aw
 simp only [aD]
 have s0:=(Sep.refl h).new aw (.cells ((aU n (⟨none,0,0⟩:HdI)).flatMap enc).toArray Gt)
 refine ⟨_,_,_,rfl,fun L S=>∃ (k:Nat) (g o:aL) (p:List HdI),k<=n/\L=[I (k:Int)]/\h.le g/\Sep S g o/\bI o bp p/\p.length=n/\∀ i,i<k->PwRow ts f g p i,fun L _=>n-(iAt L 0).toNat,⟨0,h,_,_,by omega,rfl,B0 _,s0,RowX.mk,aW,fun i r=>by omega⟩,?_⟩
 clear s0
 rintro z ak ⟨k,g,o,p,hk,eL,Z,s,rx,a2,E⟩
 obtain rfl:=sI1 eL
 refine B3 (fun a6=>?_) (fun az=>?_)
 ·have a4:k<n:=by omega
  have H:k<l.length:=by omega
  have C:=Heap.le_trans Z s.le
  obtain ⟨a,ea,c0,c1⟩:=Qm x H
  refine ⟨a,ea,by omega,by omega,_,_,C4 C c0,C4 C c1,?_⟩
  refine s.call (Zy (pa.mono Z) (by omega) (fun t w=>by rw [b t w];exact H) (fun F h0 a3 bg h4 s4=>⟨_,rfl,?_⟩))
  have bl:F<=6:=bg 6 (by omega) fun t w=>hex t w k (by rw [b t w];exact H)
  obtain ⟨e,he⟩:∃ e:Nat,F=(e:Int):=⟨F.toNat,by omega⟩
  subst he
  rw [Al (by omega)]
  refine Bj B9a (zx:=(([],[]):Ivl)) rfl (by omega) (by omega) (by omega) (by omega) ?_
  intro G T
  simp only [aD]
  have fr:bp≠G:=by
   rintro rfl
   obtain ⟨e1,a5⟩:=rx
   rw [s4.own _ _ a5] at T;cases T
  have s5:=s4.new T (.cells ((aU (e+1) (([],[]):Ivl)).flatMap enc).toArray P9)
  refine ⟨_,_,_,rfl,_,rfl,by omega,by omega,?_⟩
  refine Ak A6t (y:=(⟨some ⟨G,0,none⟩,e+1,e+1⟩:HdI)) rfl s5 (rx.other fr _) (i:=k) (by omega) ?_
  intro h6 o6 x6 ac s6 R
  have ad:bI o6 G (aU (e+1) (([],[]):Ivl)):=by
   rw [ac]
   exact RowX.mk.other fr.symm _
  have av:(p.set k (⟨some ⟨G,0,none⟩,e+1,e+1⟩:HdI))[k]? = some ⟨some ⟨G,0,none⟩,e+1,e+1⟩:=cC (by omega)
  have ao:∀ {hq gq oq:aL},Sep hq gq oq->bI oq bp (p.set k (⟨some ⟨G,0,none⟩,e+1,e+1⟩:HdI))->hq.cell? (aM ⟨bp,0,none⟩ (((k:Int)).toNat*1))=some (.slice (some ⟨G,0,none⟩) (e+1) (e+1)):=fun sq rq=>by
   have h1:=RowB.cell rq.rowB (i:=k) (by rw [aH];omega) (j:=0) (v:=.slice (some ⟨G,0,none⟩) (e+1) (e+1)) (by rw [List.getElem_set_self];rfl)
   rw [H7]
   have h2:=sq.cell h1
   rw [aD,bL]
   exact h2
  refine ⟨_,rfl,by omega,by omega,_,_,_,ao s6 R,?_⟩
  refine ⟨fun L S=>∃ (j:Nat) (g' o':aL) (ys:List Ivl),j<=e+1/\L=[I (j:Int)]/\g.le g'/\Sep S g' o'/\bI o' bp (p.set k (⟨some ⟨G,0,none⟩,e+1,e+1⟩:HdI))/\bI o' G ys/\ys.length=e+1/\Row IVr g' ys j (pwF f k),fun L _=>e+1-(iAt L 0).toNat,⟨0,g,o6,_,by omega,rfl,B0 _,s6,R,ad,aW,Row.nil⟩,?_⟩
  clear ad R s6 s5 ac
  rintro z2 bj ⟨j,g7,o7,ys,hj,J,l7,s7,Q,aq,ag,an⟩
  obtain rfl:=sI1 J
  refine B3 (fun al=>?_) (fun ab=>?_)
  ·have bm:j<e+1:=by omega
   obtain ⟨V,W⟩:=bt H
   obtain ⟨b1,ba⟩:=sm.box k a4
   refine ⟨_,rfl,by omega,by omega,_,_,_,ao s7 Q,?_⟩
   rw [V,W]
   refine s7.call (Uh (k:=j) (m:=80) (gl.mono (Heap.le_trans Z l7)) b1 ba (by omega) (by omega) (by omega) (by omega) ?_)
   intro h8 s8
   refine ⟨_,_,rfl,s7.le_le s8 (B0 _),_,rfl,by omega,by omega,?_⟩
   refine Ak B12 (y:=((C9 (S4 (f k).1 (f k).2 j),C9 (S5 (f k).1 (f k).2 j)):Ivl)) rfl s8 aq (i:=j) (by omega) ?_
   intro h9 o9 x9 ax s9 a1
   rw [Al (by omega)]
   refine ⟨⟨j+1,g7,o9,_,by omega,rfl,l7,s9,?_,a1,by rw [aH];exact ag,an.set (by omega) rfl⟩,by simp only [Wr];omega⟩
   rw [ax];exact Q.other fr _
  ·obtain rfl:j=e+1:=by omega
   obtain ⟨g8,l8,s8,a9⟩:=s7.giveR B56 aq.rowB ag an
   rw [Al (by omega)]
   refine ⟨⟨k+1,g8,_,_,by omega,rfl,Heap.le_trans Z (Heap.le_trans l7 l8),s8,Q.keep (fun x e=>by unfold Heap.without;rw [iN fr];exact e),by rw [aH];exact a2,fun i r=>?_⟩,by simp only [Wr];omega⟩
   by_cases ei:i=k
   ·subst ei
    exact ⟨_,av,fun t w=>by have:=a3 t w;show _<((e+1:Nat):Int);omega,a9⟩
   ·obtain ⟨s9,e9,h9,r9⟩:=E i (by omega)
    exact ⟨s9,by rw [List.getElem?_set_ne (fun x=>ei x.symm)];exact e9,h9,r9.mono B56 (Heap.le_trans l7 l8)⟩
 obtain rfl:k=n:=by omega
 have C:=Heap.le_trans Z s.le
 have ae:=gl.mono C
 have a0:=pa.mono C
 have ah:=rx.rowB.slF s.ole
 have pw:∀ i,i<k->PwRow ts f ak p i:=fun i r=>(E i r).mono s.le
 clear E rx s Z
 show aR _ _ #[.string (bs [48])] _ _
 refine Np ?_
 have e0:([48]:List UInt8)=C9 0:=A6m.symm
 refine ⟨_,_,rfl,fun L S=>∃ i:Nat,i<=ts.length/\L=[I (i:Int),.string (bs (C9 (evE ts f k i).1)),.string (bs (C9 (evE ts f k i).2))]/\S=ak,fun L _=>ts.length-(iAt L 0).toNat,⟨0,by omega,by rw [e0];rfl,rfl⟩,?_⟩
 rintro z u0 u1 N ⟨i,r,eL,rfl⟩
 simp only [bV,bU,Value.string.injEq,true_and,and_true] at eL
 obtain ⟨rfl,rfl,rfl⟩:=eL
 refine B3 (fun a6=>?_) (fun az=>?_)
 ·have u:i<ts.length:=by omega
  obtain ⟨a,D,d,e1,e2,e3,e4⟩:=a0 i u
  refine ⟨a,e1,by omega,by omega,_,_,_,_,e2,e3,Np ?_⟩
  obtain ⟨q,eq,_⟩:=(wf.all i u).1.num
  have ec:(tm ts i).1=C9 (rv (tm ts i).1):=by rw [eq,C3]
  refine ⟨_,_,rfl,fun L S=>∃ j:Nat,j<=k/\L=[I (j:Int),.string (bs (C9 (tmE (tm ts i).2 f (rv (tm ts i).1) j).1)),.string (bs (C9 (tmE (tm ts i).2 f (rv (tm ts i).1) j).2))]/\S=N,fun L _=>k-(iAt L 0).toNat,⟨0,by omega,by rw [show tmE (tm ts i).2 f (rv (tm ts i).1) 0=(rv (tm ts i).1,rv (tm ts i).1) from rfl,<- ec];rfl,rfl⟩,?_⟩
  rintro z2 p0 p1 bh ⟨j,hj,J,rfl⟩
  simp only [bV,bU,Value.string.injEq,true_and,and_true] at J
  obtain ⟨rfl,rfl,rfl⟩:=J
  have bk:=b i u
  refine B3 (fun al=>?_) (fun ab=>?_)
  ·have X:j<k:=by omega
   refine e4.load rfl (by omega) (by omega) ?_
   rw [aD]
   have hx:=sm.exps i u j X
   refine B3 (fun af=>?_) (fun af=>?_)
   ·obtain ⟨e,he⟩:∃ e:Nat,(tm ts i).2.getD j 0=(e:Int):=⟨((tm ts i).2.getD j 0).toNat,by omega⟩
    obtain ⟨sd,aa,aj,bb⟩:=pw j X
    have au:=aj i u
    obtain ⟨a7,bd,ar⟩:=SlF.at (by decide) ah (i:=j) (by omega)
    have am:p[j]'(by omega)=sd:=by rw [aE (by omega)] at aa;exact bF aa
    rw [am] at ar
    have O:=ar 0 _ rfl
    rw [Rr] at O
    rw [he] at au ⊢
    obtain ⟨a8,w8,be,ai,ap⟩:=RowV.at (by decide) bb (i:=e) (by omega)
    change w8=_ at ai
    subst ai
    refine ⟨a7,bd,by omega,by omega,_,_,_,O,a8,be,by omega,by omega,_,_,ap 0 _ rfl,ap 1 _ rfl,?_⟩
    obtain ⟨V,W⟩:=sm.tm u j (by omega)
    obtain ⟨p1,p2⟩:=sm.pow (e:=e) X (by omega)
    have E:481<=481*2^j:=Nat.le_mul_of_pos_right 481 (Nat.pow_pos (by decide))
    have bf:=A1x (show j<=6 by omega)
    refine Ui (m:=481*2^j) ae V W (p1.mono E) (p2.mono E) (by omega) ?_
    rw [Al (by omega)]
    refine ⟨_,_,rfl,B0 _,⟨j+1,by omega,?_,rfl⟩,by simp only [Wr];omega⟩
    show _=[I _,.string (bs (C9 (Hm _ _ (S4 _ _ ((tm ts i).2.getD j 0).toNat) (S5 _ _ ((tm ts i).2.getD j 0).toNat)))),.string (bs (C9 (Hn _ _ (S4 _ _ ((tm ts i).2.getD j 0).toNat) (S5 _ _ ((tm ts i).2.getD j 0).toNat))))]
    rw [he]
    rfl
   ·rw [Al (by omega)]
    exact ⟨⟨j+1,by omega,by rw [B0v (show ((tm ts i).2.getD j 0).toNat=0 by omega)],rfl⟩,by simp only [Wr];omega⟩
  ·obtain rfl:j=k:=by omega
   obtain ⟨V,W⟩:=sm.tm u j (aS j)
   obtain ⟨s1,s2⟩:=sm.ev i (by omega)
   have bf:=A1x ay
   refine A52 (m:=400000) ae (s1.mono (by omega)) (s2.mono (by omega)) (V.mono (by omega)) (W.mono (by omega)) (by omega) ?_
   rw [Al (by omega)]
   exact ⟨_,_,rfl,⟨i+1,by omega,rfl,rfl⟩,by simp only [Wr];omega⟩
 ·obtain rfl:i=ts.length:=by omega
  exact M N C
end
def A16(l:List Ivl):List (List UInt8):=l.flatMap fun x=>[x.1,x.2]
def Gv(l:List Ivl):(A16 l).flatMap enc=l.flatMap G5:=by
 induction l with
 | nil=>rfl
 | cons x l ih=>
  show ([x.1,x.2]++A16 l).flatMap enc=G5 x++l.flatMap G5
  rw [List.flatMap_append,ih]
  rfl
def B14(l:List Ivl):(A16 l).length=l.length*2:=by
 induction l with
 | nil=>rfl
 | cons x l ih=>
  show ([x.1,x.2]++A16 l).length=_
  rw [aK,ih,List.length_cons]
  show 2+l.length*2=(l.length+1)*2
  omega
def Za(v:List UInt8):∀ (l:List Ivl) (i:Nat) (_:i<l.length),(A16 l).set (i*2+1) v=A16 (l.set i ((l.getD i ([],[])).1,v))
 | x::l,0,_=>rfl
 | x::l,i+1,h=>by
  have ih:=Za v l i (by simpa using h)
  show (x.1::x.2::A16 l).set ((i+1)*2+1) v=x.1::x.2::A16 (l.set i ((l.getD i ([],[])).1,v))
  rw [show (i+1)*2+1=(i*2+1)+1+1 by omega,aZ,aZ,ih]
def Zb(v:List UInt8):∀ (l:List Ivl) (i:Nat) (_:i<l.length),(A16 l).set (i*2) v=A16 (l.set i (v,(l.getD i ([],[])).2))
 | x::l,0,_=>rfl
 | x::l,i+1,h=>by
  have ih:=Zb v l i (by simpa using h)
  show (x.1::x.2::A16 l).set ((i+1)*2) v=x.1::x.2::A16 (l.set i (v,(l.getD i ([],[])).2))
  rw [show (i+1)*2=(i*2)+1+1 by omega,aZ,aZ,ih]
def Sep.grabE{h g o:aL}(s:Sep h g o){b:Nat}{x:Obj}(hb:g b=some x):Sep h (g.without b) (o.put b x):=by
 have c:o b=none:=by
  cases ho:o b with
  | none=>rfl
  | some y=>rw [s.dis b y ho] at hb;cases hb
 refine ⟨fun k y e=>?_,fun k e=>?_,fun k y e=>?_⟩
 ·by_cases a:k=b
  ·subst a
   rw [B8] at e;cases e
   exact s.le k _ hb
  ·rw [B6 _ _ a] at e;exact s.own k y e
 ·by_cases a:k=b
  ·subst a;rw [B8] at e;cases e
  ·rw [B6 _ _ a] at e
   unfold Heap.without
   rw [iN a];exact s.rest k e
 ·by_cases a:k=b
  ·subst a;exact G1 _ _
  ·rw [B6 _ _ a] at e
   unfold Heap.without
   rw [iN a];exact s.dis k y e
def Oz{h g:aL}{b:Nat}(l:h.le g)(hb:h b=none):h.le (g.without b):=fun k x e=>by
 have a:k≠b:=by rintro rfl;rw [hb] at e;cases e
 unfold Heap.without
 rw [iN a];exact l k x e
def B96(l:List Ivl)(i:Int)(x:List UInt8):Prop:=0<=i/\i<(l.length:Int)/\(rv (l.getD i.toNat ([],[])).1<=rv x/\rv x<=rv (l.getD i.toNat ([],[])).2)
def C2u(l:List Ivl)(i:Int)(x:List UInt8)(l1 l2:List Ivl)(e:Int):Prop:=
 (¬ (Ho l/\IsNum x)/\l1=[]/\l2=[]/\e=1)\/(Ho l/\IsNum x/\¬ B96 l i x/\l1=[]/\l2=[]/\e=3)\/(Ho l/\IsNum x/\B96 l i x/\l1=l.set i.toNat ((l.getD i.toNat ([],[])).1,x)/\l2=l.set i.toNat (x,(l.getD i.toNat ([],[])).2)/\e=0)
section
variable {h:aL} {K:VP} {A B:Option aP} {bc:Nat} {l:List Ivl} {x:List UInt8}
def A4n{h1 g1 h2 g2:aL}{A1 A2:Option aP}{c1 c2 i:Nat}(hi:i<l.length)(l1:h.le g1)(p1:PrivF h1 g1 P9 A1 c1 l)(l2:h1.le g2)(p2:PrivF h2 g2 P9 A2 c2 l)(hl:l.length<=1000){K0:aL->Prop}
 (hK:∀ h',h.le h'->SlV h' A1 ((l.set i ((l.getD i ([],[])).1,x)).flatMap G5)->SlV h' A2 ((l.set i (x,(l.getD i ([],[])).2)).flatMap G5)->K0 h'):
 ∃ a1,A1=some a1/\0<=(i:Int)/\(i:Int)<((l.length:Nat):Int)/\wpH prog (bZ K5 (.pointer (some (aM (aM a1 (((i:Int)).toNat*2)) 1))) (.string (bs x))) (fun _ hp5=>∃ a2,A2=some a2/\0<=(i:Int)/\(i:Int)<((l.length:Nat):Int)/\wpH prog (bZ K5 (.pointer (some (aM (aM a2 (((i:Int)).toNat*2)) 0))) (.string (bs x))) (fun _ hp6=>K0 hp6) hp5) h2:=by
 have g:l≠[]:=by rintro rfl;simp at hi
 obtain ⟨b,o,rfl,d,rfl,S,N⟩:=A0v p1 g
 obtain ⟨j,C,rfl,s,rfl,E,J⟩:=A0v p2 g
 have c:g2 b=some o:=l2 _ _ (B8 _ _ _)
 have a:b≠j:=by rintro rfl;rw [s] at c;cases c
 have w:h b=none:=by
  cases e:h b with
  | none=>rfl
  | some y=>rw [l1 _ _ e] at d;cases d
 have z:h.le (g2.without b):=Oz (Heap.le_trans l1 (Heap.le_trans (Heap.le_put _ d) l2)) w
 have sg:=E.grabE c
 have M:RowB ((Qc.put j C).put b o) b (A16 l):=by
  obtain ⟨e,ex,n⟩:=N
  rw [B8] at n
  refine ⟨e,ex,?_⟩
  rw [B8,n,Gv];rfl
 have G:RowB ((Qc.put j C).put b o) j (A16 l):=by
  obtain ⟨e,ex,n⟩:=J
  refine ⟨e,ex,?_⟩
  rw [B6 _ _ a.symm,n,Gv];rfl
 have B:=B14 l
 refine ⟨_,rfl,by omega,by omega,?_⟩
 rw [H7,H7,aD]
 refine Sep.store Nj (y:=x) rfl sg M (i:=i*2+1) (by omega) (by show 0+i*2+1=(i*2+1)*1;omega) ?_
 intro R L O q H u
 refine ⟨_,rfl,by omega,by omega,?_⟩
 rw [H7,H7]
 have A:RowB L j (A16 l):=by rw [q];exact G.other a.symm _
 refine Sep.store Nj (y:=x) rfl H A (i:=i*2) (by omega) (by show 0+i*2+0=i*2*1;omega) ?_
 intro F D Q p r k
 have m:RowB D b ((A16 l).set (i*2+1) x):=by rw [p];exact u.other a _
 rw [Za x l i hi] at m
 rw [Zb x l i hi] at k
 refine hK F (Heap.le_trans z r.le) ?_ ?_
 ·have:=m.slF r.ole
  rw [<- Gv];exact this
 ·have:=k.slF r.ole
  rw [<- Gv];exact this
def Qo(y:SlV h B (l.flatMap G5))(hne:l≠[])(hl:l.length<=1000)(hK:∀ A' c' h' g',h.le g'->PrivF h' g' P9 A' c' l->K (.slice A' l.length c') h'):aR prog Ki #[.slice B l.length bc] h K:=by
 refine A60 _ _ _ ?_
 unfold B0c
 obtain ⟨a,rfl,_⟩:=Qm y (i:=0) (List.length_pos_iff.2 hne)
 refine Br.of (fun e=>by cases e) (fun _=>A7p B9a ?_)
 intro b g
 have c:=Heap.le_put (h:=h) (.cells #[] P9) g
 refine ⟨_,_,_,rfl,Mt (α:=Ivl) B9a (PrivF.nil _ P9 (some ⟨b,0,none⟩)) (ys:=l) rfl (y.mono c) (by simp;omega) (by simp;omega) ?_⟩
 intro A' c' h' g' d p
 rw [List.nil_append] at p ⊢
 exact ⟨_,_,_,rfl,hK A' c' h' g' (Heap.le_trans c d) p⟩
def A28{i:Int}(gl:Gl h)(y:SlV h B (l.flatMap G5))(hl:l.length<=1000)(ht:∀ x∈l,x.1.length<=20/\x.2.length<=20)(hx:x.length<=20)(hK:∀ l1 l2 e,C2u l i x l1 l2 e->∀ A1 c1 A2 c2 h',h.le h'->SlV h' A1 (l1.flatMap G5)->SlV h' A2 (l2.flatMap G5)->K (.tuple #[.slice A1 l1.length c1,.slice A2 l2.length c2,I e]) h'):aR prog Rc #[.slice B l.length bc,I i,.string (bs x)] h K:=by
 refine A5x _ _ _ _ _ ?_
 unfold B05
 have j:¬ (Ho l/\IsNum x)->K (.tuple #[.slice none 0 0,.slice none 0 0,I 1]) h:=fun e=>hK [] [] 1 (.inl ⟨e,rfl,rfl,rfl⟩) none 0 none 0 h (B0 _) SlV.nil SlV.nil
 refine Hq gl y rfl (by omega) ht (fun s=>⟨_,rfl,By ?_⟩) (fun g=>⟨_,rfl,Dh (j fun z=>g z.1)⟩)
 refine Cl gl (by omega) (fun C=>⟨_,rfl,By ?_⟩) (fun g=>⟨_,rfl,Dh (j fun z=>g z.2)⟩)
 have b:¬ B96 l i x->K (.tuple #[.slice none 0 0,.slice none 0 0,I 3]) h:=fun e=>hK [] [] 3 (.inr (.inl ⟨s,C,e,rfl,rfl,rfl⟩)) none 0 none 0 h (B0 _) SlV.nil SlV.nil
 refine B3 (fun e=>b fun z=>by have:=z.1;omega) (fun X=>B3 (fun e=>b fun z=>by have:=z.2.1;omega) (fun e1=>?_))
 obtain ⟨k,rfl⟩:∃ k:Nat,i=(k:Int):=⟨i.toNat,by omega⟩
 have c:k<l.length:=by omega
 obtain ⟨a,R,c0,c1⟩:=Qm y c
 obtain ⟨N,W⟩:=ht _ (aJ c)
 have w:l.getD ((k:Int)).toNat ([],[])=l[k]:=by rw [aD,aC,aE c];rfl
 refine ⟨a,R,by omega,by omega,_,_,c0,c1,?_⟩
 refine Hr (m:=80) gl (W4 (k:=20) N (by omega) (by omega)) (W4 (k:=20) W (by omega) (by omega)) (W4 (k:=20) hx (by omega) (by omega)) (by omega) (fun p q r o n d Q J=>⟨_,rfl,By ?_⟩) (fun g=>⟨_,rfl,Dh (b fun z=>g ?_)⟩)
 ·have A:B96 l (k:Int) x:=⟨by omega,by omega,by rw [w,o,n,d,C3,C3,C3];exact ⟨Q,J⟩⟩
  refine Qo y (by rintro rfl;simp at c) hl ?_
  intro A1 L h3 Z F G
  have u:=Heap.le_trans F G.le
  refine ⟨_,_,_,rfl,Qo (y.mono u) (by rintro rfl;simp at c) hl ?_⟩
  intro A2 H h4 g4 T M
  refine ⟨_,_,_,rfl,?_⟩
  refine A4n c F G T M hl ?_
  intro h' S V O
  have:=hK _ _ 0 (.inr (.inr ⟨s,C,A,rfl,rfl,rfl⟩)) A1 L A2 H h' S V O
  rw [aH,aH] at this
  exact this
 ·obtain ⟨p,q,o,n,_⟩:=s _ (aJ c)
  obtain ⟨r,d⟩:=C
  obtain ⟨_,_,D,E⟩:=z
  rw [w,o,d,C3,C3] at D
  rw [w,n,d,C3,C3] at E
  exact ⟨p,q,r,o,n,d,D,E⟩
end
section
variable {h:aL} {K:VP} {A B:Option aP} {c bc:Nat} {l:List Ivl} {x:List UInt8} {ts:List J8} {vars:Int}
end
def Wj(lo hi s:List UInt8):List UInt8:=if rv s<rv lo then lo else if rv hi<rv s then hi else C9 (rv s)
def B52{p q:Rat}(s:List UInt8)(h:p<=q):∃ x,Wj (C9 p) (C9 q) s=C9 x/\p<=x/\x<=q:=by
 unfold Wj
 rw [C3,C3]
 by_cases b:rv s<p
 ·rw [iP b];exact ⟨p,rfl,aF,h⟩
 ·rw [iN b]
  by_cases a:q<rv s
  ·rw [iP a];exact ⟨q,rfl,h,aF⟩
  ·rw [iN a];exact ⟨rv s,rfl,by grind,by grind⟩
section
variable {h:aL} {K:VP} {m:Nat} {lo hi x lo2 hi2 s t:List UInt8}
def Wn(gl:Gl h)(ta:Tx m lo)(tb:Tx m hi)(hm:m<=1000000000)(hK:∀ lo' hi',((lo'=lo/\hi'=hi)\/(lo'=hi/\hi'=lo))->rv lo'<=rv hi'->K (ivT lo' hi') h):aR prog Mi #[ivT lo hi] h K:=by
 refine A32 _ _ ?_
 unfold A4e
 refine I4 gl ta tb (by omega) ⟨_,rfl,B3 (fun e=>?_) (fun e=>?_)⟩
 ·exact hK hi lo (.inr ⟨rfl,rfl⟩) (by have:=Iw.1 e;grind)
 ·exact hK lo hi (.inl ⟨rfl,rfl⟩) (by have:¬ rv hi<rv lo:=fun h=>e (Iw.2 h);grind)
def Uf(gl:Gl h)(ta:Tx m lo)(tb:Tx m hi)(ts:Tx m s)(hm:m<=1000000)(hm1:1<=m)(hK:K (.string (bs (Wj lo hi s))) h):aR prog Xe #[ivT lo hi,.string (bs s)] h K:=by
 refine B2r _ _ _ ?_
 unfold B92
 refine Ps (b:=[48]) gl ts ⟨by simp,by rw [C0b];exact Sz.zero hm1⟩ (by omega) ⟨_,rfl,?_⟩
 rw [C0b,Rat.add_zero]
 refine I4 gl (Tx.of ts.sz (by omega)) ta (by omega) ⟨_,rfl,?_⟩
 rw [C3]
 unfold Wj at hK
 refine B3 (fun e=>?_) (fun e=>?_)
 ·rw [iP (Xp.1 e)] at hK;exact hK
 ·rw [iN (fun a=>e (Xp.2 a))] at hK
  refine I4 gl (Tx.of ts.sz (by omega)) tb (by omega) ⟨_,rfl,?_⟩
  rw [C3]
  refine B3 (fun c=>?_) (fun c=>?_)
  ·rw [iP (Iw.1 c)] at hK;exact hK
  ·rw [iN (fun a=>c (Iw.2 a))] at hK;exact hK
def A8o{p q r:Rat}(gl:Gl h)(hp:Sz m p)(hq:Sz m q)(hr:Sz m r)(hm:m<=10000000)(h1:p<=r)(h2:r<=q)(hK:K (.bool true) h):aR prog R8 #[ivT (C9 p) (C9 q),.string (bs (C9 r))] h K:=by
 refine A51 gl (Tx.of hp (by omega)) (Tx.of hq (by omega)) (Tx.of hr (by omega)) (by omega) ?_
 rw [Uo h1 h2];exact hK
end
abbrev R4:=List UInt8 × List UInt8 × Bool × Int
abbrev r4(x:R4):aY:=.tuple #[ivT x.1 x.2.1,.bool x.2.2.1,I x.2.2.2]
def A7x(lo hi lo2 hi2:List UInt8):R3:=if ivB lo hi&&ivB lo2 hi2 then (C9 (mn (rv lo) (rv lo2)),C9 (mx (rv hi) (rv hi2)),0) else ([],[],1)
def Sz.mn{m:Nat}{p q:Rat}(hp:Sz m p)(hq:Sz m q):Sz m (mn p q):=by rcases A25 p q with e|e<;>rw [e]<;>assumption
def Sz.mx{m:Nat}{p q:Rat}(hp:Sz m p)(hq:Sz m q):Sz m (mx p q):=by rcases A22 p q with e|e<;>rw [e]<;>assumption
def Ws{p q r s:Rat}(h:p<=q)(h2:r<=s):A7x (C9 p) (C9 q) (C9 r) (C9 s)=(C9 (mn p r),C9 (mx q s),0):=by rw [A7x,iP (Vs h h2),C3,C3,C3,C3]
def B1q{lo hi lo2 hi2:List UInt8}(h:¬ (A0x lo hi/\A0x lo2 hi2)):A7x lo hi lo2 hi2=([],[],1):=by rw [A7x,Ys h,iN (by simp)]
def Lu{m:Nat}{q:Rat}(h:Sz m q):∀ t∈[q],Sz m t:=fun t a=>by rw [List.mem_singleton.1 a];exact h
section
variable {h:aL} {K:VP} {m:Nat} {lo hi x lo2 hi2:List UInt8}
def B3c(gl:Gl h)(ta:Tx m lo)(tb:Tx m hi)(tc:Tx m lo2)(td:Tx m hi2)(hm:m<=1000000)(hK:K (r3 (A7x lo hi lo2 hi2)) h):aR prog Pi #[ivT lo hi,ivT lo2 hi2] h K:=by
 refine FCall.pure (B0b _ _ _ _ ?_)
 unfold B4a
 have y:¬ (A0x lo hi/\A0x lo2 hi2)->h.le h/\K (.tuple #[.agg #[.string ({ data:=#[] }:ByteArray),.string ({ data:=#[] }:ByteArray)],I (1:Int)]) h:=by
  intro g
  rw [B1q g] at hK
  exact ⟨B0 _,hK⟩
 refine N9 gl ta tb (by omega) (fun p q C z o=>⟨_,rfl,?_⟩) (fun g=>⟨_,rfl,y fun x=>g x.1⟩)
 refine N9 gl tc td (by omega) (fun r s E D e=>⟨_,rfl,?_⟩) (fun g=>⟨_,rfl,y fun x=>g x.2⟩)
 subst C z E D
 have n:=ta.sz;have k:=tb.sz;have j:=tc.sz;have i:=td.sz
 rw [C3] at n k j i
 rw [Ws o e] at hK
 refine ⟨Fl Z5 (ls:=[C9 r]) rfl (by simp) rfl ?_,Fl Z5 (ls:=[C9 s]) rfl (by simp) rfl ?_⟩
 ·intro B A c l
  refine ⟨_,_,_,rfl,c,?_,?_⟩
  ·refine Gz (qs:=[r]) (gl.mono c) rfl l n (Lu j) (by omega) (by simp) ⟨_,rfl,B0 _,?_⟩
   refine Fl Z5 (ls:=[C9 s]) rfl (by simp) rfl ?_
   intro w u b d
   have a:=Heap.le_trans c b
   exact ⟨_,_,_,rfl,b,Z8 (qs:=[s]) (gl.mono a) rfl d k (Lu i) (by omega) (by simp) ⟨_,rfl,B0 _,a,hK⟩⟩
  ·refine Fl Z5 (ls:=[C9 s]) rfl (by simp) rfl ?_
   intro w u b d
   have a:=Heap.le_trans c b
   refine ⟨_,_,_,rfl,b,Gz (qs:=[r]) (gl.mono a) rfl (l.mono b) n (Lu j) (by omega) (by simp) ⟨_,rfl,B0 _,?_⟩⟩
   exact Z8 (qs:=[s]) (gl.mono a) rfl d k (Lu i) (by omega) (by simp) ⟨_,rfl,B0 _,a,hK⟩
 ·intro B A c l
  refine ⟨_,_,_,rfl,c,Fl Z5 (ls:=[C9 r]) rfl (by simp) rfl ?_⟩
  intro w u b d
  have a:=Heap.le_trans c b
  refine ⟨_,_,_,rfl,b,Gz (qs:=[r]) (gl.mono a) rfl d n (Lu j) (by omega) (by simp) ⟨_,rfl,B0 _,?_⟩⟩
  exact Z8 (qs:=[s]) (gl.mono a) rfl (l.mono b) k (Lu i) (by omega) (by simp) ⟨_,rfl,B0 _,a,hK⟩
end
def Um{K:aP->aL->Prop}{h:aL}{e:EV}(x:∀ b,h b=none->K ⟨b,0,none⟩ (h.put b (.cells (enc e).toArray C8))):
 wpH prog (Instr.alloc C8 true (.tuple #[])) (fun v1 hp=>∃ (p:aP),v1= .pointer (some p)/\wpH prog (bZ C8 (.pointer (some p)) e.v) (fun _ hp2=>K p hp2) hp) h:=by
 refine Rq Dm.info fun b a=>⟨_,rfl,?_⟩
 have y:=x b a
 have key:=Lm (P:=prog) (t:=C8) (n:=10) Yz (v:=e.v) (vs:=enc e) rfl rfl (instEncEV.default.one e) (g:=h) (b:=b) (off:=0) (e:=C8) (arr:=[I (0:Int),I (0:Int),I (0:Int),I (0:Int),I (0:Int),I (0:Int),.bool false,.slice none 0 0,.bool false,.slice none 0 0]) (by decide) (K:=fun _ hp2=>K ⟨b,0,none⟩ hp2) (by
  have:H8 [I (0:Int),I (0:Int),I (0:Int),I (0:Int),I (0:Int),I (0:Int),.bool false,.slice none 0 0,.bool false,.slice none 0 0] 0 (enc e)=enc e:=by
   have c:(enc e).length=10:=rfl
   simp [H8,c]
  rw [this];exact y)
 rw [T4] at key
 exact key
def Sep.grow{h g o h' g':aL}(s:Sep h g o)(s':Sep h' g' o)(l:g.le g'):h.le h':=fun k x e=>by
 cases ho:o k with
 | some y=>
  have:=s.own k y ho
  rw [e] at this;cases this
  exact s'.own k _ ho
 | none=>
  rw [s.rest k ho] at e
  rw [s'.rest k ho];exact l k x e
def B9w{h g o:aL}{b i:Nat}{ws:List IV}(s:Sep h g o)(rb:bI o b ws)(hi:i<ws.length):h.cell? (aM (aM ⟨b,0,none⟩ (i*2)) 0)=some (.bool ws[i].s)/\h.cell? (aM (aM ⟨b,0,none⟩ (i*2)) 1)=some (.slice ws[i].A ws[i].n ws[i].c):=by
 have a:=s.cell (RowB.cell rb.rowB hi (j:=0) (v:=.bool ws[i].s) rfl)
 have d:=s.cell (RowB.cell rb.rowB hi (j:=1) (v:=.slice ws[i].A ws[i].n ws[i].c) rfl)
 rw [Ah,Ah,T4,T4,bL,bL]
 exact ⟨a,d⟩
def A9m{α β:Type}[E:Enc α]{R:aL->α->β->Prop}(m:Mon R){h g o:aL}{ys:List α}{bb n:Nat}{f:Nat->β}(s:Sep h g o)(rb:RowB o bb ys)(hy:ys.length=n)(rr:Row R g ys n f):∃ g2,g.le g2/\Sep h g2 (o.without bb)/\bB R g2 (some ⟨bb,0,none⟩) n f:=by
 have a:(o.without bb).le o:=fun k x e=>by
  by_cases b:k=bb
  ·subst b
   have:Heap.without o k k=none:=G1 _ _
   rw [this] at e;cases e
  ·unfold Heap.without at e;rw [iN b] at e;exact e
 obtain ⟨g2,d,c⟩:=s.give a
 obtain ⟨e,ex,j⟩:=rb
 have i:g2 bb=some (.cells (ys.flatMap enc++ex).toArray e):=by
  rw [<- c.rest bb (G1 _ _)]
  exact s.own _ _ j
 exact ⟨g2,d,c,ys,RowB.slF (o:=g2) ⟨e,ex,i⟩ (B0 _),hy,rr.mono m d⟩
def A1p{h:aL}{K:VP}{w:QV}{q:Rat}(_:RQ h w q)(hK:K (.agg #[.bool w.s,.slice w.A w.n w.c]) h):aR prog A85 #[w.v] h K:=by
 refine B6b _ _ _ _ _ _ _ _ ?_
 unfold C2g
 exact hK
def B3m(e:EV):∀ {k:Nat},k<6->(enc e)[k]? = some (I (e.xs.getD k 0))
 | 0,_=>rfl
 | 1,_=>rfl
 | 2,_=>rfl
 | 3,_=>rfl
 | 4,_=>rfl
 | 5,_=>rfl
 | k+6,h=>by omega
def Vv:prog.cellsOf Gs=2/\(prog.info? Gs).isSome=true:=B4o
abbrev exA(ts:List J8)(k i:Nat):Int:=(tm ts i).2.getD k 0
section
variable {h hp g o hp5:aL} {A:Option aP} {ts:List J8} {n k G D T p bs bp dn dc:Nat} {w:QV} {q:Rat} {d:Int} {sc:Nat->Int} {ws:List IV} {ds:Bool} {dA:Option aP} {Invv1:LP} {muv1:LN}
def C1c(er:bB ENr g A n (tm ts))(s:Sep hp g o)(rb:bI o bs ws)(hw:ws.length=n)(rr:Row ZIr g ws n sc)(rp:bB ZIr g (some ⟨bp,0,none⟩) (G+1) (pwZ q G))(iq:RQ g w q)(id:ZI g ds dA dn dc d)(hk6:k<6)(hn:n<=1000)(hG:G<=1000)(hex:∀ i,i<n->0<=exA ts k i/\exA ts k i<=(G:Int))(zb:∀ i,i<n->ZB T (sc i))(zp:∀ e,e<=G->ZB T (pwZ q G e))(zd:ZB T d)(hpm:p<=6400000000)(hq:Sz p q)(hp1:1<=p)(hT:T<=100000000)(hpT:p*G+1<=T)
 (hcont:∀ hp' g' o' ws' ds' dA' dn' dc',g.le g'->Sep hp' g' o'->bI o' bs ws'->ws'.length=n->Row ZIr g' ws' n (fun i=>sc i*pwZ q G (exA ts k i).toNat)->ZI g' ds' dA' dn' dc' (d*(q.den:Int)^G)->Invv1 [I (B4 ((k:Int)+1)),.bool ds',.slice dA' dn' dc'] hp'/\muv1 [I (B4 ((k:Int)+1)),.bool ds',.slice dA' dn' dc'] hp'<muv1 [I (k:Int),.bool ds,.slice dA dn dc] hp5):
 Nb prog A n (some ⟨bs,0,none⟩) n Invv1 muv1 (k:Int) ds dA dn dc w.s w.A w.n w.c w.s2 w.A2 w.n2 w.c2 (G:Int) (some ⟨bp,0,none⟩) (G+1) hp5 hp:=by
 unfold Nb
 refine ⟨fun L hp'=>∃ (i:Nat) (g' o':aL) (ws':List IV),i<=n/\L=[I (i:Int)]/\g.le g'/\Sep hp' g' o'/\bI o' bs ws'/\ws'.length=n/\Row ZIr g' ws' n (fun j=>if j<i then sc j*pwZ q G (exA ts k j).toNat else sc j),fun L _=>n-(iAt L 0).toNat,⟨0,g,o,ws,by omega,rfl,B0 _,s,rb,hw,rr.congr fun j _=>by rw [iN (by omega)]⟩,?_⟩
 clear rb s hw rr
 rintro z O ⟨i,Q,o2,b,hi,eL,H,s,rb,hw,rr⟩
 obtain rfl:=sI1 eL
 refine B3 (fun ag=>?_) (fun ae=>?_)
 ·have r:i<n:=by omega
  obtain ⟨a,e,ea,⟨_,J⟩,hc⟩:=(er.mono Qg H).eat r
  have l:=fun (j:Nat) (u:aY) (h1:(enc e)[j]? = some u)=>C4 s.le (hc j u h1)
  refine ⟨a,ea,by omega,by omega,_,_,_,_,_,_,_,_,_,_,_,_,_,_,l 0 _ rfl,l 1 _ rfl,l 2 _ rfl,l 3 _ rfl,l 4 _ rfl,l 5 _ rfl,l 6 _ rfl,l 7 _ rfl,l 8 _ rfl,l 9 _ rfl,?_⟩
  refine Um (e:=e) ?_
  intro C D
  have aa:Q C=none:=by
   cases e1:Q C with
   | none=>rfl
   | some u=>rw [s.le _ _ e1] at D;cases D
  have m:=s.vis D (.cells (enc e).toArray C8)
  have x:Q.le (Q.put C (.cells (enc e).toArray C8)):=Heap.le_put _ aa
  have M:(O.put C (.cells (enc e).toArray C8)).cell? (aM (aM ⟨C,0,none⟩ 0) (k*1))=some (I (e.xs.getD k 0)):=by
   rw [Nat.mul_one,T4]
   exact H9 rfl (B3m e hk6)
  obtain ⟨V,hg3'⟩:∃ V,V=Q.put C (.cells (enc e).toArray C8):=⟨_,rfl⟩
  obtain ⟨hp3,hhp3⟩:∃ hp3,hp3=O.put C (.cells (enc e).toArray C8):=⟨_,rfl⟩
  rw [<- hg3',<- hhp3] at m
  rw [<- hg3'] at x
  rw [<- hhp3] at M ⊢
  have B:i<b.length:=by omega
  obtain ⟨c0,c1⟩:=B9w m rb B
  refine ⟨_,rfl,by omega,by omega,_,_,_,_,c0,c1,⟨by omega,by omega⟩,_,M,?_⟩
  have ab:e.xs.getD k 0=exA ts k i:=J k hk6
  rw [ab]
  obtain ⟨x0,xG⟩:=hex i r
  have Z:(exA ts k i).toNat<G+1:=by omega
  obtain ⟨ap,wp,ac,ip,p0,p1⟩:=(rp.mono Qf (Heap.le_trans H x)).zat Z
  refine ⟨ap,ac,x0,by omega,_,_,_,_,C4 m.le p0,C4 m.le p1,?_⟩
  have X:=(rr.mono Qf x).get r B
  have S:ZI V b[i].s b[i].A b[i].n b[i].c (sc i):=by
   have:(fun j=>if j<i then sc j*pwZ q G (exA ts k j).toNat else sc j) i=sc i:=iN (by omega)
   rw [<- this];exact X
  refine m.call (G9 S ip (zb i r) (zp _ (by omega)) (by omega) ?_)
  intro s1 A1 n1 N g4 E i4 ah F
  refine ⟨_,_,_,_,rfl,m.grow F E,_,rfl,by omega,by omega,?_⟩
  refine Ak Vv (y:=(⟨s1,A1,n1,N⟩:IV)) rfl F rb (i:=i) (by omega) ?_
  intro h5 o5 x5 e5 W r5
  rw [wiS i (by omega)]
  refine ⟨⟨i+1,g4,o5,_,by omega,rfl,Heap.le_trans H (Heap.le_trans x E),W,r5,by rw [aH];exact hw,?_⟩,by simp only [B0k];omega⟩
  have r6:=(rr.mono Qf (Heap.le_trans x E)).upd B (w:=(⟨s1,A1,n1,N⟩:IV)) (y:=sc i*pwZ q G (exA ts k i).toNat) i4
  refine r6.congr fun j _=>?_
  show (if j=i then _ else (if j<i then _ else _))=_
  by_cases e6:j=i
  ·subst e6;rw [iP rfl,iP (by omega)]
  ·rw [iN e6]
   by_cases e7:j<i
   ·rw [iP e7,iP (by omega)]
   ·rw [iN e7,iN (by omega)]
 ·obtain rfl:i=n:=by omega
  have pG:p*G+1<=100000000:=by omega
  refine s.call (W8 (iq.mono H) ?_)
  intro s1 A1 n1 c1 V x i3 h3 m
  refine ⟨_,_,_,_,rfl,s.grow m x,?_⟩
  rw [C2 (by omega) (by omega)]
  refine m.call (Ch i3 hq.den hp1 (by omega) hpm (by omega) ?_)
  intro af A4 n4 c4 g4 E i4 h4 F
  refine ⟨_,_,_,_,rfl,m.grow F E,?_⟩
  refine F.call (G9 (id.mono (Heap.le_trans H (Heap.le_trans x E))) i4 zd ((hq.den.pow hp1 G).mono hpT) (by omega) ?_)
  intro ad A5 n5 c5 g5 l5 i5 h5 W
  have R:=Heap.le_trans x (Heap.le_trans E l5)
  refine ⟨_,_,_,_,rfl,F.grow W l5,?_⟩
  exact hcont h5 g5 o2 b _ _ _ _ (Heap.le_trans H R) W rb hw ((rr.mono Qf R).congr fun j hj=>by rw [iP hj]) i5
abbrev C2n(ts:List J8)(n k bs:Nat)(q:Rat)(d:Int)(sc:Nat->Int)(g:aL)(D:Nat)(Q:Bool->Option aP->Nat->Nat->aL->Prop):Prop:=∀ (G:Nat),G<=D->(∀ i,i<n->exA ts k i<=(G:Int))->∀ hp' g' o' ws' ds' dA' dn' dc',g.le g'->Sep hp' g' o'->bI o' bs ws'->ws'.length=n->Row ZIr g' ws' n (fun i=>sc i*pwZ q G (exA ts k i).toNat)->ZI g' ds' dA' dn' dc' (d*(q.den:Int)^G)->Q ds' dA' dn' dc' hp'
abbrev C1j(Invv1:LP)(muv1:LN)(k:Nat)(ds:Bool)(dA:Option aP)(dn dc:Nat)(hp5:aL)(ds':Bool)(dA':Option aP)(dn' dc':Nat)(hp':aL):Prop:=Invv1 [I (B4 ((k:Int)+1)),.bool ds',.slice dA' dn' dc'] hp'/\muv1 [I (B4 ((k:Int)+1)),.bool ds',.slice dA' dn' dc'] hp'<muv1 [I (k:Int),.bool ds,.slice dA dn dc] hp5
def C1d(er:bB ENr g A n (tm ts))(s:Sep hp g o)(rb:bI o bs ws)(hne:bs≠bp)(hw:ws.length=n)(rr:Row ZIr g ws n sc)(rx:bI o bp (aU (G+1) (⟨false,none,0,0⟩:IV)))(iq:RQ g w q)(id:ZI g ds dA dn dc d)(hk6:k<6)(hn:n<=1000)(hG:G<=D)(hD:D<=1000)(hex:∀ i,i<n->0<=exA ts k i/\exA ts k i<=(G:Int))(zb:∀ i,i<n->ZB T (sc i))(zd:ZB T d)(hq:Sz p q)(hp1:1<=p)(hT:T<=100000000)(hpT:p*D+2<=T)(hpm:p<=6400000000)
 (hcont:C2n ts n k bs q d sc g D (C1j Invv1 muv1 k ds dA dn dc hp5)):
 Nc prog A n (some ⟨bs,0,none⟩) n Invv1 muv1 (k:Int) ds dA dn dc w.s w.A w.n w.c w.s2 w.A2 w.n2 w.c2 (G:Int) (some ⟨bp,0,none⟩) (G+1) hp hp5:=by
 unfold Nc
 have ah:p*G<=p*D:=aN _ hG
 refine ⟨fun L b=>∃ (e:Nat) (E u:aL) (xs:List IV),e<=G+1/\L=[I (e:Int)]/\g.le E/\Sep b E u/\bI u bs ws/\bI u bp xs/\xs.length=G+1/\Row ZIr E xs e (pwZ q G),fun L _=>G+1-(iAt L 0).toNat,⟨0,g,o,_,by omega,rfl,B0 _,s,rb,rx,aW,Row.nil⟩,?_⟩
 clear rb s rx
 rintro z ag ⟨e,g2,o2,xs,he,eL,j,s,rb,rx,r,rp⟩
 obtain rfl:=sI1 eL
 refine B3 (fun ai=>?_) (fun ad=>?_)
 ·have O:e<=G:=by omega
  have ac:p*e<=p*G:=aN _ O
  have aa:p*(G-e)<=p*G:=aN _ (by omega)
  refine A1p ((iq.mono j).mono s.le) ⟨_,_,_,_,rfl,B0 _,?_⟩
  rw [C2 (by omega) (by omega)]
  refine s.call (Ch (iq.mono j).num hq.num hp1 (by omega) hpm (by omega) ?_)
  intro ae A3 n3 c3 g3 C i3 h3 B
  refine ⟨_,_,_,_,rfl,s.grow B C,?_⟩
  refine B.call (W8 (iq.mono (Heap.le_trans j C)) ?_)
  intro af A4 n4 c4 g4 W i4 h4 F
  refine ⟨_,_,_,_,rfl,B.grow F W,?_⟩
  rw [show B4 ((G:Int)-(e:Int))=((G-e:Nat):Int) by rw [B5]<;>omega,C2 (by omega) (by omega)]
  refine F.call (Ch i4 hq.den hp1 (by omega) hpm (by omega) ?_)
  intro ab A5 n5 c5 g5 X i5 h5 S
  refine ⟨_,_,_,_,rfl,F.grow S X,?_⟩
  refine S.call (G9 (m:=T) (i3.mono (Heap.le_trans W X)) i5 ((hq.num.pow hp1 e).mono (by omega)) ((hq.den.pow hp1 (G-e)).mono (by omega)) (by omega) ?_)
  intro R A6 n6 c6 g6 l6 i6 h6 s6
  have l:=Heap.le_trans C (Heap.le_trans W (Heap.le_trans X l6))
  refine ⟨_,_,_,_,rfl,S.grow s6 l6,_,rfl,by omega,by omega,?_⟩
  refine Ak Vv (y:=(⟨R,A6,n6,c6⟩:IV)) rfl s6 rx (i:=e) (by omega) ?_
  intro h7 o7 x7 e7 s7 r7
  rw [wiS e (by omega)]
  refine ⟨⟨e+1,g6,o7,_,by omega,rfl,Heap.le_trans j l,s7,?_,r7,by rw [aH];exact r,?_⟩,by simp only [B0k];omega⟩
  ·rw [e7];exact rb.other hne _
  ·exact (rp.mono Qf l).set (by omega) i6
 ·obtain rfl:e=G+1:=by omega
  obtain ⟨g3,C,B,Z⟩:=A9m Qf s rx.rowB r rp
  have Q:bI (o2.without bp) bs ws:=rb.keep fun x hx=>by
   unfold Heap.without;rw [iN hne];exact hx
  have a:=Heap.le_trans j C
  exact C1c (T:=T) (er.mono Qg a) B Q hw (rr.mono Qf a) Z (iq.mono a) (id.mono a) hk6 hn (by omega) hex zb (fun e he=>(B34 hq hp1 he hG).mono hpT) zd hpm hq hp1 hT (by omega) (fun b E u V J M N H l'=>hcont G hG (fun i hi=>(hex i hi).2) b E u V J M N H (Heap.le_trans a l'))
def C1e(er:bB ENr g A n (tm ts))(s:Sep hp g o)(rb:bI o bs ws)(hw:ws.length=n)(rr:Row ZIr g ws n sc)(iq:RQ g w q)(id:ZI g ds dA dn dc d)(hk6:k<6)(hn:n<=1000)(hD:D<=1000)(hex:∀ i,i<n->0<=exA ts k i/\exA ts k i<=(D:Int))(zb:∀ i,i<n->ZB T (sc i))(zd:ZB T d)(hq:Sz p q)(hp1:1<=p)(hT:T<=100000000)(hpT:p*D+2<=T)(hpm:p<=6400000000)
 (hcont:C2n ts n k bs q d sc g D (C1j Invv1 muv1 k ds dA dn dc hp)):
 Nd prog A n (some ⟨bs,0,none⟩) n Invv1 muv1 (k:Int) ds dA dn dc w.s w.A w.n w.c w.s2 w.A2 w.n2 w.c2 hp:=by
 unfold Nd
 refine ⟨fun L r=>∃ (i G:Nat) (J:aL),i<=n/\L=[I (G:Int),I (i:Int)]/\g.le J/\Sep r J o/\G<=D/\∀ j,j<i->exA ts k j<=(G:Int),fun L _=>n-(iAt L 1).toNat,⟨0,0,g,by omega,rfl,B0 _,s,by omega,fun j F=>by omega⟩,?_⟩
 clear s
 rintro zG z V ⟨i,G,g2,hi,eL,m,s,hG,l⟩
 obtain ⟨rfl,rfl⟩:zG=(G:Int)/\z=(i:Int):=by simpa using eL
 refine B3 (fun ad=>?_) (fun ac=>?_)
 ·have E:i<n:=by omega
  obtain ⟨a,e,ea,⟨_,B⟩,hc⟩:=(er.mono Qg m).eat E
  have b:=fun (j:Nat) (u:aY) (h1:(enc e)[j]? = some u)=>C4 s.le (hc j u h1)
  refine ⟨a,ea,by omega,by omega,_,_,_,_,_,_,_,_,_,_,_,_,_,_,b 0 _ rfl,b 1 _ rfl,b 2 _ rfl,b 3 _ rfl,b 4 _ rfl,b 5 _ rfl,b 6 _ rfl,b 7 _ rfl,b 8 _ rfl,b 9 _ rfl,?_⟩
  refine Um (e:=e) ?_
  intro H y
  have N:g2 H=none:=by
   cases e1:g2 H with
   | none=>rfl
   | some u=>rw [s.le _ _ e1] at y;cases y
  have O:(V.put H (.cells (enc e).toArray C8)).cell? (aM (aM ⟨H,0,none⟩ 0) (k*1))=some (I (e.xs.getD k 0)):=by
   rw [Nat.mul_one,T4]
   exact H9 rfl (B3m e hk6)
  refine ⟨⟨by omega,by omega⟩,_,O,?_⟩
  have Z:e.xs.getD k 0=exA ts k i:=B k hk6
  rw [Z,wiS i (by omega)]
  obtain ⟨x0,xD⟩:=hex i E
  have hm:(if exA ts k i>(G:Int) then exA ts k i else (G:Int))=((if exA ts k i>(G:Int) then (exA ts k i).toNat else G:Nat):Int):=by split<;>omega
  rw [hm]
  refine ⟨⟨i+1,_,_,by omega,rfl,Heap.le_trans m (Heap.le_put _ N),s.vis y _,by split<;>omega,fun j F=>?_⟩,by simp only [iAt,aT,aO];omega⟩
  by_cases e6:j=i
  ·subst e6;split<;>omega
  ·have:=l j (by omega)
   split<;>omega
 ·obtain rfl:i=n:=by omega
  rw [wiS G (by omega)]
  refine Bj tZs (zx:=(⟨false,none,0,0⟩:IV)) rfl (by omega) (by omega) (by omega) (by omega) ?_
  intro b2 x
  rw [aD]
  have C:bs≠b2:=by
   rintro rfl
   obtain ⟨e1,X⟩:=rb
   rw [s.own _ _ X] at x;cases x
  refine ⟨_,_,_,rfl,?_⟩
  have s2:=s.new x (.cells ((aU (G+1) (⟨false,none,0,0⟩:IV)).flatMap enc).toArray Gs)
  exact C1d (er.mono Qg m) s2 (rb.other C _) C hw (rr.mono Qf m) RowX.mk (iq.mono m) (id.mono m) hk6 hn hG hD (fun j F=>⟨(hex j F).1,l j F⟩) zb zd hq hp1 hT hpT hpm (fun G' ab W r J o' aa Q R S M l'=>hcont G' ab W r J o' aa Q R S M (Heap.le_trans m l'))
end
section
variable {h hp g o:aL} {K:VP} {A B:Option aP} {ts:List J8} {n v m D T p bs dn dc c cc:Nat} {x:Nat->Rat} {d:Int} {sc:Nat->Int} {ds:Bool} {dA:Option aP}
def C1b{bp:Nat}(gl:Gl hp)(hbp:hp bp=none)(rz:bB ZIr hp (some ⟨bs,0,none⟩) n sc)(id:ZI hp ds dA dn dc d)(hn:n<=1000)(hd:0<d)(zb:∀ i,i<n->ZB T (sc i))(zd:ZB T d)(hT1:1<=T)(hT:T<=100000000)
 (he:∀ i,i<n->(sc i:Rat)=tmV (tm ts i).2 x (rv (tm ts i).1) v*(d:Rat))
 (hK:∀ w h',hp.le h'->RQ h' w (evV ts x v n)->K w.v h'):
 Na prog K (some ⟨bs,0,none⟩) n ds dA dn dc ⟨bp,0,none⟩ (hp.put bp (.cells #[.slice none 0 0,.slice none 0 0] Po)):=by
 unfold Na
 have Z0:SumS (hp.put bp (.cells #[.slice none 0 0,.slice none 0 0] Po)) hp bp Po 200000001 0 0:=SumS.zero hbp
 refine ⟨fun L l=>∃ (k:Nat) (g:aL),k<=n/\L=[I (k:Int)]/\hp.le g/\SumS l g bp Po 200000001 (suA sc k) (suZ sc k),fun L _=>n-(iAt L 0).toNat,⟨0,hp,by omega,rfl,B0 _,Z0⟩,?_⟩
 rintro z l ⟨k,g,R,A,e,Z⟩
 obtain rfl:=sI1 A
 refine B3 (fun F=>?_) (fun B=>?_)
 ·have b:k<n:=by omega
  obtain ⟨a,y,E,r,c0,c1⟩:=(rz.mono Qf e).zat b
  refine ⟨a,E,by omega,by omega,_,_,_,_,C4 Z.le c0,C4 Z.le c1,?_⟩
  have H:y.n<=100000000:=ZI.len r (zb k b) (by omega)
  have Q:=B7e zb (k+1) b
  have p:=B4y (m:=T) (k:=k+1) (by omega) (by omega)
  refine A70 Z r (by omega) (by omega) (N1:=T) (by show suA sc (k+1)<_;omega) (by omega) ?_
  intro M C G Z3
  rw [wiS k (by omega)]
  exact ⟨rfl,⟨k+1,C,by omega,rfl,Heap.le_trans e G,Z3⟩,by simp only [B0k];omega⟩
 ·obtain rfl:k=n:=by omega
  refine Vw Z (by omega) ?_
  intro O Av nv J N s u
  have c:=Heap.le_trans e (Heap.le_trans Z.le s)
  refine ⟨_,_,_,_,rfl,s,?_⟩
  refine Wv (m:=T+10) (gl.mono c).tz u (id.mono c) (B7c hn zb) (zd.mono (by omega)) (by omega) ?_
  intro w D q o
  refine ⟨_,_,_,_,_,_,_,_,rfl,q,hK w D (Heap.le_trans c q) ?_⟩
  have j:d≠0:=by omega
  have:bC (suZ sc k) d=evV ts x v k:=by
   rw [Rat.divInt_eq_div,B7d he k (aS _)]
   exact Rat.mul_div_cancel (Tw j)
  rw [this] at o
  exact o
def B4r{es:List Int}{c0:Rat}{k G:Nat}{s0:Int}{e:Int}(h0:0<=e)(he:e=es.getD k 0)(hG:e<=(G:Int))(hs:(s0:Rat)=tmV es x c0 k*(d:Rat)):((s0*pwZ (x k) G e.toNat:Int):Rat)=tmV es x c0 (k+1)*((d*((x k).den:Int)^G:Int):Rat):=by
 subst he
 show _=(tmV es x c0 k*x k^(es.getD k 0).toNat)*_
 rw [bD,B7k (x k) (show (es.getD k 0).toNat<=G by omega),hs,bD]
 grind
def C2s{S:Nat}(gl:Gl h)(lg0:h.le g)(s:Sep hp g o){ws:List IV}(rb:bI o bs ws)(hw:ws.length=n)(rr:Row ZIr g ws n sc)(er:bB ENr h A n (tm ts))(px:bB RQr h B v x)(id:ZI g ds dA dn dc d)(hn:n<=1000)(hv:v<=6)(hD:D<=1000)(hx:∀ j,j<v->Sz p (x j))(hp1:1<=p)(hpm:p<=6400000000)(hex:∀ k,k<v->∀ i,i<n->0<=exA ts k i/\exA ts k i<=(D:Int))(hd:0<d)(zb:∀ i,i<n->ZB S (sc i))(zd:ZB S d)(hT:S+6*(p*D+2)<=T)(hT1:T<=100000000)
 (he:∀ i,i<n->(sc i:Rat)=rv (tm ts i).1*(d:Rat))
 (hK:∀ w h',h.le h'->RQ h' w (evV ts x v n)->K w.v h'):
 Si prog A n B v K ds dA dn dc (some ⟨bs,0,none⟩) n hp:=by
 unfold Si
 refine ⟨fun L l=>∃ (k:Nat) (g o:aL) (ws:List IV) (sc:Nat->Int) (d:Int) (ds:Bool) (dA:Option aP) (dn dc:Nat),k<=v/\L=[I (k:Int),.bool ds,.slice dA dn dc]/\h.le g/\Sep l g o/\bI o bs ws/\ws.length=n/\Row ZIr g ws n sc/\ZI g ds dA dn dc d/\0<d/\(∀ i,i<n->ZB (S+k*(p*D+2)) (sc i))/\ZB (S+k*(p*D+2)) d/\∀ i,i<n->(sc i:Rat)=tmV (tm ts i).2 x (rv (tm ts i).1) k*(d:Rat),fun L _=>v-(iAt L 0).toNat,
  ⟨0,g,o,ws,sc,d,ds,dA,dn,dc,by omega,rfl,lg0,s,rb,hw,rr,id,hd,fun i c=>(zb i c).mono (by omega),zd.mono (by omega),he⟩,?_⟩
 clear lg0 s rb hw rr id hd zb zd he
 rintro z ds dA dn dc ac ⟨k,g,o,ws,sc,d,q,u,y,e,hk,V,C,s,rb,hw,rr,id,hd,zb,zd,he⟩
 simp only [bV,bU,Value.bool.injEq,Value.slice.injEq,true_and,and_true] at V
 obtain ⟨rfl,rfl,rfl,rfl,rfl⟩:=V
 refine B3 (fun ad=>?_) (fun aa=>?_)
 ·have b:k<v:=by omega
  have O:k*(p*D+2)+(p*D+2)<=6*(p*D+2):=by
   rw [<- bM];exact bH _ (by omega)
  obtain ⟨a,w,rfl,iw,d0,Z,X,d3⟩:=(px.mono A4y C).qat b
  refine ⟨a,rfl,by omega,by omega,_,_,_,_,_,_,_,_,C4 s.le d0,C4 s.le Z,C4 s.le X,C4 s.le d3,?_⟩
  refine C1e (T:=T) (D:=D) (p:=p) (er.mono Qg C) s rb hw rr iw id (by omega) hn hD (hex k b) (fun i c=>(zb i c).mono (by omega)) (zd.mono (by omega)) (hx k b) hp1 hT1 (by omega) hpm ?_
  intro G W m l g' o' M q u y e J s' Q H N F
  have ab:p*G<=p*D:=aN _ W
  unfold C1j
  rw [wiS k (by omega)]
  have R:S+(k+1)*(p*D+2)=(S+k*(p*D+2))+(p*D+2):=by rw [bM];omega
  refine ⟨⟨k+1,g',o',M,_,_,q,u,y,e,by omega,rfl,Heap.le_trans C J,s',Q,H,N,F,?_,fun i c=>?_,?_,fun i c=>?_⟩,by simp only [B0k];omega⟩
  ·have:(0:Int)<((x k).den:Int)^G:=Int.pow_pos (by have:=(x k).den_pos;omega)
   exact Int.mul_pos hd this
  ·rw [R]
   exact (zb i c).mul (B34 (hx k b) hp1 (by have:=m i c;have:=(hex k b i c).1;omega) W)
  ·rw [R]
   exact zd.mul (((hx k b).den.pow hp1 G).mono (by omega))
  ·exact B4r (hex k b i c).1 rfl (m i c) (he i c)
 ·obtain rfl:k=v:=by omega
  have O:k*(p*D+2)<=6*(p*D+2):=bH _ hv
  refine Kr B13 ?_
  intro bp E
  refine ⟨_,rfl,?_⟩
  have r:=Heap.le_trans C s.le
  refine C1b (T:=T) (gl.mono r) E ⟨ws,rb.rowB.slF s.ole,hw,rr.mono Qf s.le⟩ (id.mono s.le) hn hd (fun i c=>(zb i c).mono (by omega)) (zd.mono (by omega)) (by omega) hT1 he ?_
  intro w h' J i'
  exact hK w h' (Heap.le_trans r J) i'
def Zl(gl:Gl h)(er:bB ENr h A n (tm ts))(px:bB RQr h B v x)(hn:n<=1000)(hv:v<=6)(hD:D<=1000)(hcf:∀ i,i<n->Sz m (rv (tm ts i).1))(hx:∀ j,j<v->Sz p (x j))(hp1:1<=p)(hex:∀ k,k<v->∀ i,i<n->0<=exA ts k i/\exA ts k i<=(D:Int))(hT:m+(1+n*m+m)+6*(p*D+2)<=100000000)(hpm:p<=100000000)
 (hK:∀ w h',h.le h'->RQ h' w (evV ts x v n)->K w.v h'):aR prog Qy #[.slice A n c,.slice B v cc] h K:=by
 refine A5s _ _ _ _ _ _ ?_
 unfold A9x
 refine We gl er hn hcf (by omega) ?_
 intro s1 A1 n1 c1 H l1 N
 refine ⟨_,_,_,_,rfl,?_⟩
 refine Bj tZs (zx:=(⟨false,none,0,0⟩:IV)) rfl (by omega) (by omega) (by omega) (by omega) ?_
 intro b hb
 rw [aD]
 obtain ⟨d,ed⟩:∃ d,d=Zp (fun i=>rv (tm ts i).1) n:=⟨_,rfl⟩
 have q:=A7s (f:=fun i=>rv (tm ts i).1) (m:=m) n hcf
 have O:=B1n (fun i=>rv (tm ts i).1) n
 have F:=fun i E=>B1o (fun i=>rv (tm ts i).1) n i E
 rw [<- ed] at N q O F
 refine ⟨_,_,_,rfl,fun L X=>∃ (k:Nat) (g o:aL) (J:List IV),k<=n/\L=[I (k:Int)]/\H.le g/\Sep X g o/\bI o b J/\J.length=n/\Row ZIr g J k (fun i=>scl (rv (tm ts i).1) (d:Int)),fun L _=>n-(iAt L 0).toNat,⟨0,H,_,_,by omega,rfl,B0 _,Hi hb,RowX.mk,by simp,Row.nil⟩,?_⟩
 rintro z X ⟨k,g,o,J,hk,Z,G,s,R,W,Q⟩
 obtain rfl:=sI1 Z
 have C:=Heap.le_trans l1 G
 refine B3 (fun ab=>?_) (fun aa=>?_)
 ·have r:k<n:=by omega
  obtain ⟨a,e,rfl,⟨ie,_⟩,hc⟩:=(er.mono Qg C).eat r
  have l:=fun (j:Nat) (u:aY) (H:(enc e)[j]? = some u)=>C4 s.le (hc j u H)
  refine ⟨a,rfl,by omega,by omega,_,_,_,_,_,_,_,_,_,_,_,_,_,_,l 0 _ rfl,l 1 _ rfl,l 2 _ rfl,l 3 _ rfl,l 4 _ rfl,l 5 _ rfl,l 6 _ rfl,l 7 _ rfl,l 8 _ rfl,l 9 _ rfl,?_⟩
  refine s.call (A1o (m:=1+n*m+m) ie (N.mono G) ((hcf k r).mono (by omega)) (q.mono (by omega)) (by omega) ?_)
  intro M A3 n3 c3 g3 V i3 h3 s3
  refine ⟨_,_,_,_,rfl,_,rfl,by omega,by omega,?_⟩
  refine Ak Vv (y:=(⟨M,A3,n3,c3⟩:IV)) rfl s3 R (i:=k) (by omega) ?_
  intro h5 o5 x5 e5 s5 r5
  rw [wiS k (by omega)]
  exact ⟨⟨k+1,g3,o5,_,by omega,rfl,Heap.le_trans G V,s5,r5,by rw [aH];exact W,(Q.mono Qf V).set (by omega) i3⟩,by simp only [B0k];omega⟩
 ·obtain rfl:k=n:=by omega
  refine C2s (S:=m+(1+k*m)) (T:=100000000) (p:=p) (D:=D) gl C s R W Q er px (N.mono G) hn hv hD hx hp1 (by omega) hex (by omega) (fun i E=>B7h (hcf i E) q) (q.mono (by omega)) (by omega) (aS _) (fun i E=>B7i (Int.natCast_dvd_natCast.2 (F i E))) hK
end
section
variable {h:aL} {K:VP} {A B:Option aP} {ts:List J8} {m D p c cc:Nat}
def A1z{vars:Int}{n2:Nat}{ls:Nat->List UInt8}(gl:Gl h)(pa:PolyAt h A ts)(px:bB SSr h B n2 ls)(hts:ts.length<=1000)(hD:D<=1000)(hcl:∀ i,i<ts.length->(tm ts i).1.length<=1000)(hxl:∀ i,i<n2->(ls i).length<=10000)(hn2:n2<=1000)
 (hcf:∀ i,i<ts.length->Sz m (rv (tm ts i).1)) (hx:∀ j,j<n2->Sz p (rv (ls j))) (hp1:1<=p) (hT:m+(1+ts.length*m+m)+6*(p*D+2)<=10000000) (hpm:p<=10000000) (hex:∀ i,i<ts.length->∀ k,k<(tm ts i).2.length->(tm ts i).2.getD k 0<=(D:Int))
 (hsz:Gj vars ts->(n2:Int)=vars->Sz 40000000 (evV ts (fun i=>rv (ls i)) n2 ts.length))
 (hK1:¬ (Gj vars ts/\∀ i,i<n2->IsNum (ls i))->∀ h',h.le h'->K (.tuple #[.string ({ data:=#[] }:ByteArray),I 1]) h')
 (hK4:(Gj vars ts/\∀ i,i<n2->IsNum (ls i))->(n2:Int)≠vars->∀ h',h.le h'->K (.tuple #[.string ({ data:=#[] }:ByteArray),I 4]) h')
 (hK0:Gj vars ts->(∀ i,i<n2->IsNum (ls i))->(n2:Int)=vars->∀ h',h.le h'->K (.tuple #[.string (bs (C9 (evV ts (fun i=>rv (ls i)) n2 ts.length))),I 0]) h'):aR prog Xc #[.agg #[I vars,.slice A ts.length c],.slice B n2 cc] h K:=by
 refine A9w _ _ _ _ _ _ _ ?_
 unfold B43
 refine Zk gl.tz pa hts (fun i g=>by have:=hcl i g;omega) (fun s A1 c1 G l H=>⟨_,_,_,_,rfl,?_⟩) (fun q G l=>⟨_,_,_,_,rfl,?_⟩)
 ·refine Nl (gl.mono l) (px.mono A4x l) (by omega) (fun i g=>by have:=hxl i g;omega) (fun a b u r=>⟨_,_,_,_,rfl,By (By ?_)⟩) (fun n u x=>⟨_,_,_,_,rfl,By (Dh (hK1 (fun y=>n y.2) _ (Heap.le_trans l x)))⟩)
  have d:=Heap.le_trans l r.le
  refine J9 (fun e=>hK4 ⟨s,a⟩ e _ d) (fun C=>?_)
  obtain ⟨wf,_⟩:=id s
  have F:=wf.hi
  refine Zl (m:=m) (p:=p) (D:=D) (gl.mono d) (H.mono Qg r.le) (r.vis A4y) hts (by omega) hD hcf hx hp1 (fun k L i g=>?_) (by omega) (by omega) ?_
  ·have M:=(wf.all i g).1.len
   have o:k<(tm ts i).2.length:=by omega
   exact ⟨((wf.all i g).1.exps _ (Hb o)).1,hex i g k o⟩
  ·intro w J z E
   refine ⟨_,_,_,_,_,_,_,_,rfl,Q9 (gl.mono (Heap.le_trans d z)).p10 E (hsz s C) (by omega) ⟨_,rfl,hK0 s a C _ (Heap.le_trans d z)⟩⟩
 ·refine Nl (gl.mono l) (px.mono A4x l) (by omega) (fun i g=>by have:=hxl i g;omega) (fun a b u r=>⟨_,_,_,_,rfl,Dh (hK1 (fun y=>q y.1) _ (Heap.le_trans l r.le))⟩) (fun n u x=>⟨_,_,_,_,rfl,Dh (hK1 (fun y=>q y.1) _ (Heap.le_trans l x))⟩)
end
def B30{es:List Int}{x:Nat->Rat}{c:Rat}{m p D:Nat}(hp:1<=p)(hc:Sz m c):∀ k,(∀ j,j<k->Sz p (x j))->(∀ j,j<k->(es.getD j 0).toNat<=D)->Sz (m+k*(p*D+1)) (tmV es x c k)
 | 0,_,_=>hc.mono (by omega)
 | k+1,hx,he=>by
  have h1:=B30 hp hc k (fun j a=>hx j (by omega)) (fun j a=>he j (by omega))
  have b:=(hx k (by omega)).pow hp (es.getD k 0).toNat
  have d:p*(es.getD k 0).toNat<=p*D:=aN _ (he k (by omega))
  refine (h1.mul b).mono ?_
  rw [bM];omega
def B3k{ts:List J8}{x:Nat->Rat}{n M:Nat}: ∀ i,(∀ t,t<i->Sz M (tmV (tm ts t).2 x (rv (tm ts t).1) n))->Sz (1+i*(M+1)) (evV ts x n i)
 | 0,_=>Sz.zero (by omega)
 | i+1,h=>by
  have h1:=B3k i fun t a=>h t (by omega)
  refine (h1.add (h i (by omega))).mono ?_
  rw [bM];omega
def A3o{l:List Ivl}{k j:Nat}{v:Ivl}(hk:k<l.length):(l.set k v).getD j ([],[])=if j=k then v else l.getD j ([],[]):=by
 rw [aC,aC]
 by_cases e:j=k
 ·subst e;rw [iP rfl,cC hk];rfl
 ·rw [iN e,List.getElem?_set_ne (fun x=>e x.symm)]
def Up{l:List Ivl}(bo:Ho l){k:Nat}(hk:k<l.length):∃ p q,l.getD k ([],[])=(C9 p,C9 q)/\p<=q/\bxQ l k=(p,q):=by
 obtain ⟨p,q,a,b,h⟩:=bo _ (aJ hk)
 have e:l.getD k ([],[])=(C9 p,C9 q):=by
  rw [aC,aE hk]
  exact Prod.ext a b
 exact ⟨p,q,e,h,by unfold bxQ;rw [e,C3,C3]⟩
def B17{l:List Ivl}{k:Nat}{r:Rat}(bo:Ho l)(hk:k<l.length)(h1:(bxQ l k).1<=r)(h2:r<=(bxQ l k).2):Ho (l.set k ((l.getD k ([],[])).1,C9 r))/\∀ j,j<l.length->(bxQ (l.set k ((l.getD k ([],[])).1,C9 r)) j).1<=(bxQ (l.set k ((l.getD k ([],[])).1,C9 r)) j).2/\InI (bxQ (l.set k ((l.getD k ([],[])).1,C9 r)) j) (bxQ l j):=by
 obtain ⟨p,q,n,w,d⟩:=Up bo hk
 rw [d] at h1 h2
 rw [n]
 refine ⟨fun y m=>?_,fun j o=>?_⟩
 ·rcases aQ m with h|rfl
  ·exact bo y h
  ·exact ⟨p,r,rfl,rfl,h1⟩
 ·obtain ⟨u,s,g,c,b⟩:=Up bo o
  have i:bxQ (l.set k (C9 p,C9 r)) j=if j=k then (p,r) else bxQ l j:=by
   unfold bxQ
   rw [A3o hk]
   by_cases e:j=k
   ·rw [iP e,iP e,C3,C3]
   ·rw [iN e,iN e]
  show _/\InI (bxQ (l.set k (C9 p,C9 r)) j) _
  have a:(bxQ (l.set k (C9 p,C9 r)) j).1<=(bxQ (l.set k (C9 p,C9 r)) j).2/\InI (bxQ (l.set k (C9 p,C9 r)) j) (bxQ l j):=by
   rw [i]
   by_cases e:j=k
   ·subst e
    rw [iP rfl,d]
    exact ⟨h1,aF,h2⟩
   ·rw [iN e,b]
    exact ⟨c,aF,aF⟩
  exact a
def B18{l:List Ivl}{k:Nat}{r:Rat}(bo:Ho l)(hk:k<l.length)(h1:(bxQ l k).1<=r)(h2:r<=(bxQ l k).2):Ho (l.set k (C9 r,(l.getD k ([],[])).2))/\∀ j,j<l.length->(bxQ (l.set k (C9 r,(l.getD k ([],[])).2)) j).1<=(bxQ (l.set k (C9 r,(l.getD k ([],[])).2)) j).2/\InI (bxQ (l.set k (C9 r,(l.getD k ([],[])).2)) j) (bxQ l j):=by
 obtain ⟨p,q,n,w,d⟩:=Up bo hk
 rw [d] at h1 h2
 rw [n]
 refine ⟨fun y m=>?_,fun j o=>?_⟩
 ·rcases aQ m with h|rfl
  ·exact bo y h
  ·exact ⟨r,q,rfl,rfl,h2⟩
 ·obtain ⟨u,s,g,c,b⟩:=Up bo o
  have i:bxQ (l.set k (C9 r,C9 q)) j=if j=k then (r,q) else bxQ l j:=by
   unfold bxQ
   rw [A3o hk]
   by_cases e:j=k
   ·rw [iP e,iP e,C3,C3]
   ·rw [iN e,iN e]
  have a:(bxQ (l.set k (C9 r,C9 q)) j).1<=(bxQ (l.set k (C9 r,C9 q)) j).2/\InI (bxQ (l.set k (C9 r,C9 q)) j) (bxQ l j):=by
   rw [i]
   by_cases e:j=k
   ·subst e
    rw [iP rfl,d]
    exact ⟨h2,h1,aF⟩
   ·rw [iN e,b]
    exact ⟨c,aF,aF⟩
  exact a
def B7s{a p r:Rat}(h1:a<=p)(h2:a<=r):mn (mn p r) a=a:=by unfold mn;grind
def B53{a p r:Rat}(h1:p<=a)(h2:r<=a):mx (mx p r) a=a:=by unfold mx;grind
def atF(l:List Ivl)(sn:Nat)(ls:Nat->List UInt8)(j:Nat):List UInt8:=Wj (l.getD j ([],[])).1 (l.getD j ([],[])).2 (if j<sn then ls j else [48])
def B8q{l:List Ivl}{sn:Nat}{ls:Nat->List UInt8}(bo:Ho l){j:Nat}(hj:j<l.length):∃ x,atF l sn ls j=C9 x/\(bxQ l j).1<=x/\x<=(bxQ l j).2:=by
 obtain ⟨p,q,a,b,c⟩:=Up bo hj
 unfold atF
 rw [a,c]
 exact B52 _ b
def A71{s:List UInt8}{k:Nat}(h:s.length<=k)(hk:1<=k):(C9 (rv s)).length<=k:=by
 by_cases a:IsNum s
 ·obtain ⟨q,rfl⟩:=a
  rw [C3];exact h
 ·rw [A3g a,A6m];exact hk
def A7f{lo hi s:List UInt8}(h1:lo.length<=20)(h2:hi.length<=20)(h3:s.length<=8):(Wj lo hi s).length<=20:=by
 unfold Wj
 split
 ·exact h1
 ·split
  ·exact h2
  ·exact Nat.le_trans (A71 h3 (by omega)) (by omega)
def B5s{l:List Ivl}{sn:Nat}{ls:Nat->List UInt8}(ht:∀ x∈l,x.1.length<=20/\x.2.length<=20)(hs:∀ i,i<sn->(ls i).length<=8){j:Nat}(hj:j<l.length):(atF l sn ls j).length<=20:=by
 have e:l.getD j ([],[])=l[j]:=by rw [aC,aE hj];rfl
 obtain ⟨a,b⟩:=ht _ (aJ hj)
 unfold atF
 rw [e]
 refine A7f a b ?_
 split
 ·exact hs j ‹_›
 ·decide
section
variable {h:aL} {K:VP} {A B:Option aP} {c bc:Nat} {l:List Ivl} {ts:List J8} {vars:Int}
def A50{n:Int}{b:Nat}(h1:1<=b)(h2:b<=1000)(hK:∀ k:Nat,k<b->K (I (k:Int)) h):aR prog A89 #[I n,I (b:Int)] h K:=by
 refine B6i _ _ ?_
 unfold C2m
 have h1:=Int.tmod_lt_of_pos n (show (0:Int)<(b:Int) by omega)
 have h2:=Int.lt_tmod_of_pos n (show (0:Int)<(b:Int) by omega)
 refine B3 (fun e=>by omega) (fun _=>B3 (fun c=>?_) (fun a=>?_))
 ·have:=hK (bN n b+b).toNat (by omega)
  rw [show B4 (bN n b+b)=(((bN n b+b).toNat:Nat):Int) by rw [B5]<;>omega]
  exact this
 ·have:=hK (bN n b).toNat (by omega)
  rw [show ((bN n b).toNat:Int)=bN n b by omega] at this
  exact this
def Oj(gl:Gl h)(y:SlV h B (l.flatMap G5))(hl:l.length<=10000000)(ht:∀ x∈l,x.1.length<=10000000/\x.2.length<=10000000)(hK:∀ A' c' h' (l':List Ivl),h.le h'->SlV h' A' (l'.flatMap G5)->l'.length=l.length->K (.slice A' l'.length c') h'):aR prog Ea #[.slice B l.length bc] h K:=by
 refine Tk _ _ _ ?_
 unfold Sj
 refine ⟨fun L n=>∃ (k:Nat) (A':Option aP) (c':Nat) (d:List Ivl) (g:aL),L=[.slice A' d.length c',I (k:Int)]/\k<=l.length/\d.length=k/\h.le g/\PrivF n g P9 A' c' d,fun L _=>l.length-(iAt L 1).toNat,⟨0,none,0,[],h,rfl,by omega,rfl,B0 _,PrivF.nil _ _ _⟩,?_⟩
 rintro E on G z n ⟨k,A',c',d,g,o,F,m,e,pr⟩
 obtain ⟨⟨rfl,rfl,rfl⟩,rfl⟩:=sI2 o
 refine B3 (fun w=>?_) (fun p=>?_)
 ·have c:k<l.length:=by omega
  have b:=Heap.le_trans e pr.le
  obtain ⟨a,u,c0,c1⟩:=Qm y c
  obtain ⟨r,C⟩:=ht _ (aJ c)
  refine ⟨a,u,by omega,by omega,_,_,C4 b c0,C4 b c1,?_⟩
  refine Wn (gl.mono b) (W4 (k:=10000000) r (by omega) (by omega)) (W4 (k:=10000000) C (by omega) (by omega)) (by omega) ?_
  intro j i _ _
  refine ⟨_,_,rfl,?_⟩
  refine Wd (ty:=A6h) B9a pr (y:=((j,i):Ivl)) rfl (by decide) (by omega) (by omega) ?_
  intro A2 c2 D A q s
  rw [B5 (by omega) (by omega)]
  exact ⟨⟨k+1,A2,c2,_,A,by rw [aK];rfl,by omega,by rw [aK,m];rfl,Heap.le_trans e q,s⟩,by simp only [iAt,aT,aO];omega⟩
 ·exact hK _ _ _ d (Heap.le_trans e pr.le) pr.sl (by omega)
def Zq{k:Int}{n a:Nat}{ls:Nat->List UInt8}(r:bB SSr h A n ls)(hn:n<=1000000000)(hK1:(∀ i,i<n->((ls i).length:Int)<=k)->K (.bool true) h)(hK0:¬ (∀ i,i<n->((ls i).length:Int)<=k)->K (.bool false) h):aR prog Xf #[I k,.slice A n a] h K:=by
 refine B03 _ _ _ _ ?_
 unfold B46
 refine ⟨fun L c=>∃ i:Nat,i<=n/\L=[I (i:Int)]/\c=h/\∀ j,j<i->((ls j).length:Int)<=k,fun L _=>n-(iAt L 0).toNat,⟨0,by omega,rfl,rfl,fun j o=>by omega⟩,?_⟩
 rintro z c ⟨i,u,m,rfl,d⟩
 obtain rfl:=sI1 m
 refine B3 (fun g=>?_) (fun q=>?_)
 ·have b:i<n:=by omega
  obtain ⟨x,rfl,s⟩:=r.sat b
  refine ⟨x,rfl,by omega,by omega,_,s,?_⟩
  rw [L7]
  refine B3 (fun e=>hK0 fun p=>by have:=p i b;omega) (fun e=>?_)
  rw [wiS i (by omega)]
  refine ⟨⟨i+1,by omega,rfl,rfl,fun j o=>?_⟩,by simp only [B0k];omega⟩
  by_cases l:j=i
  ·subst l;omega
  ·exact d j (by omega)
 ·have:i=n:=by omega
  subst this
  exact hK1 d
def law_values{i:Int}{S:Option aP}{sn sc:Nat}{ls:Nat->List UInt8}(gl:Gl h)(pa:PolyAt h A ts)(y0:SlV h B (l.flatMap G5))(hl0:l.length<=10000000)(ht0:∀ x∈l,x.1.length<=10000000/\x.2.length<=10000000)(px:bB SSr h S sn ls):aR prog Cv #[.agg #[I vars,.slice A ts.length c],.slice B l.length bc,.slice S sn sc,I i] h (C1i h):=by
 refine Lg _ _ _ _ _ _ _ _ _ _ _ ?_
 unfold Gk
 have aw:∀ h',h.le h'->aR prog O8 #[] h' (fun r hp=>∃ t,r= .bool t/\C1i h (.bool t) hp):=fun h' l=>A5d (gl.mono l) ⟨_,rfl,rfl,l⟩
 refine Oj gl y0 hl0 ht0 ?_
 clear y0 hl0 ht0
 intro B c0 h1 l O y _
 refine ⟨_,_,_,rfl,?_⟩
 have F:=aw h1 O
 have bx:=gl.mono O
 have Z:=pa.mono O
 refine Qj Z (fun af ar=>⟨_,rfl,By ?_⟩) (fun _=>⟨_,rfl,Dh F⟩)
 refine A7u Z (by omega) (fun i hi=>by have:=(ar i hi).2;omega) (fun _ br=>⟨_,rfl,By ?_⟩) (fun _=>⟨_,rfl,Dh F⟩)
 refine B3 (fun _=>F) (fun h6=>J9 (fun _=>F) (fun a2=>?_))
 refine A27 y rfl (by omega) (fun ht=>⟨_,rfl,By ?_⟩) (fun _=>⟨_,rfl,Dh F⟩)
 refine B3 (fun _=>F) (fun h8=>?_)
 refine Zq (px.mono A4x O) (by omega) (fun hs=>⟨_,rfl,By ?_⟩) (fun _=>⟨_,rfl,Dh F⟩)
 have bg:∀ i,i<sn->(ls i).length<=8:=fun i hi=>by have:=hs i hi;omega
 have R:∀ i,i<ts.length->(tm ts i).1.length<=8:=fun i hi=>(ar i hi).1
 have J:∀ i,i<ts.length->∀ j,j<(tm ts i).2.length->(tm ts i).2.getD j 0<=6:=fun i hi j d=>by have:=br i hi j d;omega
 refine Cb bx Z y af R J (by omega) ht (fun _=>⟨_,_,_,rfl,J9 (fun _=>F) (fun e=>absurd e (by decide))⟩) (fun _ _ e=>absurd a2 e) (fun po bo en sm h2 bk=>⟨_,_,_,rfl,J9 (fun e=>absurd rfl e) (fun _=>?_)⟩)
 have be:=Heap.le_trans O bk
 refine E7 (fun _=>aw h2 be) (fun b1=>?_)
 have b6:0<l.length:=by omega
 refine ⟨fun L hp=>∃ (k:Nat) (A':Option aP) (c':Nat) (es:List (List UInt8)) (g:aL),L=[.slice A' es.length c',I (k:Int)]/\k<=l.length/\es.length=k/\h2.le g/\PrivF hp g K5 A' c' es/\∀ j,j<k->es[j]? = some (atF l sn ls j),fun L _=>l.length-(iAt L 1).toNat,⟨0,none,0,[],h2,rfl,by omega,rfl,B0 _,PrivF.nil _ _ _,fun j d=>by omega⟩,?_⟩
 rintro oA on oc z h3 ⟨k,A',c',es,g,eL,hk,a8,lg,pr,a1⟩
 obtain ⟨⟨rfl,rfl,rfl⟩,rfl⟩:=sI2 eL
 have av:=Heap.le_trans lg pr.le
 have V:=Heap.le_trans be av
 have bj:=Heap.le_trans bk av
 have ae:=gl.mono V
 have y3:=y.mono bj
 have tx:∀ {j:Nat},j<l.length->Tx 80 (l.getD j ([],[])).1/\Tx 80 (l.getD j ([],[])).2:=fun {j} d=>by
  have e:l.getD j ([],[])=l[j]:=by rw [aC,aE d];rfl
  obtain ⟨t1,t2⟩:=ht _ (aJ d)
  rw [e]
  exact ⟨W4 (k:=20) t1 (by omega) (by omega),W4 (k:=20) t2 (by omega) (by omega)⟩
 have a3:∀ j,Tx 80 (if j<sn then ls j else [48]):=fun j=>by
  refine (W4 (k:=8) ?_ (by omega) (by omega)).mono (by omega)
  split
  ·exact bg j ‹_›
  ·decide
 refine B3 (fun b4=>?_) (fun b2=>?_)
 ·have Q:k<l.length:=by omega
  obtain ⟨a,ea,X,am⟩:=Qm y3 Q
  have e:l[k]=l.getD k ([],[]):=by rw [aC,aE Q];rfl
  rw [e] at X am
  obtain ⟨t1,t2⟩:=tx Q
  have push:∀ {h4:aL},h4=h3->wpH prog (Instr.buildSlice N6 1 #[(0,.string (bs (atF l sn ls k)))]) (fun v an=>∃ (t97A:Option aP) (t97n:Nat) (t97c:Nat),v= .slice t97A t97n t97c/\wpH prog (Builtin.append_ #[N6,N6] N6 #[.slice oA es.length oc,.slice t97A t97n t97c]) (fun v1 bi=>∃ (t98A:Option aP) (t98n:Nat) (t98c:Nat),v1= .slice t98A t98n t98c/\(∃ (k2:Nat) (A':Option aP) (c':Nat) (es:List (List UInt8)) (g:aL),[bA t98A t98n t98c,I (B4 ((k:Int)+1))]=[.slice A' es.length c',I (k2:Int)]/\k2<=l.length/\es.length=k2/\h2.le g/\PrivF bi g K5 A' c' es/\∀ j,j<k2->es[j]? = some (atF l sn ls j))/\l.length-(iAt [bA t98A t98n t98c,I (B4 ((k:Int)+1))] 1).toNat<l.length-(iAt [bA oA es.length oc,I (k:Int)] 1).toNat) an) h4:=by
   rintro _ rfl
   refine Wd (ty:=N6) Z5 pr (y:=atF l sn ls k) rfl (by decide) (by omega) (by omega) ?_
   intro A2 c2 h5 g2 l2 p2
   rw [B5 (by omega) (by omega)]
   refine ⟨⟨k+1,A2,c2,_,g2,by rw [aK];rfl,by omega,by rw [aK,a8];rfl,Heap.le_trans lg l2,p2,fun j d=>?_⟩,by simp only [iAt,aT,aO];omega⟩
   by_cases ej:j=k
   ·subst ej
    rw [bW (by omega),a8,Nat.sub_self];rfl
   ·rw [bX (by omega)]
    exact a1 j (by omega)
  refine B3 (fun bp=>?_) (fun bp=>?_)
  ·have E:k<sn:=by omega
   obtain ⟨b,eb,cb⟩:=(px.mono A4x V).sat E
   refine ⟨b,eb,by omega,by omega,_,cb,a,ea,by omega,by omega,_,_,X,am,?_⟩
   have st:=a3 k
   rw [iP E] at st
   refine Uf ae t1 t2 st (by omega) (by omega) ⟨_,rfl,?_⟩
   have ef:Wj (l.getD k ([],[])).1 (l.getD k ([],[])).2 (ls k)=atF l sn ls k:=by unfold atF;rw [iP E]
   rw [ef]
   exact push rfl
  ·have E: ¬ k<sn:=by omega
   refine ⟨a,ea,by omega,by omega,_,_,X,am,?_⟩
   have st:=a3 k
   rw [iN E] at st
   refine Uf (s:=[48]) ae t1 t2 st (by omega) (by omega) ⟨_,rfl,?_⟩
   have ef:Wj (l.getD k ([],[])).1 (l.getD k ([],[])).2 [48]=atF l sn ls k:=by unfold atF;rw [iN E]
   rw [ef]
   exact push rfl
 ·have Q:k=l.length:=by omega
  have aq: ∀ j,j<l.length->es[j]? = some (atF l sn ls j):=fun j d=>a1 j (by omega)
  have az:es.length=l.length:=by omega
  rw [az]
  have a0:bB SSr h3 oA l.length (atF l sn ls):=⟨es,pr.sl,az,fun j d=>⟨_,aq j d,rfl⟩⟩
  obtain ⟨xv,hxv⟩:∃ xv:Nat->Rat,∀ j,j<l.length->atF l sn ls j=C9 (xv j)/\(bxQ l j).1<=xv j/\xv j<=(bxQ l j).2:=
   ⟨fun j=>rv (atF l sn ls j),fun j d=>by
    obtain ⟨x,e1,e2,e3⟩:=B8q (sn:=sn) (ls:=ls) bo d
    show atF l sn ls j=C9 (rv (atF l sn ls j))/\_<=rv (atF l sn ls j)/\rv (atF l sn ls j)<=_
    rw [e1,C3];exact ⟨rfl,e2,e3⟩⟩
  have w:∀ j,j<l.length->(atF l sn ls j).length<=20:=fun j d=>B5s ht bg d
  have bb:∀ j,j<l.length->rv (atF l sn ls j)=xv j:=fun j d=>by rw [(hxv j d).1,C3]
  have a9:∀ j,j<l.length->Sz 80 (rv (atF l sn ls j)):=fun j d=>A72 (k:=20) (w j d) (by omega)
  have bv:=pa.mono V
  have bf:∀ t,t<ts.length->∀ j,j<l.length->((tm ts t).2.getD j 0).toNat<=6:=fun t G j d=>by
   have:=(sm.exps t G j d).2
   omega
  have b0:∀ t,t<ts.length->Sz 3000 (tmV (tm ts t).2 (fun i=>rv (atF l sn ls i)) (rv (tm ts t).1) l.length):=fun t G=>by
   have:=B30 (p:=80) (D:=6) (by omega) (sm.coef t G) l.length (x:=fun i=>rv (atF l sn ls i)) (es:=(tm ts t).2) (fun j d=>a9 j d) (bf t G)
   exact this.mono (by omega)
  have ez:=B3k (n:=l.length) ts.length b0
  refine A1z (m:=32) (p:=80) (D:=6) ae bv a0 (by omega) (by omega) (fun t G=>by have:=R t G;omega) (fun j d=>by have:=w j d;omega) (by omega) sm.coef a9 (by omega) (by omega) (by omega) (fun t G j d=>by have:=J t G j d;omega) (fun _ _=>ez.mono (by omega)) (fun H=>absurd ⟨po,fun j d=>⟨xv j,(hxv j d).1⟩⟩ H) (fun _ H=>absurd a2 H) (fun _ _ _ h4 al=>⟨_,_,rfl,J9 (fun e=>absurd rfl e) (fun _=>?_)⟩)
  have a7:=Heap.le_trans V al
  have ay:=gl.mono a7
  obtain ⟨ak,ag⟩:=sm.ev ts.length (aS _)
  have ba:=B3l (ts:=ts) (f:=bxQ l) (x:=fun i=>rv (atF l sn ls i)) (n:=l.length) (fun j d=>by
   show _<=rv (atF l sn ls j)/\rv (atF l sn ls j)<=_
   rw [bb j d];exact (hxv j d).2) ts.length
  refine A8o (m:=400000) ay (ak.mono (by omega)) (ag.mono (by omega)) (ez.mono (by omega)) (by omega) ba.1 ba.2 ⟨_,rfl,By ?_⟩
  refine A50 (by omega) (by omega) ?_
  intro o C
  obtain ⟨a5,bw,c5⟩:=(a0.mono A4x al).sat C
  refine ⟨_,rfl,a5,bw,by omega,by omega,_,by rw [aD];exact c5,?_⟩
  refine A28 ay (y.mono (Heap.le_trans bj al)) (by omega) ht (w o C) ?_
  obtain ⟨ex,ai,ab⟩:=hxv o C
  obtain ⟨p,q,eg,b3,eb⟩:=Up bo C
  have ao:B96 l (o:Int) (atF l sn ls o):=by
   refine ⟨by omega,by omega,?_⟩
   rw [aD]
   show (bxQ l o).1<=_/\_<=(bxQ l o).2
   rw [bb o C];exact ⟨ai,ab⟩
  intro l1 l2 e so A1 c1 A2 c2 h5 bn ah aa
  rcases so with ⟨H,_⟩|⟨_,_,H,_⟩|⟨_,_,_,rfl,rfl,rfl⟩
  ·exact absurd ⟨bo,xv o,ex⟩ H
  ·exact absurd ao H
  refine ⟨_,_,_,_,_,_,_,rfl,?_⟩
  rw [aD,ex] at ah aa
  rw [aD,ex]
  obtain ⟨ax,a6⟩:=B17 bo C ai ab
  obtain ⟨au,ap⟩:=B18 bo C ai ab
  have W:(C9 (xv o)).length<=20:=by rw [<- ex];exact w o C
  obtain ⟨tk1,tk2⟩:(l.getD o ([],[])).1.length<=20/\(l.getD o ([],[])).2.length<=20:=by
   have e:l.getD o ([],[])=l[o]:=by rw [aC,aE C];rfl
   rw [e];exact ht _ (aJ C)
  have a4:∀ x∈l.set o ((l.getD o ([],[])).1,C9 (xv o)),x.1.length<=20/\x.2.length<=20:=fun x hx=>by
   rcases aQ hx with h|rfl
   ·exact ht x h
   ·exact ⟨tk1,W⟩
  have bd:∀ x∈l.set o (C9 (xv o),(l.getD o ([],[])).2),x.1.length<=20/\x.2.length<=20:=fun x hx=>by
   rcases aQ hx with h|rfl
   ·exact ht x h
   ·exact ⟨W,tk2⟩
  obtain ⟨m1,em1⟩:∃ m1,m1=l.set o ((l.getD o ([],[])).1,C9 (xv o)):=⟨_,rfl⟩
  obtain ⟨m2,em2⟩:∃ m2,m2=l.set o (C9 (xv o),(l.getD o ([],[])).2):=⟨_,rfl⟩
  have bu:m1.length=l.length:=by rw [em1,aH]
  have bz:m2.length=l.length:=by rw [em2,aH]
  rw [<- em1] at ah ax a6 a4 ⊢
  rw [<- em2] at aa au ap bd ⊢
  have ad:=Heap.le_trans a7 bn
  refine Cb (gl.mono ad) (pa.mono ad) ah af R J (by omega) a4 (fun H=>absurd ⟨po,ax⟩ H) (fun _ _ H=>absurd (by omega) H) (fun _ _ _ bl b5 bh=>⟨_,_,_,rfl,?_⟩)
  have ac:=Heap.le_trans ad bh
  refine Cb (gl.mono ac) (pa.mono ac) (aa.mono bh) af R J (by omega) bd (fun H=>absurd ⟨po,au⟩ H) (fun _ _ H=>absurd (by omega) H) (fun _ _ _ bm h7 bq=>⟨_,_,_,rfl,?_⟩)
  have aj:=Heap.le_trans ac bq
  refine J9 (fun e=>absurd rfl e) (fun _=>J9 (fun e=>absurd rfl e) (fun _=>J9 (fun e=>absurd rfl e) (fun _=>?_)))
  have M:=bl.ev ts.length (aS _)
  have N:=bm.ev ts.length (aS _)
  rw [bu] at M ⊢
  rw [bz] at N ⊢
  have i1:=A8e (ts:=ts) (f:=bxQ m1) (f':=bxQ l) (n:=l.length) a6 ts.length
  have i2:=A8e (ts:=ts) (f:=bxQ m2) (f':=bxQ l) (n:=l.length) ap ts.length
  have e1:=A3x ts (bxQ m1) l.length ts.length
  have e2:=A3x ts (bxQ m2) l.length ts.length
  have e3:=A3x ts (bxQ l) l.length ts.length
  generalize evE ts (bxQ m1) l.length ts.length=u1 at M i1 e1 ⊢
  generalize evE ts (bxQ m2) l.length ts.length=u2 at N i2 e2 ⊢
  generalize evE ts (bxQ l) l.length ts.length=u at ak ag i1 i2 e3 ⊢
  have T:∀ {z:Rat},Sz (1+ts.length*30785) z->Tx 400000 (C9 z):=fun hz=>Tx.of (hz.mono (by omega)) (by omega)
  refine B3c (gl.mono aj) (T M.1) (T M.2) (T N.1) (T N.2) (by omega) ?_
  rw [Ws e1 e2]
  refine ⟨_,_,_,rfl,?_⟩
  have bt:mn u1.1 u2.1<=mx u1.2 u2.2:=by
   have:=B1k u1.1 u2.1
   have:=B1m u1.2 u2.2
   grind
  refine B3c (gl.mono aj) (T (M.1.mn N.1)) (T (M.2.mx N.2)) (T ak) (T ag) (by omega) ?_
  rw [Ws bt e3,B7s i1.1 i2.1,B53 i1.2 i2.2]
  refine ⟨_,_,_,rfl,E7 (fun _=>E7 (fun _=>?_) (fun e=>absurd rfl e)) (fun e=>absurd rfl e)⟩
  rw [Ny,Ny,decide_eq_true rfl,decide_eq_true rfl]
  exact Br.of (fun _=>aw h7 aj) (fun e=>by cases e)
end
end Go.Proofs.YtmbfcbbkbefgfaaGreatDoor
namespace Go.Proofs.YtmbfcbbkbefgfaaGreatDoor
set_option maxRecDepth 20000
open Go Go.RowKit
def Xq(s:ByteArray):bs s.data.toList=s:=by
 cases s;simp [bs]
def Hl:aY->List UInt8
 | .string s=>s.data.toList
 | _=>[]
def B7f{W:World}{a:aP}{n:Nat}{V0 V1:Nat->aY}(h:∀ i,i<n->(bY W).cell? (a.add (i*2))=some (.string (bs (Hl (V0 i))))/\(bY W).cell? (a.add (i*2+1))=some (.string (bs (Hl (V1 i))))):SlV (bY W) (some a) (((aI n).map fun i=>((Hl (V0 i),Hl (V1 i)):Ivl)).flatMap G5):=by
 refine .inr ⟨a,rfl,fun k v c=>?_⟩
 have d:=Ug ((aI n).map fun i=>((Hl (V0 i),Hl (V1 i)):Ivl))
 rw [List.length_map,List.length_range] at d
 have q:k<n*2:=by
  by_cases p:k<n*2
  ·exact p
  ·rw [aX (by omega)] at c;cases c
 have l:k/2<n:=by omega
 have o:k%2<2:=Nat.mod_lt k (by decide)
 have g:=Zt ((aI n).map fun i=>((Hl (V0 i),Hl (V1 i)):Ivl)) (i:=k/2) (by simpa using l) (j:=k%2) o
 rw [show k/2*2+k%2=k by omega,List.getElem_map,List.getElem_range] at g
 rw [g] at c
 obtain ⟨c0,c1⟩:=h (k/2) l
 by_cases e:k%2=0
 ·rw [e] at c
  have b:(.string (bs (Hl (V0 (k/2)))):aY)=v:=bF c
  rw [<- b,show k=k/2*2 by omega]
  rw [show k/2*2/2=k/2 by omega]
  exact c0
 ·have m:k%2=1:=by omega
  rw [m] at c
  have b:(.string (bs (Hl (V1 (k/2)))):aY)=v:=bF c
  rw [<- b]
  have:=c1
  rw [show k/2*2+1=k by omega] at this
  exact this
def A7b{H:Type}{enc:bG × aY->H}{P:Program}{W:World}{base:Nat}{sp:Nat->Bool}{held:Bool}{t e:bG}{fuel:Nat}{v:aY}{x:DataW H × List MemPlace}(ht:P.underlying t=some (.slice e))(he:P.underlying e=some (.int .i64))(hc:P.cellsOf e=1)
 (hf:DataW.trod enc P W base sp held fuel t [v]=some x):∃ (xs:List Int) (B:Option aP) (c:Nat),v= .slice B xs.length c/\SlI .i64 (bY W) B xs:=by
 rcases ChangeShapes.open_ints ht he hc hf with ⟨b,_⟩|⟨a,l,c,zs,b,_,p,_,m,_,d,_⟩
 ·simp at b
  exact ⟨[],none,0,b,SlI.nil⟩
 ·simp at b
  have j:l<=zs.length:=by rw [m];split<;>omega
  refine ⟨zs.take l,some a,c,by rw [b,List.length_take,Nat.min_eq_left j],.inr ⟨a,rfl,fun i w g=>?_⟩⟩
  rw [aV] at g
  have n:i<l:=by
   by_cases o:i<l
   ·exact o
   ·rw [aX (by rw [List.length_take];omega)] at g;cases g
  rw [List.getElem?_take,iP n,aE (by omega)] at g
  have:=d i (by omega)
  rw [aC,aE (by omega)] at this
  have k:(.int .i64 zs[i]:aY)=w:=bF g
  rw [<- k]
  exact R1 this
def open_poly{H:Type}{enc:bG × aY->H}{P:Program}{W:World}{base:Nat}{sp:Nat->Bool}{held:Bool}{r:Reach}{b0:Nat}{t e q:bG}{f0 f1 g0 g1:Field}{v:aY}{d:DataW H}{ps:List MemPlace}(ht:P.underlying t=some (.struct #[f0,f1]))(u0:P.underlying f0.type=some (.int .i64))(u1:P.underlying f1.type=some (.slice e))(ue:P.underlying e=some (.struct #[g0,g1]))(w0:P.underlying g0.type=some .string)(w1:P.underlying g1.type=some (.slice q))(wq:P.underlying q=some (.int .i64))
 (hoff:(f0.offset=0/\f1.offset=1/\g0.offset=0/\g1.offset=1)/\P.cellsOf f0.type=1/\P.cellsOf f1.type=1/\P.cellsOf t=2/\P.cellsOf e=2/\P.cellsOf g0.type=1/\P.cellsOf g1.type=1/\P.cellsOf q=1)
 (hval:Value.okWide P W r b0 t v) (hd:DataW.Trod enc P W base sp held t v d ps):∃ (vars:Int) (A:Option aP) (cap:Nat) (ts:List J8),v= .agg #[.int .i64 vars,.slice A ts.length cap]/\PolyAt (bY W) A ts:=by
 obtain ⟨⟨o0,o1,O,p1⟩,c0,c1,ct,ce,d0,R,Z⟩:=hoff
 obtain ⟨o,rfl,x⟩:=WideShapes.okWide_struct ht hval
 obtain ⟨N,S⟩:=hd
 obtain ⟨y0,y1,n,hx,hl,M,u⟩:=ChangeShapes.trod_struct2 ht S
 rw [o0,c0] at M
 rw [o1,c1] at u
 obtain ⟨L,j,_,_⟩:=DataW.trod_int u0 M
 rw [ct] at x
 obtain ⟨z0,z1,hm⟩:∃ z0 z1,o.toList=[z0,z1]:=by
  have s:o.toList.length=2:=by simpa using x
  match h:o.toList,s with
  | [p,q],_=>exact ⟨p,q,rfl⟩
 simp only [Value.cells] at j u
 rw [hm] at j u
 simp at j u
 have g:o=#[z0,z1]:=by rw [<- Array.toArray_toList (xs:=o),hm]
 rcases Deep.open_slice_pairs u1 ue ce O p1 d0 R u with ⟨w,_⟩|⟨a,l,c,m,n',V0,V1,D0,D1,P0,P1,w,_,V,_,F,_,b⟩
 ·simp at w
  exact ⟨L,none,0,[],by rw [g,j,w];rfl,fun i C=>by simp at C⟩
 ·simp at w
  have aa:l<=m:=by rw [F];split<;>omega
  obtain ⟨E,hE⟩:=Deep.choose_lt (α:=List Int × Option aP × Nat) (n:=l) (p:=fun i y=>V1 i= .slice y.2.1 y.1.length y.2.2/\SlI .i64 (bY W) y.2.1 y.1) (fun i C=>by
   obtain ⟨xs,B,X,z,Q⟩:=A7b w1 wq Z (b i (by omega)).2.2.2
   exact ⟨(xs,B,X),z,Q⟩)
  refine ⟨L,some a,c,(aI l).map fun i=>(Hl (V0 i),(E i).1),by rw [g,j,w];simp,fun i C=>?_⟩
  have k:i<l:=by simpa using C
  obtain ⟨J,z,G,_⟩:=b i (by omega)
  obtain ⟨t0,D,_,_⟩:=DataW.trod_string w0 G
  simp at D
  obtain ⟨h3,h4⟩:=hE i k
  have T:tm ((aI l).map fun i=>(Hl (V0 i),(E i).1)) i=(Hl (V0 i),(E i).1):=by
   show ((aI l).map fun i=>(Hl (V0 i),(E i).1)).getD i ([],[])=_
   rw [aC,aV,bJ k]
   rfl
  rw [T]
  rw [D] at J
  rw [h3] at z
  refine ⟨a,(E i).2.1,(E i).2.2,rfl,?_,?_,h4⟩
  ·rw [D,Ah]
   show _=some (bK (bs t0.data.toList))
   rw [Xq]
   exact R1 J
  ·rw [Ah]
   exact R1 z
end Go.Proofs.YtmbfcbbkbefgfaaGreatDoor
namespace Go.Proofs.YtmbfcbbkbefgfaaGreatDoor
set_option maxRecDepth 20000
open Go Go.RowKit
def A8t{H:Type}{d:DataW H}: ∀ {l:List (DataW H)},d∈l->Rows.uptoBulk d<=Rows.uptoBulkAll l:=by
 intro l
 induction l with
 | nil=>intro h;cases h
 | cons x l ih=>
  intro h
  rw [Rows.uptoBulkAll]
  rcases List.mem_cons.1 h with rfl|h
  ·omega
  ·have:=ih h;omega
def A8u{H:Type}{f:Nat->DataW H}(hf:∀ i,1<=Rows.uptoBulk (f i)):∀ n,n<=Rows.uptoBulkAll ((aI n).map f):=by
 have app:∀ (l:List (DataW H)) d,Rows.uptoBulkAll (l++[d])=Rows.uptoBulkAll l+Rows.uptoBulk d:=by
  intro l d
  induction l with
  | nil=>simp [Rows.uptoBulkAll]
  | cons x l ih=>rw [List.cons_append,Rows.uptoBulkAll,ih,Rows.uptoBulkAll];omega
 intro n
 induction n with
 | zero=>exact bO _
 | succ n ih=>
  rw [List.range_succ,List.map_append,List.map_cons,List.map_nil,app]
  have:=hf n
  omega
def open_ivsX{H:Type}{enc:bG × aY->H}{P:Program}{W:World}{base:Nat}{sp:Nat->Bool}{held:Bool}{t e:bG}{f0 f1:Field}{fuel:Nat}{A:Option aP}{len cap:Nat}{x:DataW H × List MemPlace}(ht:P.underlying t=some (.slice e))(he:P.underlying e=some (.struct #[f0,f1]))(u0:P.underlying f0.type=some .string)(u1:P.underlying f1.type=some .string)
 (hoff:(f0.offset=0/\f1.offset=1)/\P.cellsOf e=2/\P.cellsOf f0.type=1/\P.cellsOf f1.type=1)
 (hf:DataW.trod enc P W base sp held fuel t [.slice A len cap]=some x):∃ l:List Ivl,len=l.length/\SlV (bY W) A (l.flatMap G5)/\l.length<=Rows.uptoBulk x.1/\∀ y∈l,y.1.length<=Rows.uptoBulk x.1/\y.2.length<=Rows.uptoBulk x.1:=by
 obtain ⟨⟨O,J⟩,N,c0,c1⟩:=hoff
 rcases Deep.open_slice_pairs ht he N O J c0 c1 hf with ⟨d,_⟩|⟨a,l,c,m,n,V0,V1,D0,D1,P0,P1,d,_,Q,_,r,M,b⟩
 ·simp at d
  obtain ⟨rfl,rfl,rfl⟩:=d
  exact ⟨[],rfl,SlV.nil,bO _,fun y s=>by cases s⟩
 ·simp at d
  obtain ⟨rfl,rfl,rfl⟩:=d
  have L:len<=m:=by rw [r];split<;>omega
  have k:∀ i,1<=Rows.uptoBulk (DataW.agg [D0 i,D1 i]):=fun i=>by rw [Rows.uptoBulk];omega
  have z:=A8u k len
  have G:Rows.uptoBulkAll ((aI len).map fun i=>DataW.agg [D0 i,D1 i])<=Rows.uptoBulk x.1:=by
   rw [M]
   show _<=Rows.uptoBulk (.slice _ _)
   rw [Rows.uptoBulk]
   omega
  refine ⟨(aI len).map fun i=>(Hl (V0 i),Hl (V1 i)),by simp,B7f fun i w=>?_,?_,fun y s=>?_⟩
  ·obtain ⟨q,u,B,C⟩:=b i (by omega)
   obtain ⟨o,g,_,_⟩:=DataW.trod_string u0 B
   obtain ⟨p,j,_,_⟩:=DataW.trod_string u1 C
   simp at g j
   rw [g] at q
   rw [j] at u
   rw [g,j]
   show _=some (bK (bs o.data.toList))/\_=some (bK (bs p.data.toList))
   rw [Xq,Xq]
   exact ⟨R1 q,R1 u⟩
  ·rw [List.length_map,List.length_range];exact Nat.le_trans z G
  ·obtain ⟨i,w,rfl⟩:=List.mem_map.1 s
   have F:i<len:=by simpa using w
   obtain ⟨q,u,B,C⟩:=b i (by omega)
   obtain ⟨o,g,E,_⟩:=DataW.trod_string u0 B
   obtain ⟨p,j,D,_⟩:=DataW.trod_string u1 C
   simp at g j E D
   have T:Rows.uptoBulk (DataW.agg [D0 i,D1 i])<=Rows.uptoBulkAll ((aI len).map fun i=>DataW.agg [D0 i,D1 i]):=A8t (List.mem_map.2 ⟨i,w,rfl⟩)
   have S:Rows.uptoBulk (DataW.agg [D0 i,D1 i])=Rows.uptoBulk (D0 i)+(Rows.uptoBulk (D1 i)+0)+1:=by rw [Rows.uptoBulk,Rows.uptoBulkAll,Rows.uptoBulkAll,Rows.uptoBulkAll]
   rw [g,j]
   show o.data.toList.length<=_/\p.data.toList.length<=_
   have V:Rows.uptoBulk (D0 i)=o.data.toList.length+1:=by rw [E.1,Rows.uptoBulk]
   have R:Rows.uptoBulk (D1 i)=p.data.toList.length+1:=by rw [D.1,Rows.uptoBulk]
   omega
def open_strX{H:Type}{enc:bG × aY->H}{P:Program}{W:World}{base:Nat}{sp:Nat->Bool}{held:Bool}{t e:bG}{fuel:Nat}{A:Option aP}{len cap:Nat}{x:DataW H × List MemPlace}(ht:P.underlying t=some (.slice e))(he:P.underlying e=some .string)(hc:P.cellsOf e=1)
 (hf:DataW.trod enc P W base sp held fuel t [.slice A len cap]=some x):∃ ls:Nat->List UInt8,bB SSr (bY W) A len ls:=by
 rcases Deep.open_strs ht he hc hf with ⟨b,_⟩|⟨a,l,c,m,Sx,b,_,p,q,k,_,d⟩
 ·simp at b
  obtain ⟨rfl,rfl,rfl⟩:=b
  exact ⟨fun _=>[],RowV.nil⟩
 ·simp at b
  obtain ⟨rfl,rfl,rfl⟩:=b
  have o:len<=m:=by rw [k];split<;>omega
  refine ⟨fun i=>(Sx i).data.toList,(aI len).map fun i=>(Sx i).data.toList,?_,by simp,fun i j=>⟨_,by rw [aV,bJ j];rfl,rfl⟩⟩
  have n:((aI len).map fun i=>(Sx i).data.toList).flatMap Go.Proofs.YtmbfcbbkbefgfaaGreatDoor.enc=((aI len).map fun i=>(Sx i).data.toList).map fun l=>bK (bs l):=by
   generalize ((aI len).map fun i=>(Sx i).data.toList)=ys
   induction ys with
   | nil=>rfl
   | cons y l ih=>rw [List.flatMap_cons,ih];rfl
  show SlV (bY W) (some a) (((aI len).map fun i=>(Sx i).data.toList).flatMap Go.Proofs.YtmbfcbbkbefgfaaGreatDoor.enc)
  rw [n]
  refine .inr ⟨a,rfl,fun i v g=>?_⟩
  rw [aV,aV] at g
  by_cases j:i<len
  ·rw [bJ j] at g
   simp only [Option.map_some,Option.some.injEq,Xq] at g
   rw [<- g]
   exact R1 (d i (by omega)).1
  ·rw [aX (by simpa using j)] at g;cases g
