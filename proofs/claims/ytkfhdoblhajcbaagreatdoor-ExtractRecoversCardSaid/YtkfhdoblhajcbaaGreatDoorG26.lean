/- A part. -/
import Derived.Test.YtkfhdoblhajcbaaGreatDoorG25
open Go.Proofs.Tryz
set_option linter.all false
open _root_.Go.Addr renaming add->aG
open Classical renaming byContradiction->aR
open _root_.Go.Instr renaming buildSlice->bH
open Int renaming toNat_natCast->aF,toNat_add->aM,tmod_eq_emod_of_nonneg->bU
open List renaming replicate->aN,getElem?_cons_zero->bC,getElem?_cons_succ->bD,length_replicate->bJ,all_eq_true->bL,range->bO
open List.cons renaming injEq->aD
open Nat renaming le_refl->aC,mul_le_mul_right->aE,mul_le_mul_left->aK,mul_le_mul->aQ,pow_le_pow_right->aU,le_trans->aY,zero_mul->bY
open Rat renaming mul_one->aT,zero_mul->aW,mul_zero->aX,one_mul->aZ,divInt_eq_div->bG,pow_zero->bI,divInt->bN,mul_assoc->bW,pow_succ->bX
open _root_.Go.Value renaming cells->bM
open _root_.Go.Value.bool renaming injEq->aV
open _root_.Go.Value.int renaming injEq->aI
open _root_.Go.Value.slice renaming injEq->aH
open _root_.Go renaming Addr->aO,Value->aS,TypeId->bF,Program->bV
open _root_.Go.Proofs.YtkfhdoblhajcbaaGreatDoor renaming Heap->aJ,RowV->aL,FCall->aP,Lst2->bK
namespace Go.Proofs.YtkfhdoblhajcbaaGreatDoor
set_option maxRecDepth 20000
open Go
def Pres(h h':aJ):Prop:=∀ a v,v ≠ .slice none 0 0->v≠I 0->h.cell? a=some v->h'.cell? a=some v
def Pres.put{h:aJ}{b:Nat}{u x:aS}{e e':bF}(hb:h b=some (.cells #[u] e))(hu:u= .slice none 0 0\/u=I 0):Pres h (h.put b (.cells #[x] e')):=fun a v f g c=>by
 unfold Heap.cell? at c ⊢
 by_cases d:a.block=b
 ·grind
 ·rw [B7 _ _ d];exact c
def RowV.presS{h h':aJ}{A:Option aO}{n:Nat}{f:Nat->List UInt8}(p:Pres h h')(x:aL SSr h A n f):aL SSr h' A n f:=by
 obtain ⟨d,s,g,r⟩:=x
 refine ⟨d,St s fun a v c e=>?_,g,r⟩
 obtain ⟨w,_,b⟩:=List.mem_flatMap.1 c
 obtain rfl:v= .string (bs w):=List.mem_singleton.1 b
 exact p _ _ (by simp) (by simp) e
def RowV.presM{h h':aJ}{A:Option aO}{n r:Nat}{f:Nat->Nat->Rat}(p:Pres h h')(hr:1<=r)(x:aL (MVr r) h A n f):aL (MVr r) h' A n f:=by
 obtain ⟨y,s,z,q⟩:=x
 refine ⟨y,St s fun a v u e=>?_,z,fun i t=>?_⟩
 ·obtain ⟨w,g,d⟩:=List.mem_flatMap.1 u
  obtain ⟨i,t,C⟩:=List.mem_iff_getElem.1 g
  obtain ⟨b,E,m,k,l,j⟩:=q i o
  obtain rfl:b=w:=gz0
  obtain ⟨B,D,_⟩:=j.sat (i:=0) o
  have d:v∈([I b.r,I b.c,.slice b.A b.n b.cap]:List aS):=d
  simp only [List.mem_cons,List.not_mem_nil,or_false] at d
  rcases d with rfl|rfl|rfl
  ·exact p _ _ (by simp) gz0 e
  ·exact p _ _ (by simp) gz0 e
  ·exact p _ _ gz0 (by simp) e
 ·obtain ⟨w,e,m,k,l,j⟩:=q i t
  exact ⟨w,e,m,k,l,j.presS p⟩
def C0c{h:aJ}{b b1 b2 b3:Nat}{o o1 o2 o3:Obj}(hb:h b=none)(hb1:(h.put b o) b1=none)(hb2:((h.put b o).put b1 o1) b2=none)(hb3:(((h.put b o).put b1 o1).put b2 o2) b3=none):
 ∃ H:aJ,(((h.put b o).put b1 o1).put b2 o2).put b3 o3=H/\h.le H/\H b=some o/\H b1=some o1/\H b2=some o2/\H b3=some o3/\b1≠b2/\b1≠b3/\b2≠b3/\h b1=none/\h b2=none/\h b3=none:=by
 have e:b1≠b:=fun q=>by rw [q,C2] at hb1;cases hb1
 have f:b2≠b1:=fun q=>by rw [q,C2] at hb2;cases hb2
 have d:b2≠b:=fun q=>by rw [q,B7 _ _ (Ne.symm e),C2] at hb2;cases hb2
 have g:b3≠b2:=fun q=>by rw [q,C2] at hb3;cases hb3
 have c:b3≠b1:=fun q=>by rw [q,B7 _ _ (Ne.symm f),C2] at hb3;cases hb3
 have a:b3≠b:=fun q=>by rw [q,B7 _ _ (Ne.symm d),B7 _ _ (Ne.symm e),C2] at hb3;cases hb3
 refine ⟨_,rfl,B0 (Heap.le_put _ hb) (B0 (Heap.le_put _ hb1) (B0 (Heap.le_put _ hb2) (Heap.le_put _ hb3))),?_,?_,?_,C2 _ _ _,Ne.symm f,Ne.symm c,Ne.symm g,?_,?_,?_⟩
 ·rw [B7 _ _ (Ne.symm a),B7 _ _ (Ne.symm d),B7 _ _ (Ne.symm e),C2]
 ·rw [B7 _ _ (Ne.symm c),B7 _ _ (Ne.symm f),C2]
 ·rw [B7 _ _ (Ne.symm g),C2]
 ·rwa [B7 _ _ e] at hb1
 ·rwa [B7 _ _ f,B7 _ _ d] at hb2
 ·rwa [B7 _ _ g,B7 _ _ c,B7 _ _ a] at hb3
def Da{h:aJ}{b i:Nat}{cs:Array aS}{e:bF}{v:aS}(hb:h b=some (.cells cs e))(hv:cs[i]? = some v):h.cell? (aG ⟨b,0,none⟩ i)=some v:=by
 rw [D6];unfold Heap.cell?;grind
def A2k{h g:aJ}{b:Nat}{o:Obj}(l:h.le g)(hb:h b=none):h.le (g.put b o):=fun k u e=>by
 rw [B7 _ _ (fun q=>gz0)];exact l _ _ e
section
variable {h:aJ} {K:VP} {A BA IA:Option aO} {c bc ic m mq v d D N:Nat} {V:Nat->Rat}
def Nx(gl:Gl h)(q:Quo h A BA IA v D m d V)(hN:N<=999)(kb:∀ k,k<=N->KB V (frm k) v d mq)(hq1:1<=mq)(hq:mq<=1000000)(sb:SB (rkM V v d) mq)
 (hno:∀ k,k<N->Hq (fmM V (frm k) v d) (rkM V v d)≠rkM V v d) (hyes:Hq (fmM V (frm N) v d) (rkM V v d)=rkM V v d)
 (hK:∀ FA fc KA kc h',h.le h'->aL SSr h' FA v (fun i=>E7 (frm N i))->aL (MVr (rkM V v d)) h' KA (rkM V v d+1) (kpw (fmM V (frm N) v d) (rkM V v d))->K (.tuple #[.slice FA v fc,.agg #[.slice KA (rkM V v d+1) kc],I 0]) h'):
 aP prog 61 #[B5v A BA IA c bc ic v D (rkM V v d)] h K:=by
 have v1:=q.fn.v1;have v2:=q.fn.v2;have p:=q.r1;have r6:=q.r6
 refine (fnk func61 (rs:=[(3,[.slice none 0 0]),(1000003,[])]) (own:=[6]) (wr:=[1000000000])) ?_
 refine Ob fun b hb=>⟨_,rfl,?_⟩
 refine Gs (z:=.slice none 0 0) (size:=1) (bytes:=24) (by kernel_rfl) fun j aa=>⟨_,rfl,?_⟩
 refine Gs (z:=.agg #[.slice none 0 0]) (size:=1) (bytes:=24) (by kernel_rfl) fun t T=>⟨_,rfl,?_⟩
 refine Gs (z:=I 0) (size:=1) (bytes:=8) (by kernel_rfl) fun r ac=>⟨_,rfl,?_⟩
 obtain ⟨H,eH,F,f0,f1,f2,f3,y,B,w,x1,x2,x3⟩:=C0c hb aa T ac
 rw [eH]
 refine ⟨(v:Int),by exact Da f0 rfl,?_⟩
 refine (fnk func108) ?_
 refine Ob fun S X=>⟨_,rfl,_,rfl,?_⟩
 have O:=Heap.le_put (h:=H) (.cells (bM (I (v:Int))) 3) X
 have e4:(H.put S (.cells (bM (I (v:Int))) 3)).cell? ⟨S,0,none⟩=some (I (v:Int)):=by rw [D4];rfl
 generalize H.put S (.cells (bM (I (v:Int))) 3)=H4 at O e4 ⊢
 have R:=B0 F O
 refine A22 (g0:=H4) (N:=N) (gl.mono R) e4 v1 o hN (fun k hx=>H4.le hx) (fun g=>∃ FA fc KA kc,g.cell? ⟨j,0,none⟩=some (.slice FA v fc)/\g.cell? (aG ⟨t,0,none⟩ 0)=some (.slice KA (rkM V v d+1) kc)/\g.cell? ⟨r,0,none⟩=some (I 0)/\h.le g/\aL SSr g FA v (fun i=>E7 (frm N i))/\aL (MVr (rkM V v d)) g KA (rkM V v d+1) (kpw (fmM V (frm N) v d) (rkM V v d))) (B6 _) (fun _ _ l=>l) ?_ ?_
 ·intro k h1 h2 FA fc hk W L row
  have lh:=B0 W L
  have f:=B0 O lh
  have g0:=f _ _ f0
  refine ⟨_,_,_,rfl,_,_,_,_,_,_,_,_,_,_,_,_,_,Da g0 rfl,Da g0 rfl,Da g0 rfl,Da g0 rfl,Da g0 rfl,Da g0 rfl,Da g0 rfl,?_⟩
  have q2:=q.mono (B0 F f)
  have C:=gl.mono (B0 F f)
  refine Ww (mf:=100) C q2 row (fun i hi=>(Yn o i).mono o) o (kb k hk) hq1 hq fun KA kc h3 l3 r3=>⟨_,_,_,_,rfl,E6 (fun e=>absurd rfl e) (fun _=>?_)⟩
  have g3:=l3 _ _ g0
  refine ⟨_,_,_,Da g3 rfl,?_⟩
  refine Z1 r3 o o o o fun A4 c4 E l5 r4=>⟨_,_,_,_,_,rfl,?_⟩
  have a:=B0 l3 l5
  refine Rv (C.mono a) (A4g p r6 p o (kb k hk).pw r4) sb hq ⟨_,_,rfl,E6 (fun e=>absurd rfl e) (fun _=>?_)⟩
  have g4:=a _ _ g0
  refine ⟨_,_,_,Da g4 rfl,?_⟩
  refine D8 (fun e=>?_) (fun e=>?_)
  ·obtain rfl:k=N:=by
    grind
   have k1:=a _ _ (f _ _ f1)
   have k2:=a _ _ (f _ _ f2)
   have k3:=a _ _ (f _ _ f3)
   have M:=B0 (B0 F f) a
   have s:=row.mono E8 a
   have G:=r3.mono (Rf _) l5
   rw [<- Fa k1]
   refine Z5 (by kernel_rfl) (by kernel_rfl) rfl rfl dc ?_
   obtain ⟨H5,e5,P5,c5,k25,k35,l5'⟩:∃ H5,E.put j (.cells ((bM (.slice none 0 0)).setIfInBounds 0 (.slice FA v fc)) _)=H5/\Pres E H5/\H5 j=some (.cells #[.slice FA v fc] _)/\H5 t=E t/\H5 r=E r/\h.le H5:=
    ⟨_,rfl,Pres.put k1 (.inl rfl),C2 _ _ _,B7 _ _ (Ne.symm y),B7 _ _ (Ne.symm B),A2k M x1⟩
   rw [e5]
   rw [k2] at k25
   rw [k3] at k35
   rw [<- Fa k25]
   refine Tr (off:=0) (n:=1) (arr:=[.slice none 0 0]) (vs:=[.slice KA (rkM V v d+1) kc]) ⟨by kernel_rfl,by kernel_rfl⟩ rfl rfl (fun u hu=>by rw [List.mem_singleton.1 hu];rfl) dc ?_
   obtain ⟨H6,e6,P6,c6,k16,k36,l6'⟩:∃ H6,H5.put t (.cells (H8 [.slice none 0 0] 0 [.slice KA (rkM V v d+1) kc]).toArray _)=H6/\Pres H5 H6/\H6 t=some (.cells #[.slice KA (rkM V v d+1) kc] _)/\H6 j=H5 j/\H6 r=H5 r/\h.le H6:=
    ⟨_,rfl,Pres.put k25 (.inl rfl),C2 _ _ _,B7 _ _ y,B7 _ _ (Ne.symm w),A2k l5' x2⟩
   rw [e6]
   rw [k35] at k36
   rw [c5] at k16
   rw [<- Fa k36]
   refine Z5 (by kernel_rfl) (by kernel_rfl) rfl rfl dc ?_
   refine ⟨FA,fc,KA,kc,?_,?_,?_,A2k l6' x3,((s.presS P5).presS P6).presS (Pres.put k36 (.inr rfl)),((G.presM P5 p).presM P6 p).presM (Pres.put k36 (.inr rfl)) p⟩
   ·unfold Heap.cell?
    rw [B7 _ _ B,k16];rfl
   ·rw [D6];unfold Heap.cell?
    rw [B7 _ _ w,c6];rfl
   ·unfold Heap.cell?
    rw [C2];rfl
  ·have Q:k<N:=by
    grind
   exact ⟨Q,B0 lh a⟩
 grind
end
def trN(f:Nat->Rat):Nat->Nat
 | 0=>0
 | n+1=>if f n=0 then trN f n else n+1
def A6p(f:Nat->Rat):∀ n,trN f n<=n:=by
 intro n
 induction n with
 | zero=>exact aC _
 | succ n ih=>unfold trN;grind
def uni(j:Nat):Nat->Rat:=fun i=>if i=j then 1 else 0
section
variable {h:aJ} {K:VP} {A BA IA KA:Option aO} {c bc ic kc m mq n v d D:Nat} {V f:Nat->Rat}
def A0a{j:Nat}(gl:Gl h)(q:Quo h A BA IA v D m d V)(hj:j<v)(kb:∀ i k,i<rkM V v d->k<rkM V v d->Sz mq (ivM V v d i k)/\Sz mq (A4q V (uni j) v d i k))(hq1:1<=mq)(hq:mq<=1000000)
 (hK:∀ A' c' h',h.le h'->aL SSr h' A' (rkM V v d*rkM V v d) (O7 (fmM V (uni j) v d) (rkM V v d))->K (.tuple #[Hy (rkM V v d) (rkM V v d) A' (rkM V v d*rkM V v d) c',I 0]) h'):
 aP prog 72 #[B5v A BA IA c bc ic v D (rkM V v d),I (j:Int)] h K:=by
 have n:=q.fn.v1;have s:=q.fn.v2
 refine (fnk func72 (own:=[2,4])) ?_
 refine Q1 H1 rfl fun b0 e=>⟨_,_,_,rfl,?_⟩
 refine Yv e n o fun b r u own=>⟨_,_,_,rfl,_,rfl,o,o,?_⟩
 refine own.set E8 J6 (k:=j) hj (y:=E7 1) (by rw [t1];rfl) (z:=E7 1) rfl fun l a=>?_
 have f:=a.le
 have row:aL SSr l (some ⟨b,0,none⟩) v (fun i=>E7 (uni j i)):=(a.vis E8).congr fun i _=>by
  show (if i=j then E7 1 else E7 0)=E7 (if i=j then 1 else 0)
  grind
 refine Dq (mf:=100) (gl.mono f) (q.mono f) row (fun i _=>?_) o kb hq1 hq fun A1 c1 t p g=>⟨_,_,_,_,_,_,rfl,hK _ _ _ (B0 f p) g⟩
 unfold uni
 split
 ·exact ⟨ZB.one o,ZB.one o⟩
 ·exact Sz.zero o
def Qf(gl:Gl h)(x:aL SSr h A n (fun i=>E7 (f i)))(hn:n<=65)(hs:∀ i,i<n->Sz m (f i))(hm:m<=40000000)
 (hK:∀ A' c' h',h.le h'->aL SSr h' A' (trN f n) (fun i=>E7 (f i))->K (.tuple #[.slice A' (trN f n) c',I 0]) h'):aP prog 113 #[.slice A n c] h K:=by
 refine (fnk func113) ?_
 refine Cb gl x o (fun i E=>(Tx.of (hs i E) hm).len) (fun _ b j own=>⟨_,_,_,_,rfl,Br.nt ?_⟩) (fun no=>absurd (fun i _=>⟨_,rfl⟩) no)
 have F:=own.le
 have H:aL RQr j (some ⟨b,0,none⟩) n f:=(own.vis G1).congr fun i _=>F9 _
 refine (fnk func158 [(1,[0],[],[.slice none 0 0])]) ?_
 have s:∀ {k d:Nat} {VA:Option aO} {K':VP},k<=n->aL RQr j VA k f->(∀ q g,j.le g->aL SSr g (some ⟨q,0,none⟩) k (fun i=>E7 (f i))->K' (.slice (some ⟨q,0,none⟩) k k) g)->aP prog 155 #[.slice VA k d] j K':=fun {k d VA K'} C r kk=>
  U2 (gl.mono F) r o (fun i E=>hs i o) hm fun q g D=>kk q g D.le (D.vis E8)
 refine ⟨fun L z=>∃ (k:Nat) (VA:Option aO) (d:Nat),k<=n/\k<=d/\L=[.slice VA k d]/\z=j/\aL RQr j VA k f/\trN f k=trN f n,fun L _=>match L with|[.slice _ k _]=>k|_=>0,⟨n,_,_,aC _,aC _,rfl,rfl,H,rfl⟩,?_⟩
 rintro VA k d z ⟨W,VA0,M,C,t,S,rfl,r,R⟩
 obtain ⟨rfl,rfl,rfl⟩:=S
 have done:trN f k=k->aP prog 155 #[.slice VA k d] z (fun N u=>∃ (t23A:Option aO) (t23n:Nat) (t23c:Nat),N= .slice t23A t23n t23c/\aP prog 209 #[.slice t23A t23n t23c] u (fun B p=>∃ (t25:Bool),B= .bool t25/\Br (!t25) (∃ (a:Option aO) (b c:Nat) (e:Int),Value.tuple #[.slice none 0 0,I (2:Int)]= .tuple #[.slice a b c,I e]/\K (.tuple #[.slice a b c,I e]) p) (∃ (a:Option aO) (b c:Nat) (e:Int),Value.tuple #[.slice t23A t23n t23c,I (0:Int)]= .tuple #[.slice a b c,I e]/\K (.tuple #[.slice a b c,I e]) p))):=fun e=>
  s C r fun q g V B=>⟨_,_,_,rfl,by refine (fnk func209) ?_;exact ⟨_,rfl,Br.not (C0 (fun _=>⟨_,_,_,_,rfl,by
   have Q:trN f n=k:=o
   rw [Q] at hK
   exact hK _ _ _ (B0 F V) B⟩) (fun no=>o))⟩⟩
 refine C0 (fun O=>?_) (fun G=>?_)
 ·obtain ⟨k,rfl⟩:∃ k',k=k'+1:=⟨k-1,o⟩
  rw [show C3 (((k+1:Nat):Int)-1)=(k:Int) by rw [B9]<;>omega,aF]
  obtain ⟨a,w,e,T,c0,c1,c2,c3⟩:=r.qat (show k<k+1 from o)
  refine ⟨a,e,o,o,_,_,_,_,_,_,_,_,c0,c1,c2,c3,?_⟩
  refine Bz T ⟨_,rfl,C0 (fun y=>?_) (fun y=>?_)⟩
  ·refine ⟨⟨o,o⟩,⟨k,_,_,o,o,rfl,rfl,?_,?_⟩,?_⟩
   ·have:=(r.cut (c:=d) (l:=0) (k:=k) o t)
    exact this.congr fun i _=>by rw [Nat.zero_add]
   ·rw [<- R,trN,iP y]
   grind
  ·exact done (by rw [trN,iN y])
 ·obtain rfl:k=0:=o
  exact done rfl
def A0l(V:Nat->Rat)(v d:Nat)(M:Nat->Nat->Rat)(j:Nat):Nat->Rat:=Pc (fl (Ls (kpw M (rkM V v d))) (rkM V v d)) (fun i=>fmM V (uni j) v d i 0) (rkM V v d) (rkM V v d)
def Ny{j:Nat}{M:Nat->Nat->Rat}(gl:Gl h)(q:Quo h A BA IA v D m d V)(hj:j<v)(kb:∀ i k,i<rkM V v d->k<rkM V v d->Sz mq (ivM V v d i k)/\Sz mq (A4q V (uni j) v d i k))(hq1:1<=mq)(hq:mq<=1000000)
 (x:aL (MVr (rkM V v d)) h KA (rkM V v d+1) (kpw M (rkM V v d))) (hs:∀ k,k<=rkM V v d->∀ i,i<rkM V v d->Sz mq (kpw M (rkM V v d) k i)) (sf:∀ i,i<rkM V v d->Sz mq (fmM V (uni j) v d i 0)) (sb:SB (rkM V v d) mq)
 (ok:Bv (fl (Ls (kpw M (rkM V v d))) (rkM V v d)) (fun i=>fmM V (uni j) v d i 0) (rkM V v d) (rkM V v d)) (hx:∀ i,i<rkM V v d->Sz 10000000 (A0l V v d M j i))
 (hK:∀ A' c' h',h.le h'->aL SSr h' A' (trN (A0l V v d M j) (rkM V v d)) (fun i=>E7 (A0l V v d M j i))->K (.tuple #[.slice A' (trN (A0l V v d M j) (rkM V v d)) c',I 0]) h'):
 aP prog 63 #[B5v A BA IA c bc ic v D (rkM V v d),.agg #[.slice KA (rkM V v d+1) kc],I (j:Int)] h K:=by
 have s:=q.r1;have r6:=q.r6
 have T:rkM V v d*rkM V v d<=6*6:=aQ r6 r6
 refine (fnk func63 [(6,[28],[],[I 0])] (own:=[3,4,8])) ?_
 refine A0a gl q hj kb hq1 hq fun A1 c1 O X p=>⟨_,_,_,_,_,_,rfl,E6 (fun e=>absurd rfl e) (fun _=>?_)⟩
 refine J2 H1 (zx:=([]:List UInt8)) rfl o o o o fun b H=>⟨_,_,_,rfl,?_⟩
 refine ⟨fun L B=>∃ k:Nat,k<=rkM V v d/\L=[I k]/\OwnK SSr O B b (rkM V v d) k (fun i=>E7 (fmM V (uni j) v d i 0)),fun L _=>rkM V v d-(iAt L 0).toNat,⟨0,o,rfl,OwnK.zero H⟩,?_⟩
 rintro z B ⟨k,hk,eL,w⟩
 obtain rfl:z=(k:Int):=gz0
 refine C0 (fun F=>?_) (fun C=>?_)
 ·have f:k<rkM V v d:=o
  have r:=Q4 f (show 0<rkM V v d from o)
  obtain ⟨a,e,c0⟩:=(p.mono E8 w.le).sat r
  have Q:C3 ((k:Int)*(rkM V v d:Int))=((k*rkM V v d+0:Nat):Int):=by
   exact K3 (n:=k*rkM V v d) o
  have E:O7 (fmM V (uni j) v d) (rkM V v d) (k*rkM V v d+0)=E7 (fmM V (uni j) v d k 0):=by
   obtain ⟨a1,a2⟩:=dm1 (i:=k) (show 0<rkM V v d from o)
   unfold O7;grind
  rw [Q]
  refine ⟨a,e,o,o,_,by exact c0,_,rfl,o,o,?_⟩
  refine w.fill E8 J6 (y:=E7 (fmM V (uni j) v d k 0)) f (by rw [E];rfl) rfl fun W G=>?_
  rw [wiS k o]
  exact ⟨⟨k+1,o,rfl,G⟩,by simp only [Y2];omega⟩
 ·obtain rfl:k=rkM V v d:=o
  have t:=B0 X w.le
  refine Z1 (x.mono (Rf _) t) o o o o fun A3 c3 W u R=>⟨_,_,_,_,_,rfl,?_⟩
  have g:=B0 t u
  refine Gg (gl.mono g) (A4g s r6 s o hs R) ((w.own.vis E8).mono E8 u) sf ok hq1 ⟨(sb _ (aC _)).1,(sb _ (aC _)).1,(sb _ (aC _)).2,(sb _ (aC _)).2⟩ fun A5 c5 B5 n5 d5 h5 N S=>⟨_,_,_,_,_,_,_,rfl,E6 (fun e=>absurd rfl e) (fun _=>?_)⟩
  have l:=B0 g N
  exact Qf (m:=10000000) (gl.mono l) S o hx o fun A6 c6 h6 l6 r6=>⟨_,_,_,_,rfl,hK _ _ _ (B0 l l6) r6⟩
end
def psT(P:Nat->Rat)(deg:Nat)(S:Nat->Rat)(k:Nat):Nat->Rat
 | 0=>0
 | i+1=>psT P deg S k i-P (deg-(i+1))*(if i+1=k then (k:Rat) else S (k-(i+1)))
def psF(P:Nat->Rat)(deg:Nat):Nat->Nat->Rat
 | 0=>fun _=>(deg:Rat)
 | k+1=>fun j=>if j<=k then psF P deg k j else psT P deg (psF P deg k) (k+1) (min (k+1) deg)
def ps(P:Nat->Rat)(deg k:Nat):Rat:=psF P deg k k
def B7w(P:Nat->Rat)(deg:Nat):∀ k j,j<=k->psF P deg k j=ps P deg j:=by
 intro k
 induction k with
 | zero=>intro j a;obtain rfl:j=0:=o
         rfl
 | succ k ih=>
  intro j a
  by_cases h:j<=k
  ·unfold psF;rw [iP h];exact ih j h
  ·obtain rfl:j=k+1:=o
   rfl
def A7o{P:Nat->Rat}{deg k:Nat}{S S':Nat->Rat}(h:∀ j,j<k->S j=S' j):∀ i,i<=k->psT P deg S k i=psT P deg S' k i:=by
 intro i
 induction i with
 | zero=>intro _;rfl
 | succ i ih=>
  intro a
  unfold psT
  rw [ih o]
  by_cases e:i+1=k
  ·rw [iP e,iP e]
  ·rw [iN e,iN e,h _ o]
def Iw(P:Nat->Rat)(deg k:Nat):ps P deg (k+1)=psT P deg (ps P deg) (k+1) (min (k+1) deg):=by
 show (if k+1<=k then _ else _)=_
 rw [iN o]
 exact A7o (fun j a=>B7w P deg k j o) _ (Nat.min_le_left _ _)
section
variable {h:aJ} {K:VP} {A PA:Option aO} {c pc m n deg:Nat} {P:Nat->Rat}
def Jw{z:Int}(gl:Gl h)(h1: -9223372036854775808<=z)(h2:z<9223372036854775808)(hK:K (.string (bs (E7 (z:Rat)))) h):aP prog 163 #[I z] h K:=by
 refine (fnk func163) ?_
 refine Cv gl.p10 h1 h2 ⟨_,rfl,?_⟩
 rw [Vi (by simp)] at hK
 simpa using hK
def Pf(gl:Gl h)(x:aL SSr h PA (deg+1) (fun i=>E7 (P i)))(hd1:1<=deg)(hd:deg<=64)(hn1:1<=n)(hn:n<=1000)(sP:∀ i,i<=deg->Sz m (P i))(sS:∀ k,k<n->Sz m (ps P deg k))(sT:∀ k i,k<n->i<=k->i<=deg->Sz m (psT P deg (ps P deg) k i))(hm1:10<=m)(hm:m<=5000000)
 (hK:∀ A' c' h',h.le h'->n<=c'->aL SSr h' A' n (fun k=>E7 (ps P deg k))->K (.slice A' n c') h'):aP prog 115 #[.slice PA (deg+1) pc,I (n:Int)] h K:=by
 refine (fnk func115 [(4,[6,7],[],[.slice none 0 0,I 0]),(8,[8,9],[],[.string ⟨#[]⟩,I 0])]) ?_
 rw [show C3 (((deg+1:Nat):Int)-1)=(deg:Int) by rw [B9]<;>omega]
 refine Jw gl o o ⟨_,rfl,?_⟩
 refine Xo (R:=SSr) (f:=fun k=>E7 (ps P deg k)) H1 (y:=E7 (deg:Rat)) (by rfl) dc rfl fun b V l1 L=>⟨_,_,_,rfl,?_⟩
 refine ⟨fun L r=>∃ (k:Nat) (A':Option aO) (c':Nat),1<=k/\k<=n/\L=[.slice A' k c',I (k:Int)]/\Lst SSr 9 h r A' c' k (fun k=>E7 (ps P deg k)),fun L _=>n-(iAt L 1).toNat,⟨1,_,_,aC _,hn1,rfl,L⟩,?_⟩
 rintro W k sc z r ⟨T,A',c',G,S,l,L⟩
 obtain ⟨⟨rfl,rfl,rfl⟩,rfl⟩:=sI2 l
 refine C0 (fun F=>?_) (fun E=>?_)
 ·have p:k<n:=o
  have c:=gl.mono L.le
  have g:(if (deg:Int)<(k:Int) then (deg:Int) else (k:Int))=((min k deg:Nat):Int):=by split<;>omega
  rw [g]
  obtain ⟨k,rfl⟩:∃ k',k=k'+1:=⟨k-1,o⟩
  have row:=L.row E8
  refine ⟨fun L B=>∃ i:Nat,i<=min (k+1) deg/\L=[.string (bs (E7 (psT P deg (ps P deg) (k+1) i))),I ((i+1:Nat):Int)]/\B=r,fun L _=>min (k+1) deg+1-(iAt L 1).toNat,⟨0,o,by rw [t0];rfl,rfl⟩,?_⟩
  rintro O z B ⟨i,hi,l,rfl⟩
  simp only [aD,aI,Value.string.injEq,true_and,and_true] at l
  obtain ⟨rfl,rfl⟩:=l
  refine C0 (fun C=>?_) (fun u=>?_)
  ·have H:i<min (k+1) deg:=o
   have M:i<=k:=o
   have Q:i+1<=deg:=o
   rw [show C3 (((k+1:Nat):Int)-((i+1:Nat):Int))=((k-i:Nat):Int) by rw [B9]<;>omega,show C3 ((deg:Int)-((i+1:Nat):Int))=((deg-(i+1):Nat):Int) by rw [B9]<;>omega,show C3 (((i+1:Nat):Int)+1)=((i+1+1:Nat):Int) by rw [B9]<;>omega]
   obtain ⟨a,e,c0⟩:=row.sat (show k-i<k+1 from o)
   obtain ⟨D,w,c2⟩:=(x.mono E8 L.le).sat (show deg-(i+1)<deg+1 from o)
   refine ⟨a,e,o,o,_,by rw [aF];exact c0,?_⟩
   have j:=sP (deg-(i+1)) o
   have A:=sT (k+1) i p o o
   refine D8 (fun N=>?_) (fun N=>?_)
   ·have s:i+1=k+1:=o
    have t:(((k+1:Nat):Int):Rat)=((k+1:Nat):Rat):=Rat.intCast_natCast _
    have d:=(Ym (k:=k+1) o).mono (show 10<=m from o)
    rw [<- t] at d
    refine Jw c o o ⟨_,rfl,D,w,o,o,_,by rw [aF];exact c2,?_⟩
    refine Dh (m:=m) c (Tx.of j o) (Tx.of d o) o ⟨_,rfl,?_⟩
    rw [F9,F9]
    refine Yd (m:=2*m) c (Tx.of (A.mono o) o) (Tx.of ((j.mul d).mono o) o) o ⟨_,rfl,?_⟩
    rw [F9,F9]
    have q:psT P deg (ps P deg) (k+1) (i+1)=psT P deg (ps P deg) (k+1) i-P (deg-(i+1))*(((k+1:Nat):Int):Rat):=by
     conv=>lhs;unfold psT
     rw [iP s,t]
    rw [<- q]
    exact ⟨⟨i+1,o,rfl,rfl⟩,by simp only [iAt,bD,bC];omega⟩
   ·have s:¬ i+1=k+1:=o
    have d:=sS (k-i) o
    refine ⟨D,w,o,o,_,by rw [aF];exact c2,?_⟩
    refine Dh (m:=m) c (Tx.of j o) (Tx.of d o) o ⟨_,rfl,?_⟩
    rw [F9,F9]
    refine Yd (m:=2*m) c (Tx.of (A.mono o) o) (Tx.of ((j.mul d).mono o) o) o ⟨_,rfl,?_⟩
    rw [F9,F9]
    have q:psT P deg (ps P deg) (k+1) (i+1)=psT P deg (ps P deg) (k+1) i-P (deg-(i+1))*ps P deg (k-i):=by
     conv=>lhs;unfold psT
     rw [iN s,show k+1-(i+1)=k-i from o]
    rw [<- q]
    exact ⟨⟨i+1,o,rfl,rfl⟩,by simp only [iAt,bD,bC];omega⟩
  ·obtain rfl:i=min (k+1) deg:=o
   refine L.push E8 H1 rfl (y:=E7 (ps P deg (k+1))) (by rw [<- Iw];rfl) rfl dc o fun A5 c5 X L5=>?_
   rw [show C3 (((k+1:Nat):Int)+1)=((k+1+1:Nat):Int) by rw [B9]<;>omega]
   exact ⟨⟨k+1+1,_,_,o,o,rfl,L5⟩,by simp only [iAt,bD,bC];omega⟩
 ·obtain rfl:k=n:=o
  exact hK _ _ _ L.le L.cap (L.row E8)
end
def PrivF.make{n:Nat}{e:bF}{g:aJ}{b c:Nat}{z:Vd n}(hb:g b=none):PrivF (B3f e g b (aN c z)) g e (some ⟨b,0,none⟩) c ([]:List (Vd n)):=
 ⟨by simp,by simp,.inr ⟨b,(aN c z).flatMap enc,rfl,hb,rfl,by rw [K4,bJ],by simp⟩⟩
def B1o(a b c d e f:Int)(w:QV):(B8i a b c d e f w).length=10/\∀ v∈B8i a b c d e f w,Mj v=true:=⟨rfl,by simp [B8i,Mj]⟩
def B1p:([I (0:Int),I (0:Int),I (0:Int),I (0:Int),I (0:Int),I (0:Int),.bool false,.slice none 0 0,.bool false,.slice none 0 0]:List aS).length=10/\∀ v∈([I (0:Int),I (0:Int),I (0:Int),I (0:Int),I (0:Int),I (0:Int),.bool false,.slice none 0 0,.bool false,.slice none 0 0]:List aS),Mj v=true:=⟨rfl,by simp [Mj]⟩
section
variable {h:aJ} {K:VP} {vars:Int} {ts:List Pn} {A:Option aO} {c:Nat}
def A1y(gl:Gtz h)(pa:PolyAt h A ts)(hl:ts.length<=1000)(hc:∀ i,i<ts.length->(tm ts i).1.length<=100000000)(hK1:WfOk vars ts->∀ A' n' c',K (.tuple #[.slice A' n' c',.bool true]) h)(hK0:¬ WfOk vars ts->K (.tuple #[.slice none 0 0,.bool false]) h):aP prog 258 #[.agg #[I vars,.slice A ts.length c]] h K:=by
 refine FCall.pure ((fnk func258 [(5,[4,24],[],[.slice none 0 0,I 0])] (own:=[1,6,7])) ?_)
 have no:∀ q,h.le q->¬ WfOk vars ts->h.le q/\K (.tuple #[.slice none 0 0,.bool false]) h:=fun q l0 n=>⟨l0,hK0 n⟩
 refine C0 (fun h1=>no _ (B6 _) fun o=>by have:=o.lo;omega) (fun h1=>?_)
 refine C0 (fun X=>no _ (B6 _) fun o=>by have:=o.hi;omega) (fun X=>?_)
 refine J2 (α:=Vd 10) Vm (zx:=⟨_,B1p⟩) rfl oo oo oo oo fun b hb=>⟨_,_,_,rfl,?_⟩
 rw [aF]
 refine ⟨fun l h'=>∃ (k:Nat) (A':Option aO) (c':Nat) (f:List (Vd 10)) (g:aJ),l=[.slice A' f.length c',I k]/\k<=ts.length/\f.length=k/\(∀ j,j<k->B97 vars ts j)/\h.le g/\PrivF h' g 361 A' c' f,fun l _=>ts.length-(iAt l 1).toNat,⟨0,_,_,[],h,rfl,oo,rfl,fun j hj=>oo,B6 _,PrivF.make hb⟩,?_⟩
 rintro e p d O t ⟨k,A',c',f,g,M,hk,R,m,hg,pr⟩
 obtain ⟨⟨rfl,rfl,rfl⟩,rfl⟩:(e=A'/\p=f.length/\d=c')/\O=(k:Int):=by simpa using M
 have r:h.le t:=B0 hg pr.le
 refine C0 (fun h3=>?_) (fun h3=>?_)
 ·have hkl:k<ts.length:=oo
  obtain ⟨a,B,cc,e1,e2,e3,e4⟩:=(pa.mono r) k hkl
  refine ⟨a,e1,oo,h3,_,_,_,_,by rw [aF];exact e2,by rw [aF];exact e3,?_⟩
  refine Vt (gl.mono r) (hc k hkl) e4 oo (fun ok E F G z D C w=>⟨E,F,G,z,D,C,w.s,w.A,w.n,w.c,w.s2,w.A2,w.n2,w.c2,true,rfl,?_⟩) (fun T=>⟨_,_,_,_,_,_,_,_,_,_,_,_,_,_,false,rfl,no _ r fun o=>T (o.all k hkl).1⟩)
  have next:∀ {q:aJ},q=t->B97 vars ts k->wpH prog (bH 302 1 #[(0,.agg #[I E,I F,I G,I z,I D,I C,.bool w.s,.slice w.A w.n w.c,.bool w.s2,.slice w.A2 w.n2 w.c2])]) (fun v1 Q=>∃ (t57A:Option aO) (t57n:Nat) (t57c:Nat),v1= .slice t57A t57n t57c/\wpH prog (Builtin.append_ #[302,302] 302 #[.slice e f.length d,.slice t57A t57n t57c]) (fun v2 L=>∃ (t58A:Option aO) (t58n:Nat) (t58c:Nat),v2= .slice t58A t58n t58c/\(∃ (k2:Nat) (A':Option aO) (c':Nat) (f:List (Vd 10)) (g:aJ),[Value.slice t58A t58n t58c,I (C3 ((k:Int)+1))]=[.slice A' f.length c',I k2]/\k2<=ts.length/\f.length=k2/\(∀ j,j<k2->B97 vars ts j)/\h.le g/\PrivF L g 361 A' c' f)/\ts.length-(iAt [Value.slice t58A t58n t58c,I (C3 ((k:Int)+1))] 1).toNat<ts.length-(iAt [Value.slice e f.length d,I (k:Int)] 1).toNat) Q) q:=by
   rintro _ rfl N
   refine B13 Vm pr (y:=⟨B8i E F G z D C w,B1o E F G z D C w⟩) rfl dc oo oo ?_
   intro A2 c2 X g2 lg p2
   rw [B9 oo oo]
   refine ⟨⟨k+1,A2,c2,_,g2,?_,oo,?_,fun j hj=>?_,B0 hg lg,p2⟩,by simp only [iAt,bD,bC];omega⟩
   ·rw [List.length_append];rfl
   ·rw [List.length_append,R];rfl
   ·by_cases H:j=k
    ·subst H;exact N
    ·exact m j oo
  refine C0 (fun h4=>?_) (fun h4=>next rfl ⟨ok,fun h0=>oo⟩)
  have ek:(C3 ((k:Int)-1)).toNat=k-1:=by rw [B9 oo oo];omega
  obtain ⟨a',B',ac,W,aa,V,S⟩:=(pa.mono r) (k-1) oo
  have u:=(m (k-1) oo).1
  refine ⟨a',W,by rw [B9 oo oo];omega,by rw [B9 oo oo];omega,_,_,_,by rw [ek];exact V,?_⟩
  refine Re (by have e5:=u.len;have e6:((tm ts k).2.length:Int)=vars:=ok.len;omega) (u.exb oo) (ok.exb oo) S e4 ⟨_,rfl,B6 _,?_⟩
  refine C0 (fun h5=>no _ r fun o=>?_) (fun h5=>next rfl ⟨ok,fun _=>oo⟩)
  have:=(o.all k hkl).2 oo
  omega
 ·have hkl:k=ts.length:=oo
  subst hkl
  exact ⟨r,hK1 ⟨oo,oo,m⟩ _ _ _⟩
def Zf(gl:Gtz h)(pa:PolyAt h A ts)(hl:ts.length<=1000)(hc:∀ i,i<ts.length->(tm ts i).1.length<=100000000)(hK1:A9p vars ts->K (.bool true) h)(hK0:¬ A9p vars ts->K (.bool false) h):aP prog 159 #[.agg #[I vars,.slice A ts.length c]] h K:=by
 refine (fnk func159 (own:=[1])) ?_
 refine (fnk func210 (own:=[1])) ?_
 refine C0 (fun n=>oo) (fun _=>?_)
 refine A1y gl pa hl hc (fun ok A' k m=>⟨_,_,_,_,rfl,?_⟩) (fun d=>⟨_,_,_,_,rfl,_,_,_,_,rfl,hK0 fun o=>d o.1⟩)
 refine C0 (fun g=>?_) (fun g=>⟨_,_,_,_,rfl,hK1 ⟨ok,fun p=>oo⟩⟩)
 obtain ⟨a,B,l,e,q,f,j⟩:=pa 0 oo
 refine ⟨a,e,oo,oo,_,_,_,f,?_⟩
 refine Cc j ⟨_,rfl,Br.not (Br.of (fun b=>⟨_,_,_,_,rfl,hK1 ⟨ok,fun _=>b⟩⟩) (fun b=>⟨_,_,_,_,rfl,hK0 fun o=>?_⟩))⟩
 have:=o.2 oo
 rw [this] at b;cases b
end
def C11(v D:Nat):Bool:=
 (bO (mo v D).length).all fun k=>decide (A94 (mon v D k)<=D)&&S7 (mon v D k)&&Gf (mon v D k) (aN v 0)&&decide (opL (fun x y=>x+y) (mon v D k) (aN v 0)=mon v D k)&&(mon v D k).all fun x=>decide (0<=x/\x<=1048576)
def B19:∀ v:Fin 3,∀ D:Fin 7,1<=v.val->C11 v D=true:=by decide +kernel
structure Mz (v D k:Nat):Prop where
 deg:A94 (mon v D k)<=D
 val:S7 (mon v D k)=true
 pair:Gf (mon v D k) (aN v 0)=true
 eq:opL (fun x y=>x+y) (mon v D k) (aN v 0)=mon v D k
 bnd:∀ x∈mon v D k,0<=x/\x<=1048576
def mz{v D k:Nat}(h1:1<=v)(h2:v<=2)(hD:D<=6)(hk:k<(mo v D).length):Mz v D k:=by
 have:=B19 ⟨v,o⟩ ⟨D,o⟩ h1
 simp only [C11,Bool.and_eq_true,decide_eq_true_eq,bL,List.mem_range] at this
 obtain ⟨⟨⟨⟨a,b⟩,c⟩,d⟩,e⟩:=this k hk
 exact ⟨a,b,c,d,e⟩
section
variable {h:aJ} {K:VP} {A T PA ZA:Option aO} {c tc pc zc m v D k:Nat} {V:Nat->Rat}
def A2i{a:aO}{B:Option aO}{bc:Nat}(gl:Gl h)(f:FnV h A v D m V)(s:MoSl h T (mo v D))(hk:k<(mo v D).length)(eP:PA=some a)(c0:h.cell? (aG (aG a (0*2)) 0)=some (.string (bs (E7 1))))(c1:h.cell? (aG (aG a (0*2)) 1)=some (.slice B (mon v D k).length bc))(sB:SlI .i64 h B (mon v D k))(sZ:SlI .i64 h ZA (aN v 0)){p0:Int}
 (hK:K (.string (bs (E7 (V k)))) h):aP prog 162 #[.agg #[.slice T (mo v D).length tc,.slice A (mo v D).length c],.agg #[I p0,.slice PA 1 pc],.slice ZA v zc] h K:=by
 have y:=f.sm
 refine FCall.pure ((fnk func162 [(3,[7,15],[],[.string ⟨#[]⟩,I 0])] (own:=[3,4,9])) ?_)
 have Z:=mz f.v1 f.v2 f.d6 hk
 refine ⟨fun L e=>∃ j:Nat,j<=1/\L=[.string (bs (E7 (if j=0 then 0 else V k))),I (j:Int)]/\h.le e,fun L _=>1-(iAt L 1).toNat,⟨0,o,by rfl,B6 _⟩,?_⟩
 rintro t z e ⟨j,C,w,d⟩
 obtain ⟨rfl,rfl⟩:=w
 refine C0 (fun q=>?_) (fun l=>?_)
 ·obtain rfl:j=0:=o
  refine ⟨a,eP,o,o,_,_,_,_,C1 d c0,C1 d c1,?_⟩
  have sz:=sZ.mono d
  have i:=f.sz k hk
  have key:∀ K':VP,(∀ B' g,e.le g->SlI .i64 g B' (mon v D k)->K' (.tuple #[.slice B' (mon v D k).length (mon v D k).length,.bool true]) g)->aP prog 173 #[.slice B (mon v D k).length bc,.slice ZA v zc] e K':=fun K' n=>by
   have:=Uj (K:=K') (ac:=bc) (bc:=zc) (sB.mono d) sz (fun no=>by rw [Z.eq,Z.pair,Z.val] at no;cases no) (fun _ B' g E p=>by rw [Z.eq] at p ⊢;grind)
   grind
  refine key _ fun B' F r u=>⟨_,_,_,_,rfl,?_⟩
  have b:=B0 d r
  refine Zu (f.mono b) (s.mono b) hk u ⟨_,rfl,B6 _,?_⟩
  refine Dh (m:=m+1) (gl.mono b) (Tx.of (m:=m+1) ⟨ZB.one o,ZB.one o⟩ o) (Tx.of (i.mono o) o) o ⟨_,rfl,B6 _,?_⟩
  rw [F9,F9,aZ,iP rfl]
  refine Jy (m:=m+1) (gl.mono b) (Tx.of (Sz.zero o) o) (Tx.of (i.mono o) o) o ⟨_,rfl,B6 _,?_⟩
  rw [F9,F9,Rat.zero_add]
  exact ⟨⟨1,o,rfl,b⟩,by
   show 1-(C3 (((0:Nat):Int)+1)).toNat<1-(((0:Nat):Int)).toNat
   decide⟩
 grind
def Wg{a:aO}{B:Option aO}{bc:Nat}(gl:Gl h)(f:FnV h A v D m V)(hk:k<(mo v D).length)(eP:PA=some a)(c0:h.cell? (aG (aG a (0*2)) 0)=some (.string (bs (E7 1))))(c1:h.cell? (aG (aG a (0*2)) 1)=some (.slice B (mon v D k).length bc))(sB:SlI .i64 h B (mon v D k))
 (hK:K (.tuple #[.string (bs (E7 (V k))),I 0]) h):aP prog 114 #[.agg #[I (v:Int),I (D:Int),.slice A (mo v D).length c],.agg #[I ((mon v D k).length:Int),.slice PA 1 pc]] h K:=by
 have z:=f.v1;have y:=f.v2;have C:=f.d6
 have Z:=mz z y C hk
 have E:(mon v D k).length=v:=((T4 z y C).val k hk).2.1
 have H:PolyAt h PA [(E7 1,mon v D k)]:=fun i M=>by
  grind
 have w:A9p ((mon v D k).length:Int) [(E7 1,mon v D k)]:=by
  refine ⟨⟨o,o,fun j N=>?_⟩,fun _=>Z.val⟩
  obtain rfl:j=0:=gz0
  exact ⟨⟨⟨1,rfl,dc⟩,rfl,Z.bnd⟩,fun h=>absurd h o⟩
 refine FCall.pure ((fnk func114 (os:=[(5,[0,2,3,1,4]),(7,[0,2,3,4,1,5,6,7,8])]) (al:=[(7,[(1,[5])])]) (own:=[2,3])) ?_)
 refine Cd gl f ⟨_,rfl,Br.nt ?_⟩
 have val:∀ K':VP,K' (.bool true) h->aP prog 159 #[.agg #[I ((mon v D k).length:Int),.slice PA 1 pc]] h K':=fun K' t=>
  Zf (ts:=[(E7 1,mon v D k)]) gl.tz H (by simp) (fun i M=>by
   obtain rfl:i=0:=gz0
   exact (Tx.of (m:=1) (q:=1) ⟨ZB.one o,ZB.one o⟩ o).len) (fun _=>t) (fun no=>absurd w no)
 refine val _ ⟨_,rfl,Br.nt (E6 (fun e=>absurd (by rw [E]) e) (fun _=>?_))⟩
 refine (fnk func160 (own:=[1])) ?_
 refine D8 (fun e=>o) (fun _=>val _ ⟨_,rfl,Br.nt ⟨a,eP,o,o,_,_,_,c1,Kw sB ⟨_,rfl,_,rfl,B6 _,C0 (fun e=>absurd Z.deg o) (fun _=>?_)⟩⟩⟩)
 have p:∀ {hp:aJ} {K':VP},h.le hp->(∀ b h',hp.le h'->SlI .i64 h' (some ⟨b,0,none⟩) (aN v 0)->K' (.slice (some ⟨b,0,none⟩) v v) h')->wpH prog (Instr.makeSlice 22 (I (v:Int)) (I (v:Int))) K' hp:=fun {hp K'} l kk=>by
  refine Rk Pa o o o o fun b L=>?_
  refine kk b _ (Heap.le_put _ L) ?_
  rw [show (Value.int .i64 0).cells=#[.int .i64 0] from rfl,Ca,<- List.map_replicate]
  exact SlI.new _ _ _ _ _
 have n:∀ {hp:aJ} {T ZA:Option aO} {r zc:Nat} {K':VP},h.le hp->MoSl hp T (mo v D)->SlI .i64 hp ZA (aN v 0)->K' (.string (bs (E7 (V k)))) hp->aP prog 162 #[.agg #[.slice T (mo v D).length r,.slice A (mo v D).length c],.agg #[I ((mon v D k).length:Int),.slice PA 1 pc],.slice ZA v zc] hp K':=fun {hp T ZA r zc K'} l s sz kk=>
  A2i (gl.mono l) (f.mono l) s hk eP (C1 l c0) (C1 l c1) (sB.mono l) sz kk
 refine ⟨?_,?_⟩
 ·refine Bl f fun T r G d u=>⟨_,_,_,_,_,_,rfl,d,?_⟩
  refine p d fun b F g sz=>⟨_,_,_,rfl,g,?_⟩
  exact n (B0 d g) (u.mono g) sz ⟨_,rfl,B6 _,B0 d g,hK⟩
 ·refine p (B6 _) fun b F g sz=>⟨_,_,_,rfl,g,?_⟩
  refine Bl (f.mono g) fun T r G d u=>⟨_,_,_,_,_,_,rfl,d,?_⟩
  exact n (B0 g d) u (sz.mono d) ⟨_,rfl,B6 _,B0 g d,hK⟩
end
section
variable {α β α2 β2:Type} [E:Enc α] [E2:Enc α2] {R:aJ->α->β->Prop} {e e2:bF} {h0 hp:aJ} {A A2:Option aO} {c n c2 n2:Nat} {f:Nat->β} {R2:aJ->α2->β2->Prop} {f2:Nat->β2}
def Lst2.of(l:Lst R2 e2 h0 hp A2 c2 n2 f2):bK R e R2 e2 h0 hp none 0 0 f A2 c2 n2 f2:=by
 obtain ⟨g,o,a,c,s,w,b,r⟩:=l
 exact ⟨g,o,[],a,c,s,OwnSl.nil,w,fun _ x=>by (cases x),rfl,b,Row.nil,r⟩
def Lst2.row2(m:Mon R2)(l:bK R e R2 e2 h0 hp A c n f A2 c2 n2 f2):aL R2 hp A2 n2 f2:=l.swap.row m
def Lst2.set(m2:Mon R2){P:bV}{t:bF}(one:P.cellsOf t=E2.default.size/\(P.info? t).isSome=true)(l:bK R e R2 e2 h0 hp A c n f A2 c2 n2 f2){b k:Nat}(hA:A2=some ⟨b,0,none⟩)(hk:k<n2){v:aS}{y:α2}(hv:v.cells=(enc y).toArray){z:β2}(hR:R2 h0 y z){K:Unit->aJ->Prop}
 (x:∀ h',bK R e R2 e2 h0 h' A c n f A2 c2 n2 (fun i=>if i=k then z else f2 i)->K () h'):wpH P (Instr.storeAt t (.pointer (some (aG ⟨b,0,none⟩ (k*E2.default.size)))) v) K hp:=by
 obtain ⟨g,o,p,H,a,s,w,B,C,F,D,r,d⟩:=l
 refine OwnSl.store one hv s B oo hA fun h' E j m G=>x h' ⟨g,E,p,_,a,j,w.keep fun M u q L=>?_,m,C,F,gz0,r,d.upd oo (m2 _ _ _ _ a hR)⟩
 grind
def Lst2.app(m:Mon R)(m2:Mon R2){P:bV}{t ty:bF}{z:aS}{bytes k j:Nat}(st:SliceT P t e z E.default.size bytes)(l:bK R e R2 e2 h0 hp A c n f A2 c2 n2 f2)(hk:k=n){B:Option aO}{d:Nat}{g:Nat->β}(row:aL R h0 B j g)(hj:1<=j)(hg:∀ i,i<j->f (n+i)=g i)(hsz:bytes<=1000)(hb:n+j<=1000000){K:VP}
 (x:∀ A' c' h',bK R e R2 e2 h0 h' A' c' (n+j) f A2 c2 n2 f2->K (.slice A' (n+j) c') h'):
 wpH P (Builtin.append_ #[t,t] ty #[.slice A k c,.slice B j d]) K hp:=by
 subst hk
 obtain ⟨gg,o,xs,ys,C,s,w,L,ap,F,D,r,r2⟩:=l
 obtain ⟨us,O,G,ru⟩:=row
 refine OwnSl.app (ty:=ty) st s w F.symm G.symm (fun q=>gz0) (O.mono (B0 C s.le)) (by rw [F,G];exact aY (aQ (show 2*(k+j)+192<=3000000 from oo) hsz) dc) oo ?_
 intro A' c' h' V W a M Q N
 rw [F]
 have H:∀ b,A2=some ⟨b,0,none⟩->∃ x,o b=some x:=fun b q=>by
  rcases L.2 with ⟨_,y⟩|⟨b',X,y,q3,_⟩
  ·grind
  grind
 refine x A' c' h' ⟨V,W,_,ys,B0 C a,M,Q,L.keep fun b x q T=>(N b x T fun y=>ap b y q).1,fun b q y=>?_,gz0,D,fun i hi=>?_,r2.mono m2 a⟩
 ·grind
 ·by_cases S:i<k
  ·obtain ⟨u,e1,p⟩:=r i S
   exact ⟨u,gz0,m _ _ _ _ a p⟩
  ·obtain ⟨i,rfl⟩:∃ j0,i=k+j0:=⟨i-k,oo⟩
   obtain ⟨u,e1,p⟩:=ru i oo
   exact ⟨u,gz0,by rw [hg i oo];exact m _ _ _ _ (B0 C a) p⟩
end
def OwnK.vis{α β:Type}[E:Enc α]{R:aJ->α->β->Prop}(m:Mon R){h hp:aJ}{b n k b2:Nat}{f:Nat->β}(w:OwnK R h hp b n k f)(hb:hp b2=none)(x:Obj):OwnK R h (hp.put b2 x) b n k f:=by
 obtain ⟨g,o,d,e,s,c,i,j⟩:=w
 have a:g b2=none:=by
  cases q:g b2 with
  | none=>rfl
  | some u=>rw [s.le _ _ q] at hb;cases hb
 exact ⟨_,o,d,B0 e (Heap.le_put _ a),s.vis hb x,c,i,j.mono m (Heap.le_put _ a)⟩
def A54{h:aJ}{N:Nat}{K:VP}{b0:Nat}(hb0:h b0=none)(hN:1<=N)(hl:N<=1000000)(hK:∀ b h',Lst SSr 9 h h' (some ⟨b,0,none⟩) N N (fun _=>E7 0)->K (.slice (some ⟨b,0,none⟩) N N) h'):
 aP prog 116 #[.slice (some ⟨b0,0,none⟩) 1 1,I (N:Int)] (h.put b0 (.cells #[.string ({ data:=#[48] }:ByteArray)] 9)) K:=by
 refine Ou (SlV.new _ _ _ _ _ _ (fun i v a=>by simpa using a)) hN hl fun b h' c s d=>hK b h' ⟨_,c,aN N (E7 0),Heap.le_put _ hb0,s,⟨by simp,.inr ⟨b,_,rfl,d,by rw [bJ];exact (Nat.mul_one _).symm,?_⟩⟩,by simp,fun i e=>⟨_,gz0,rfl⟩⟩
 rw [bJ,Vs,<- t0]
 exact List.take_of_length_le (by simp;exact Nat.le_of_eq (Nat.mul_one _).symm)
def rgS(V:Nat->Rat)(v d:Nat)(M:Nat->Nat->Rat)(i n:Nat):Rat:=sm n fun j=>V ((pvL V v d).getD j 0)*kpw M (rkM V v d) i j
def rgt(V:Nat->Rat)(v d:Nat)(M:Nat->Nat->Rat)(i:Nat):Rat:=rgS V v d M i (rkM V v d)
def hkl(P:Nat->Rat)(deg:Nat):Nat->Nat->Rat:=fun i k=>ps P deg (i+k)
def wgX(V:Nat->Rat)(v d:Nat)(M:Nat->Nat->Rat)(P:Nat->Rat)(deg:Nat):Nat->Rat:=Pc (fl (hkl P deg) (rkM V v d)) (rgt V v d M) (rkM V v d) (rkM V v d)
section
variable {h:aJ} {K:VP} {A BA IA KA PA:Option aO} {c bc ic kc pc m mq v d D deg:Nat} {V P:Nat->Rat} {M:Nat->Nat->Rat}
def A40{i:Nat}(q:Quo h A BA IA v D m d V)(hi:i<nM v d):mon v d i=mon v D i/\i<(mo v D).length:=by
 have e:=Y8 q.fn.v1 q.fn.v2 (show d<=3 by have:=q.d2;omega) q.fn.d6 (show 2*d<=D by have:=q.dD;omega) hi hi
 refine ⟨e.same,?_⟩
 have:nM v d<=(mo v D).length:=by
  have a:d<=D:=by have:=q.dD;omega
  have b:∀ v:Fin 3,∀ d:Fin 3,∀ D:Fin 7,d.val<=D.val->nM v d<=(mo v D).length:=by decide +kernel
  exact b ⟨v,by have:=q.fn.v2;omega⟩ ⟨d,by have:=q.d2;omega⟩ ⟨D,by have:=q.fn.d6;omega⟩ a
 omega
def Wu(gl:Gl h)(q:Quo h A BA IA v D m d V)(hq1:1<=mq)(hq:mq<=1000000)(hmq:15<=mq)
 (x:aL (MVr (rkM V v d)) h KA (rkM V v d+1) (kpw M (rkM V v d))) (hs:∀ k,k<=rkM V v d->∀ i,i<rkM V v d->Sz mq (kpw M (rkM V v d) k i)) (sb:SB (rkM V v d) mq)
 (xp:aL SSr h PA (deg+1) (fun i=>E7 (P i))) (hd1:1<=deg) (hd:deg<=64) (sP:∀ i,i<=deg->Sz mq (P i)) (sS:∀ k,k<2*rkM V v d-1->Sz mq (ps P deg k)) (sT:∀ k i,k<2*rkM V v d-1->i<=k->i<=deg->Sz mq (psT P deg (ps P deg) k i))
 (sR:∀ i n,i<rkM V v d->n<=rkM V v d->Sz mq (rgS V v d M i n))
 (ok:Bv (fl (hkl P deg) (rkM V v d)) (rgt V v d M) (rkM V v d) (rkM V v d)) (hx:∀ i,i<rkM V v d->Sz 10000000 (wgX V v d M P deg i))
 (hK:∀ A' c' h',h.le h'->aL SSr h' A' (trN (wgX V v d M P deg) (rkM V v d)) (fun i=>E7 (wgX V v d M P deg i))->K (.tuple #[.slice A' (trN (wgX V v d M P deg) (rkM V v d)) c',I 0]) h'):
 aP prog 64 #[B5v A BA IA c bc ic v D (rkM V v d),.agg #[.slice KA (rkM V v d+1) kc],.slice PA (deg+1) pc] h K:=by
 have r1:=q.r1;have r6:=q.r6
 have ao:rkM V v d*rkM V v d<=6*6:=aQ r6 r6
 refine (fnk func64 [(4,[31],[],[I 0]),(16,[68],[(15,3)],[I 0,I 0,I 0,.slice none 0 0]),(20,[83],[],[I 0])] (own:=[3,4,13,15]) (wr:=[1000000000])) ?_
 refine J2 H1 (zx:=([]:List UInt8)) rfl oo oo oo oo fun b hb=>⟨_,_,_,rfl,?_⟩
 refine ⟨fun L F=>∃ k:Nat,k<=rkM V v d/\L=[I k]/\OwnK SSr h F b (rkM V v d) k (fun i=>E7 (V ((pvL V v d).getD i 0))),fun L _=>rkM V v d-(iAt L 0).toNat,⟨0,oo,rfl,OwnK.zero hb⟩,?_⟩
 rintro z F ⟨k,hk,eL,w⟩
 obtain rfl:z=(k:Int):=gz0
 refine C0 (fun af=>?_) (fun ah=>?_)
 ·have C:k<rkM V v d:=oo
  obtain ⟨ab,B,b2,e,c0,s0⟩:=q.bd.mi C
  have ai:=Ko V v d C
  obtain ⟨m1,m2⟩:=A40 q ai
  have eb:bdr V v d k=mon v D ((pvL V v d).getD k 0):=m1
  rw [eb] at c0 s0
  refine ⟨ab,e,oo,oo,_,_,_,by exact C1 w.le c0,?_⟩
  refine Z6 B68 (vs:=[.agg #[.string ({ data:=#[49] }:ByteArray),.slice B (mon v D ((pvL V v d).getD k 0)).length b2]]) (fun u hu=>by rw [List.mem_singleton.1 hu];rfl) rfl (by simp) rfl fun b4 aj=>⟨_,_,_,rfl,?_⟩
  have w4:=w.vis E8 aj (.cells (([.agg #[.string ({ data:=#[49] }:ByteArray),.slice B (mon v D ((pvL V v d).getD k 0)).length b2]]:List aS).flatMap fun v=>v.cells.toList).toArray 175)
  have l4:=w4.le
  refine Wg (bc:=b2) (gl.mono l4) (q.fn.mono l4) m2 rfl ?_ ?_ (s0.mono l4) ⟨_,_,rfl,_,rfl,oo,oo,?_⟩
  ·rw [bY,D6,D6,D4,t1];rfl
  ·rw [bY,D6,D6,D4];rfl
  refine w4.fill E8 J6 (y:=E7 (V ((pvL V v d).getD k 0))) C (by rfl) rfl fun h5 w5=>E6 (fun e=>absurd rfl e) (fun _=>?_)
  rw [wiS k oo]
  exact ⟨⟨k+1,oo,rfl,w5⟩,by simp only [Y2];omega⟩
 ·obtain rfl:k=rkM V v d:=oo
  have lw:=w.le
  have rowV:=w.own.vis E8
  rw [show C3 (C3 (2*(rkM V v d:Int))-1)=((2*rkM V v d-1:Nat):Int) by
   rw [B9 (n:=2*(rkM V v d:Int)) oo oo,B9]<;>omega]
  refine Pf (gl.mono lw) (xp.mono E8 lw) hd1 hd oo oo sP sS sT oo oo fun SA sc r l2 ad H=>⟨_,_,_,rfl,?_⟩
  refine Q1 H1 rfl fun b0 ag=>⟨_,_,_,rfl,?_⟩
  refine A54 ag r1 oo fun br h3 L0=>⟨_,_,_,rfl,?_⟩
  generalize hG:O7 (hkl P deg) (rkM V v d)=G
  have T:∀ i k,k<rkM V v d->G (i*rkM V v d+k)=E7 (hkl P deg i k):=fun i k hk=>by
   obtain ⟨a1,a2⟩:=dm1 (i:=i) hk
   rw [<- hG];unfold O7;grind
  refine ⟨fun L F=>∃ (i:Nat) (A':Option aO) (c':Nat),i<=rkM V v d/\L=[I (i:Int),I (rkM V v d:Int),I (rkM V v d:Int),.slice A' (i*rkM V v d) c']/\bK SSr 9 SSr 9 r F A' c' (i*rkM V v d) G (some ⟨br,0,none⟩) (rkM V v d) (rkM V v d) (fun t=>E7 (if t<i then rgt V v d M t else 0)),fun L _=>rkM V v d-(iAt L 0).toNat,⟨0,none,0,oo,gz0,by rw [bY];exact Lst2.of L0⟩,?_⟩
  rintro z m0 m1 mA mn mc F ⟨i,A',c',hi,eL,L⟩
  obtain ⟨rfl,rfl,rfl,rfl,rfl,rfl⟩:=eL
  have W:=B0 lw l2
  refine C0 (fun af=>?_) (fun ah=>?_)
  ·have p:i<rkM V v d:=oo
   have ae:(i+1)*rkM V v d=i*rkM V v d+rkM V v d:=gz0
   have am:(i+1)*rkM V v d<=rkM V v d*rkM V v d:=aE _ p
   rw [show C3 ((i:Int)+(rkM V v d:Int))=((i+rkM V v d:Nat):Int) by rw [B9]<;>omega]
   refine ⟨⟨oo,oo⟩,⟨oo,oo⟩,?_⟩
   simp only [aF]
   rw [show i+rkM V v d-i=rkM V v d from oo]
   refine Lst2.app E8 E8 H1 L rfl (H.cut (l:=i) (k:=rkM V v d) oo ad) r1 (fun t ht=>?_) dc oo fun A5 c5 h5 L5=>⟨_,_,_,rfl,?_⟩
   ·rw [T i t ht];rfl
   refine ⟨fun L hx=>∃ (j:Nat),j<=rkM V v d/\L=[I (j:Int)]/\bK SSr 9 SSr 9 r hx A5 c5 (i*rkM V v d+rkM V v d) G (some ⟨br,0,none⟩) (rkM V v d) (rkM V v d) (fun t=>E7 (if t<i then rgt V v d M t else if t=i then rgS V v d M i j else 0)),fun L _=>rkM V v d-(iAt L 0).toNat,⟨0,oo,rfl,?_⟩,?_⟩
   ·obtain ⟨g,o,S,ys,R,s,w1,w2,ap,hn,a,Q,X⟩:=L5
    refine ⟨g,o,S,ys,R,s,w1,w2,ap,hn,a,Q,X.congr fun t _=>?_⟩
    by_cases h1:t<i
    ·grind
    ·by_cases r:t=i
     ·rw [iP r];rfl
     grind
   rintro z hx ⟨j,hj,eL,L6⟩
   obtain rfl:z=(j:Int):=gz0
   refine C0 (fun al=>?_) (fun ak=>?_)
   ·have f:j<rkM V v d:=oo
    have O:=L6.le
    have E:=B0 W O
    obtain ⟨a1,e1,c1⟩:=(rowV.mono E8 (B0 l2 O)).sat f
    obtain ⟨a2,e2,c2⟩:=(L6.row2 E8).sat p
    obtain ⟨a3,B3,an,e3,_,_,c3,ac⟩:=(x.mono (Rf _) E).mv (show i<rkM V v d+1 from oo)
    obtain ⟨a4,e4,c4⟩:=ac.sat f
    rw [iN (Nat.lt_irrefl i),iP rfl] at c2
    refine ⟨a1,e1,oo,oo,_,by exact c1,a2,e2,oo,oo,_,c2,a3,e3,oo,oo,_,_,_,c3,a4,e4,oo,oo,_,by exact c4,?_⟩
    have sv:=(q.fn.sz _ (A40 q (Ko V v d f)).2).mono (show m<=mq by have:=q.m15;omega)
    have sk:=hs i oo j f
    refine Dh (m:=mq) (gl.mono E) (Tx.of sv oo) (Tx.of sk oo) oo ⟨_,rfl,B6 _,?_⟩
    rw [F9,F9]
    refine Jy (m:=2*mq) (gl.mono E) (Tx.of ((sR i j p oo).mono oo) oo) (Tx.of ((sv.mul sk).mono oo) oo) oo ⟨_,rfl,B6 _,_,rfl,oo,oo,?_⟩
    rw [F9,F9]
    refine L6.set E8 J6 rfl p (y:=E7 (rgS V v d M i (j+1))) (by rfl) rfl fun h7 L7=>?_
    rw [wiS j oo]
    refine ⟨⟨j+1,oo,rfl,?_⟩,by simp only [Y2];omega⟩
    obtain ⟨g,o,S,ys,R,s,w1,w2,ap,hn,a,Q,X⟩:=L7
    refine ⟨g,o,S,ys,R,s,w1,w2,ap,hn,a,Q,X.congr fun t _=>?_⟩
    by_cases h1:t<i
    ·rw [iN oo,iP h1,iP h1]
    ·by_cases r:t=i
     ·grind
     grind
   ·obtain rfl:j=rkM V v d:=oo
    rw [wiS i oo]
    rw [<- ae] at L6 ⊢
    refine ⟨⟨i+1,_,_,oo,rfl,?_⟩,by simp only [Y2];omega⟩
    obtain ⟨g,o,S,ys,R,s,w1,w2,ap,hn,a,Q,X⟩:=L6
    refine ⟨g,o,S,ys,R,s,w1,w2,ap,hn,a,Q,X.congr fun t _=>?_⟩
    by_cases h1:t<i
    ·grind
    ·rw [iN h1]
     by_cases r:t=i
     ·rw [iP r,iP oo,r];rfl
     grind
  ·obtain rfl:i=rkM V v d:=oo
   have N:=B0 W L.le
   have y:FM F mA (rkM V v d) (rkM V v d) mq (hkl P deg):=⟨r1,oo,r1,oo,by rw [hG];exact L.row E8,fun i j hi hj=>sS (i+j) oo⟩
   have rr:aL SSr F (some ⟨br,0,none⟩) (rkM V v d) (fun t=>E7 (rgt V v d M t)):=(L.row2 E8).congr fun t ht=>by grind
   refine Gg (gl.mono N) y rr (fun i hi=>sR i _ hi (aC _)) ok hq1 ⟨(sb _ (aC _)).1,(sb _ (aC _)).1,(sb _ (aC _)).2,(sb _ (aC _)).2⟩ fun A5 c5 B5 n5 d5 h5 l5 q5=>⟨_,_,_,_,_,_,_,rfl,E6 (fun e=>absurd rfl e) (fun _=>?_)⟩
   have aa:=B0 N l5
   exact Qf (m:=10000000) (gl.mono aa) q5 oo hx oo fun A6 c6 h6 l6 r6=>⟨_,_,_,_,rfl,hK _ _ _ (B0 aa l6) r6⟩
end
structure XOk (V:Nat->Rat) (v d N mq:Nat):Prop where
 n9:N<=999
 q1:15<=mq
 q2:mq<=1000000
 sb:SB (rkM V v d) mq
 kb:∀ k,k<=N->KB V (frm k) v d mq
 ku:∀ j,j<v->∀ i k,i<rkM V v d->k<rkM V v d->Sz mq (A4q V (uni j) v d i k)/\Sz mq (fmM V (uni j) v d i 0)
 no:∀ k,k<N->Hq (fmM V (frm k) v d) (rkM V v d)≠rkM V v d
 yes:Hq (fmM V (frm N) v d) (rkM V v d)=rkM V v d
 min:Bv (fl (Ls (kpw (fmM V (frm N) v d) (rkM V v d))) (rkM V v d)) (kpw (fmM V (frm N) v d) (rkM V v d) (rkM V v d)) (rkM V v d) (rkM V v d)
 minS:∀ i,i<rkM V v d->Sz 10000000 (A9y (fmM V (frm N) v d) (rkM V v d) i)
 coo:∀ j,j<v->Bv (fl (Ls (kpw (fmM V (frm N) v d) (rkM V v d))) (rkM V v d)) (fun i=>fmM V (uni j) v d i 0) (rkM V v d) (rkM V v d)
 cooS:∀ j,j<v->∀ i,i<rkM V v d->Sz 10000000 (A0l V v d (fmM V (frm N) v d) j i)
 sP:∀ i,i<=rkM V v d->Sz mq (Hw (fmM V (frm N) v d) (rkM V v d) i)
 sS:∀ k,k<2*rkM V v d-1->Sz mq (ps (Hw (fmM V (frm N) v d) (rkM V v d)) (rkM V v d) k)
 sT:∀ k i,k<2*rkM V v d-1->i<=k->i<=rkM V v d->Sz mq (psT (Hw (fmM V (frm N) v d) (rkM V v d)) (rkM V v d) (ps (Hw (fmM V (frm N) v d) (rkM V v d)) (rkM V v d)) k i)
 sR:∀ i n,i<rkM V v d->n<=rkM V v d->Sz mq (rgS V v d (fmM V (frm N) v d) i n)
 wok:Bv (fl (hkl (Hw (fmM V (frm N) v d) (rkM V v d)) (rkM V v d)) (rkM V v d)) (rgt V v d (fmM V (frm N) v d)) (rkM V v d) (rkM V v d)
 wS:∀ i,i<rkM V v d->Sz 10000000 (wgX V v d (fmM V (frm N) v d) (Hw (fmM V (frm N) v d) (rkM V v d)) (rkM V v d) i)
def TXr:aJ->HV->Nat × (Nat->Rat)->Prop:=fun h w x=>w.n=x.1/\aL SSr h w.A x.1 (fun i=>E7 (x.2 i))
def A5g:Mon TXr:=fun _ _ _ _ l i=>⟨i.1,i.2.mono E8 l⟩
def B8q(V:Nat->Rat)(v d N:Nat)(j:Nat):Nat × (Nat->Rat):=(trN (A0l V v d (fmM V (frm N) v d) j) (rkM V v d),A0l V v d (fmM V (frm N) v d) j)
structure XtV (h:aJ) (V:Nat->Rat) (v d N:Nat) (FA MA CA WA:Option aO):Prop where
 form:aL SSr h FA v (fun i=>E7 (frm N i))
 min:aL SSr h MA (rkM V v d+1) (fun i=>E7 (Hw (fmM V (frm N) v d) (rkM V v d) i))
 coo:aL TXr h CA v (B8q V v d N)
 wgt:aL SSr h WA (trN (wgX V v d (fmM V (frm N) v d) (Hw (fmM V (frm N) v d) (rkM V v d)) (rkM V v d)) (rkM V v d)) (fun i=>E7 (wgX V v d (fmM V (frm N) v d) (Hw (fmM V (frm N) v d) (rkM V v d)) (rkM V v d) i))
def xt0:aS:=.agg #[.slice none 0 0,.slice none 0 0,.slice none 0 0,.slice none 0 0]
section
variable {h:aJ} {K:VP} {A:Option aO} {c m mq v d D N:Nat} {V:Nat->Rat}
def Ig(gl:Gl h)(f:FnV h A v D m V)(hm1:1<=m)(hm:m<=15)(hd3:d<=3)
 (h3:d<1\/D<2*d->∀ h',h.le h'->K (.tuple #[xt0,I 3]) h')
 (h11:1<=d->2*d<=D->¬ (rkM V v d=rkM V v (d-1)/\1<=rkM V v d/\psd V v d)->∀ h',h.le h'->K (.tuple #[xt0,I 11]) h')
 (hok:∀ d',d=d'+1->2*d<=D->rkM V v d=rkM V v d'->1<=rkM V v d'->psd V v d->∃ N mq,XOk V v d' N mq/\
  ∀ FA fc MA mc CA cc WA wc h',h.le h'->XtV h' V v d' N FA MA CA WA->K (.tuple #[.agg #[.slice FA v fc,.slice MA (rkM V v d'+1) mc,.slice CA v cc,.slice WA (trN (wgX V v d' (fmM V (frm N) v d') (Hw (fmM V (frm N) v d') (rkM V v d')) (rkM V v d')) (rkM V v d')) wc],I 0]) h'):
 aP prog 13 #[.agg #[I (v:Int),I (D:Int),.slice A (mo v D).length c],I (d:Int)] h K:=by
 have v2:=f.v2
 refine (fnk func13 [(12,[50],[(4,4),(10,4)],[I 0,.slice none 0 0,.slice none 0 0,.slice none 0 0,.slice none 0 0,.slice none 0 0,.slice none 0 0,.slice none 0 0,.slice none 0 0])] (os:=[(1,[0,1,2,8,3,4,5,6,7,9,10])]) (own:=[2,4,6,9,10])) ?_
 refine Tg o fun b h1 own=>⟨_,_,_,rfl,own.le,?_⟩
 have B:=own.le
 refine Te (F:=fun _=>0) (m2:=1) (gl.mono B) (f.mono B) hm1 hm hd3 (own.vis E8) (fun _ _=>Sz.zero o) o
  (fun e=>⟨_,_,_,_,_,_,_,_,_,_,_,_,_,_,rfl,B6 _,E6 (fun _=>h3 o _ B) (fun e=>o)⟩)
  (fun e1 e2 _ no=>⟨_,_,_,_,_,_,_,_,_,_,_,_,_,_,rfl,B6 _,E6 (fun _=>h11 e1 e2 (fun x=>no ⟨x.1,x.2.1,fun _=>x.2.2⟩) _ B) (fun e=>o)⟩) ?_
 intro d' ed hD _ r a Q BA bc IA ic h2 l2 rb ri
 obtain ⟨N,mq,X,kk⟩:=hok d' ed hD r a (Q rfl)
 refine ⟨_,_,_,_,_,_,_,_,_,_,_,_,_,_,rfl,l2,E6 (fun e=>absurd rfl e) (fun _=>?_)⟩
 have p:=B0 B l2
 have q:Quo h2 A BA IA v D m d' V:=⟨f.mono p,o,o,a,hm1,hm,rb,ri⟩
 have n:=gl.mono p
 have r6:=q.r6
 have ag:=X.q1;refine Nx n q X.n9 X.kb o X.q2 X.sb X.no X.yes fun FA fc KA kc h3 W rf rk=>⟨_,_,_,_,_,_,_,rfl,E6 (fun e=>absurd rfl e) (fun _=>?_)⟩
 have pw:=(X.kb N (aC _)).pw
 have key:∀ K':VP,(∀ A' c' h',h3.le h'->aL SSr h' A' (rkM V v d'+1) (fun i=>E7 (Hw (fmM V (frm N) v d') (rkM V v d') i))->K' (.tuple #[.slice A' (rkM V v d'+1) c',I 0]) h')->aP prog 62 #[.agg #[.slice KA (rkM V v d'+1) kc]] h3 K':=fun K' G=>by
  have:=Tf (K:=K') (kc:=kc) (n.mono W) rk a r6 pw o X.q2 X.sb
  rw [X.yes] at this
  exact this a X.min X.minS G
 refine key _ fun MA mc h4 O rm=>⟨_,_,_,_,rfl,E6 (fun e=>absurd rfl e) (fun _=>?_)⟩
 have u:=B0 W O
 have t:=rk.mono (Rf _) O
 have R:=rf.mono E8 O
 refine ⟨fun L hp=>∃ (j:Nat) (CA:Option aO) (cc:Nat),j<=v/\L=[I (j:Int),.slice none 0 0,.slice none 0 0,.slice none 0 0,.slice none 0 0,.slice FA v fc,.slice MA (rkM V v d'+1) mc,.slice CA j cc,.slice none 0 0]/\Lst TXr 31 h4 hp CA cc j (B8q V v d' N),fun L _=>v-(iAt L 0).toNat,⟨0,none,0,o,rfl,Lst.nil⟩,?_⟩
 rintro z aA an ac bA bn af cA cn ai dA dn dc eA v ec gA gn gc CA j cc iA iN ah hp ⟨j0,CA0,ae,hj,eL,L⟩
 obtain ⟨rfl,⟨rfl,rfl,rfl⟩,⟨rfl,rfl,rfl⟩,⟨rfl,rfl,rfl⟩,⟨rfl,rfl,rfl⟩,⟨rfl,rfl,rfl⟩,⟨rfl,rfl,rfl⟩,⟨rfl,rfl,rfl⟩,rfl,rfl,rfl⟩:=eL
 refine C0 (fun ad=>?_) (fun aa=>?_)
 ·have l:j<v:=o
  refine L.call A5g fun g E=>?_
  have s:=B0 u E
  refine Ny (mq:=mq) (n.mono s) (q.mono s) l (fun i k w T=>⟨(X.kb N (aC _)).iv i k w T,(X.ku j l i k w T).1⟩) o X.q2 (t.mono (Rf _) E) pw (fun i w=>(X.ku j l i i w w).2) X.sb (X.coo j l) (X.cooS j l) fun A5 c5 g5 S r5=>⟨S,fun h5 _ L5=>⟨_,_,_,_,rfl,E6 (fun e=>absurd rfl e) (fun _=>?_)⟩⟩
  refine L5.push A5g B69 rfl (y:=(⟨A5,_,c5⟩:HV)) (by rfl) ⟨rfl,r5⟩ (by decide) o fun A6 c6 h6 L6=>?_
  rw [wiS j o]
  exact ⟨⟨j+1,_,_,o,rfl,L6.weak (B0 E S)⟩,by simp only [Y2];omega⟩
 ·obtain rfl:j=v:=o
  have M:=B0 u L.le
  refine Wu (mq:=mq) (n.mono M) (q.mono M) o X.q2 X.q1 (t.mono (Rf _) L.le) pw X.sb (rm.mono E8 L.le) a o X.sP X.sS X.sT X.sR X.wok X.wS fun WA wc h7 C H=>⟨_,_,_,_,rfl,E6 (fun e=>absurd rfl e) (fun _=>?_)⟩
  exact kk _ _ _ _ _ _ _ _ _ (B0 p (B0 M C)) ⟨R.mono E8 (B0 L.le C),rm.mono E8 (B0 L.le C),(L.row A5g).mono A5g C,H⟩
end
def Rq{C:Nat->Nat->Rat}{n:Nat}(h:∀ x:Nat->Rat,(∀ i,i<n->sm n (fun t=>C i t*x t)=0)->∀ t,t<n->x t=0):(ecE C n n).cs.length=n:=by
 have f:=(V6 C n n).1
 refine aR fun e=>?_
 obtain ⟨x,⟨t,ht,hx⟩,h0⟩:∃ x:Nat->Rat,(∃ t,t<n/\x t≠0)/\∀ i,i<n->sm n (fun t=>C i t*x t)=0:=by
  have a:Asc (ecE C n n).cs n:=Ek n ⟨C,[],1⟩ rfl n
  have d:0<(Jh (ecE C n n).cs n).length:=by rw [Rr a];omega
  obtain ⟨b,c⟩:=Lj (ecE C n n).cs n _ (O1 d)
  refine ⟨B4z (ecE C n n).R (ecE C n n).cs n 0,⟨_,b,?_⟩,fun i g=>Wn (M:=C) (n:=n) (w:=n) d g⟩
  unfold B4z
  rw [Wa c _ (aC _)]
  decide
 exact hx (h x h0 t ht)
def Jd{C:Nat->Nat->Rat}{n:Nat}(h:(ecE C n n).cs.length=n):Mh (fl C n) n:=by
 have b:=(Pr (n:=n) (w:=n) (M:=mtx (N5 (fl C n) n) (n+n)) (M':=C) (fun i j _ a=>by
  show N5 (fl C n) n (i*(n+n)+j)=_
  rw [Hc (fl C n) o,iP a]
  exact Fh C a) n (aC n)).1
 show (Ps n ⟨mtx (N5 (fl C n) n) (n+n),[],1⟩ n).cs.length=n
 rw [b];exact h
def Rm{C:Nat->Nat->Rat}{n:Nat}(h:Mh (fl C n) n){i j:Nat}(hi:i<n)(hj:j<n):sm n (fun t=>C i t*Rn (fl C n) n t j)=if i=j then 1 else 0:=by
 rw [<- A2l h hi hj]
 exact C4 fun t a=>by rw [Fh C a]
def V1{n m:Nat}(f:Nat->Rat)(A:Nat->Nat->Rat)(x:Nat->Rat):sm n (fun t=>f t*sm m fun j=>A t j*x j)=sm m fun j=>sm n (fun t=>f t*A t j)*x j:=by
 rw [C4 (g:=fun t=>sm m fun j=>f t*A t j*x j) fun t _=>by rw [<- J9];exact C4 fun j _=>by rw [bW]]
 rw [T6]
 exact C4 fun j _=>L9 _ _ _
structure Blk (s:Nat) (u:Nat->Rat) (B:Nat->Nat->Rat):Prop where
 pos:∀ l,l<s->0<u l
 inv:Mh (fl (gM s u B) s) s
def phM(s:Nat)(u φ:Nat->Rat)(B:Nat->Nat->Rat):Nat->Nat->Rat:=B96 s (Rn (fl (gM s u B) s) s) (fun i j=>sm s fun l=>u l*φ l*(B l i*B l j))
section
variable {s:Nat} {u φ:Nat->Rat} {B:Nat->Nat->Rat}
def Blk.ker(b:Blk s u B){x:Nat->Rat}(h:∀ l,l<s->sm s (fun t=>B l t*x t)=0):∀ t,t<s->x t=0:=by
 refine A8j b.inv (fun i j a c=>by rw [Fh _ a,Fh _ c];exact A2o s s u B i j a c) fun i a=>?_
 rw [C4 (g:=fun t=>sm s fun l=>u l*B l i*(B l t*x t)) fun t e=>by rw [Fh _ e];unfold gM;rw [<- L9];exact C4 fun l _=>gz0]
 rw [T6]
 exact N8 fun l d=>by rw [J9,h l d,aX]
def Blk.eq(b:Blk s u B){x y:Nat->Rat}(h:∀ l,l<s->sm s (fun t=>B l t*x t)=sm s (fun t=>B l t*y t)):∀ t,t<s->x t=y t:=fun t c=>by
 have:=b.ker (x:=fun t=>x t + - y t) (fun l a=>by
  rw [C4 (g:=fun t=>B l t*x t + - (B l t*y t)) fun t _=>gz0,Bi,Ke,h l a]
  grind) t c
 grind
def Blk.full(b:Blk s u B):Mh (fl B s) s:=Jd (Rq fun _ h=>b.ker h)
def duM(s:Nat)(B:Nat->Nat->Rat):Nat->Nat->Rat:=Rn (fl B s) s
def Blk.du(b:Blk s u B){l k:Nat}(hl:l<s)(hk:k<s):sm s (fun t=>B l t*duM s B t k)=if l=k then 1 else 0:=Rm b.full hl hk
def Blk.left(b:Blk s u B){z:Nat->Rat}(h:∀ i,i<s->sm s (fun l=>z l*B l i)=0):∀ l,l<s->z l=0:=fun k a=>by
 have e:sm s (fun l=>z l*sm s fun t=>B l t*duM s B t k)=z k:=by
  rw [U9 a fun l d c=>by rw [b.du d a,iN c,aX],b.du a a,iP rfl,aT]
 rw [<- e,V1]
 exact N8 fun j f=>by rw [h j f,aW]
def Blk.mult(b:Blk s u B)(φ:Nat->Rat){l j:Nat}(hl:l<s)(hj:j<s):sm s (fun t=>B l t*phM s u φ B t j)=φ l*B l j:=by
 have key:=b.left (z:=fun l=>u l*(sm s (fun t=>B l t*phM s u φ B t j) + - (φ l*B l j))) (fun i a=>by
  have e:sm s (fun t=>gM s u B i t*phM s u φ B t j)=sm s fun l=>u l*φ l*(B l i*B l j):=by
   show sm s (fun t=>gM s u B i t*sm s fun f=>Rn (fl (gM s u B) s) s t f*_)=_
   rw [V1,U9 a fun k d c=>by rw [Rm b.inv a d,iN (Ne.symm c),aW],Rm b.inv a a,iP rfl,aZ]
  have m:sm s (fun t=>gM s u B i t*phM s u φ B t j)=sm s fun l=>u l*B l i*sm s fun t=>B l t*phM s u φ B t j:=by
   rw [C4 (g:=fun t=>sm s fun l=>u l*B l i*(B l t*phM s u φ B t j)) fun t _=>by unfold gM;rw [<- L9];exact C4 fun l _=>gz0]
   rw [T6]
   exact C4 fun l _=>J9 _ _ _
  rw [C4 (g:=fun l=>u l*B l i*(sm s fun t=>B l t*phM s u φ B t j) + - (u l*φ l*(B l i*B l j))) fun l _=>gz0,Bi,Ke,<- e,<- m]
  grind) l hl
 have:=b.pos l hl
 grind
def Blk.pow(b:Blk s u B)(φ:Nat->Rat)(h1:1<=s)(h0:∀ l,l<s->B l 0=1):∀ k l,l<s->sm s (fun t=>B l t*kpw (phM s u φ B) s k t)=φ l^k:=by
 intro k
 induction k with
 | zero=>
  intro l a
  rw [U9 (k:=0) o fun t _ c=>by show B l t*(if t=0 then 1 else 0)=0;rw [iN c,aX]]
  show B l 0*(if 0=0 then 1 else 0)=_
  rw [iP rfl,h0 l a,bI,aZ]
 | succ k ih=>
  intro l a
  show sm s (fun t=>B l t*sm s fun j=>phM s u φ B t j*kpw (phM s u φ B) s k j)=_
  rw [V1,C4 (g:=fun j=>φ l*(B l j*kpw (phM s u φ B) s k j)) fun j d=>by rw [b.mult φ a d,bW],J9,ih l a,bX,Rat.mul_comm]
def Blk.kpw_eq(b:Blk s u B)(φ:Nat->Rat)(h1:1<=s)(h0:∀ l,l<s->B l 0=1)(k:Nat):∀ t,t<s->kpw (phM s u φ B) s k t=sm s fun l=>duM s B t l*φ l^k:=by
 refine b.eq fun l a=>?_
 rw [b.pow φ h1 h0 k l a,V1,U9 a fun m d c=>by rw [b.du a d,iN (Ne.symm c),aW],b.du a a,iP rfl,aZ]
def Blk.ph_eq(b:Blk s u B)(φ:Nat->Rat){j:Nat}(hj:j<s):∀ t,t<s->phM s u φ B t j=sm s fun l=>duM s B t l*(φ l*B l j):=by
 refine b.eq fun l a=>?_
 rw [b.mult φ a hj,V1,U9 a fun m d c=>by rw [b.du a d,iN (Ne.symm c),aW],b.du a a,iP rfl,aZ]
end
def Dis(s:Nat)(φ:Nat->Rat):Prop:=∀ k l,k<s->l<s->k≠l->φ k≠φ l
def pvl(x:Nat->Rat)(n:Nat)(t:Rat):Rat:=sm n fun j=>t^j*x j
def A38{s:Nat}(hs:s<=3){φ:Nat->Rat}(hd:Dis s φ){x:Nat->Rat}(h:∀ l,l<s->pvl x s (φ l)=0):∀ t,t<s->x t=0:=by
 rcases (show s=0\/s=1\/s=2\/s=3 from o) with rfl|rfl|rfl|rfl
 ·intro t f;omega
 ·intro t f
  obtain rfl:t=0:=o
  have:=h 0 o
  simp only [pvl,sm] at this
  grind
 ·have e:=h 0 o
  have c:=h 1 o
  have d:=hd 0 1 o o o
  simp only [pvl,sm] at e c
  have j:x 1=0:=gz0
  intro t f
  rcases (show t=0\/t=1 from o) with rfl|rfl<;>grind
 ·have e:=h 0 o
  have c:=h 1 o
  have k:=h 2 o
  have m:=hd 0 1 o o o
  have i:=hd 0 2 o o o
  have g:=hd 1 2 o o o
  simp only [pvl,sm] at e c k
  have a:x 1+(φ 0+φ 1)*x 2=0:=by
   have:(φ 0-φ 1)*(x 1+(φ 0+φ 1)*x 2)=0:=gz0
   grind
  have b:x 1+(φ 0+φ 2)*x 2=0:=by
   have:(φ 0-φ 2)*(x 1+(φ 0+φ 2)*x 2)=0:=gz0
   grind
  have n:x 2=0:=gz0
  have j:x 1=0:=gz0
  intro t f
  rcases (show t=0\/t=1\/t=2 from o) with rfl|rfl|rfl<;>grind
def Ua{s:Nat}(hs:s<=3){φ:Nat->Rat}(hd:Dis s φ){x y:Nat->Rat}(h:∀ l,l<s->pvl x s (φ l)=pvl y s (φ l)):∀ t,t<s->x t=y t:=fun t b=>by
 have:=A38 hs hd (x:=fun t=>x t + - y t) (fun l a=>by
  have:=h l a
  unfold pvl at *
  rw [C4 (g:=fun j=>φ l^j*x j + - (φ l^j*y j)) fun j _=>gz0,Bi,Ke,this]
  grind) t b
 grind
section
variable {s:Nat} {u φ:Nat->Rat} {B:Nat->Nat->Rat}
def Blk.col(b:Blk s u B)(φ:Nat->Rat)(h1:1<=s)(h0:∀ l,l<s->B l 0=1)(x:Nat->Rat){n l:Nat}(hl:l<s):sm s (fun t=>B l t*sm n fun j=>Ls (kpw (phM s u φ B) s) t j*x j)=pvl x n (φ l):=by
 rw [V1]
 exact C4 fun j _=>by rw [show sm s (fun t=>B l t*Ls (kpw (phM s u φ B) s) t j)=φ l^j from b.pow φ h1 h0 j l hl]
def Blk.deg(b:Blk s u B)(h1:1<=s)(hs:s<=3)(h0:∀ l,l<s->B l 0=1)(hd:Dis s φ):Hq (phM s u φ B) s=s:=
 Rq fun x d=>A38 hs hd fun l a=>by
  rw [<- b.col φ h1 h0 x a]
  exact N8 fun t c=>by rw [d t c,aX]
def Blk.dis(b:Blk s u B)(h1:1<=s)(h0:∀ l,l<s->B l 0=1)(hd:Hq (phM s u φ B) s=s):Dis s φ:=fun k l c g a e=>by
 have inv:=Jd (C:=Ls (kpw (phM s u φ B) s)) (n:=s) hd
 have row:∀ k,k<s->∀ m,m<s->pvl (fun j=>Rn (fl (Ls (kpw (phM s u φ B) s)) s) s j m) s (φ k)=B k m:=fun k c m d=>by
  rw [<- b.col φ h1 h0 _ c,U9 d fun t f a=>by rw [Rm inv f d,iN a,aX],Rm inv d d,iP rfl,aT]
 have i:sm s (fun t=>B k t*duM s B t k)=sm s (fun t=>B l t*duM s B t k):=C4 fun t f=>by rw [<- row k c t f,<- row l g t f,e]
 rw [b.du c c,b.du g c,iP rfl,iN (Ne.symm a)] at i
 exact absurd i dc
def Blk.slv(b:Blk s u B)(h1:1<=s)(h0:∀ l,l<s->B l 0=1)(hd:Hq (phM s u φ B) s=s)(y:Nat->Rat):Bv (fl (Ls (kpw (phM s u φ B) s)) s) y s s/\∀ l,l<s->pvl (Pc (fl (Ls (kpw (phM s u φ B) s)) s) y s s) s (φ l)=sm s fun t=>B l t*y t:=by
 have inv:=Jd (C:=Ls (kpw (phM s u φ B) s)) (n:=s) hd
 have ok:Bv (fl (Ls (kpw (phM s u φ B) s)) s) y s s:=A72 (fun j=>sm s fun m=>Rn (fl (Ls (kpw (phM s u φ B) s)) s) s j m*y m) fun i a=>by
  rw [C4 (g:=fun j=>Ls (kpw (phM s u φ B) s) i j*sm s fun m=>Rn (fl (Ls (kpw (phM s u φ B) s)) s) s j m*y m) fun j c=>by rw [Fh _ c],V1,U9 a fun m e d=>by rw [Rm inv a e,iN (Ne.symm d),aW],Rm inv a a,iP rfl,aZ]
 refine ⟨ok,fun l f=>?_⟩
 rw [<- b.col φ h1 h0 _ f]
 exact C4 fun t k=>by
  rw [<- A71 ok k]
  exact congrArg _ (C4 fun j c=>by rw [Fh _ c])
def C0d{s:Nat}(h1:1<=s)(hs:s<=3){φ:Nat->Rat}(hd:Dis s φ){x:Nat->Rat}(hx:∀ l,l<s->pvl x s (φ l)=φ l^s):
 let P:=fun i=>if i=s then (1:Rat) else-x i
 ∀ k,k<2*s-1->ps P s k=sm s fun l=>φ l^k:=by
 intro P
 have d:∀ i,i<s->P i= - x i:=fun i r=>iN o
 rcases (show s=1\/s=2\/s=3 from o) with rfl|rfl|rfl
 ·intro k n
  obtain rfl:k=0:=o
  show ((1:Nat):Rat)=_
  simp only [sm,bI];decide +kernel
 ·have e:=Ua o hd (x:=x) (y:=fun i=>if i=0 then-(φ 0*φ 1) else φ 0+φ 1) (fun l j=>by
   rw [hx l j]
   simp only [pvl,sm]
   rcases (show l=0\/l=1 from o) with rfl|rfl<;>simp<;>grind)
  have c:=e 0 o
  have a:=e 1 o
  rw [iP rfl] at c
  rw [iN o] at a
  have m:ps P 2 0=2:=rfl
  have b:ps P 2 1=φ 0+φ 1:=by
   rw [Iw]
   simp [psT,d,a]
   grind
  have f:ps P 2 2=φ 0^2+φ 1^2:=by
   rw [Iw]
   simp [psT,d,c,a,b]
   grind
  intro k n
  rcases (show k=0\/k=1\/k=2 from o) with rfl|rfl|rfl<;>simp only [sm,m,b,f]<;>grind
 ·have e:=Ua o hd (x:=x) (y:=fun i=>if i=0 then φ 0*φ 1*φ 2 else if i=1 then-(φ 0*φ 1+φ 0*φ 2+φ 1*φ 2) else φ 0+φ 1+φ 2) (fun l j=>by
   rw [hx l j]
   simp only [pvl,sm]
   rcases (show l=0\/l=1\/l=2 from o) with rfl|rfl|rfl<;>simp<;>grind)
  have c:=e 0 o
  have a:=e 1 o
  have g:=e 2 o
  simp at c a g
  have m:ps P 3 0=3:=rfl
  have b:ps P 3 1=φ 0+φ 1+φ 2:=by
   rw [Iw]
   simp [psT,d,g]
   grind
  have f:ps P 3 2=φ 0^2+φ 1^2+φ 2^2:=by
   rw [Iw]
   simp [psT,d,a,g,b]
   grind
  have p:ps P 3 3=φ 0^3+φ 1^3+φ 2^3:=by
   rw [Iw]
   simp [psT,d,c,a,g,b,f]
   grind
  have q:ps P 3 4=φ 0^4+φ 1^4+φ 2^4:=by
   rw [Iw]
   simp [psT,d,c,a,g,b,f,p]
   grind
  intro k n
  rcases (show k=0\/k=1\/k=2\/k=3\/k=4 from o) with rfl|rfl|rfl|rfl|rfl<;>simp only [sm,m,b,f,p,q]<;>grind
end
def Yy(q:Rat)(n:Nat):(q^n).num=q.num^n/\(q^n).den=q.den^n:=⟨Rat.num_pow q n,Rat.den_pow q n⟩
def ZB.pow{m:Nat}{x:Int}(h:ZB m x)(hm:1<=m)(n:Nat):ZB (m*n+1) (x^n):=by
 unfold ZB
 rw [Int.natAbs_pow]
 exact A59 h hm n
def Sz.pow{m:Nat}{q:Rat}(h:Sz m q)(hm:1<=m)(n:Nat):Sz (m*n+1) (q^n):=by
 obtain ⟨a,b⟩:=Yy q n
 refine ⟨by rw [a];exact h.num.pow hm n,?_⟩
 rw [b,Int.natCast_pow];exact h.den.pow hm n
section
variable {h:aJ} {K:VP} {m:Nat} {a b:List UInt8} {w:QV} {q:Rat}
end
def T7(q:Rat)(a b:Nat):q^(a+b)=q^a*q^b:=by
 induction b with
 | zero=>rw [Nat.add_zero,bI,aT]
 | succ b ih=>rw [<- Nat.add_assoc,bX,bX,ih,bW]
section
variable {h:aJ} {K:VP} {w:QV} {p:Rat} {m:Nat}
def A5t{n:Nat}(i:NQ h w p)(hp:Sz m p)(hm1:1<=m)(hn:n<=1000)(hm:m*n+1<=1000000)(hK:∀ w h',h.le h'->NQ h' w (p^n)->K w.v h'):aP prog 119 #[w.v,I (n:Int)] h K:=by
 refine (fnk func119 [(2,[1],[(2,4),(5,4)],[I 0,.bool false,.slice none 0 0,.bool false,.slice none 0 0,.bool false,.slice none 0 0,.bool false,.slice none 0 0])] (own:=[2,4,5])) ?_
 refine Qu o ?_
 intro w0 B E i0
 refine ⟨_,_,_,_,_,_,_,_,rfl,?_⟩
 refine ⟨fun L hp=>h.le hp/\∃ (a e f:Nat) (v u:QV),(a<=n/\f+e*a=n)/\NQ hp v (p^e)/\NQ hp u (p^f)/\L=I (a:Int)::(qc v++qc u),fun L _=>(iAt L 0).toNat,⟨E,n,1,0,w,w0,⟨aC _,o⟩,by rw [Rat.pow_one];exact i.mono E,by rw [bI];exact i0,rfl⟩,?_⟩
 rintro t a0 S ad af a2 R N aa o0 T ac ae o2 Q W X k ⟨y,a,e,f,v,u,⟨G,F⟩,j,q,C⟩
 simp only [qc,List.cons_append,List.nil_append,aD,aI,aV,aH,true_and,and_true] at C
 obtain ⟨rfl,rfl,⟨rfl,rfl,rfl⟩,rfl,⟨rfl,rfl,rfl⟩,rfl,⟨rfl,rfl,rfl⟩,rfl,rfl,rfl,rfl⟩:=C
 refine C0 (fun g=>?_) (fun g=>?_)
 ·have l:1<=a:=o
  have he:e<=n:=by
   have:e*1<=e*a:=aK e l
   omega
  have hf:f<=n:=o
  have O:Int.tmod (a:Int) 2=((a%2:Nat):Int):=by rw [bU o];omega
  have M:C3 (Int.tdiv (a:Int) 2)=((a/2:Nat):Int):=by rw [Int.tdiv_eq_ediv_of_nonneg o,B9 o o];omega
  have z:m*e+1<=m*n+1:=by have:=aK m he;omega
  have r:m*f+1<=m*n+1:=by have:=aK m hf;omega
  have d:=(hp.pow hm1 e).mono z
  have zf:=(hp.pow hm1 f).mono r
  have D:e*a=(e+e)*(a/2)+e*(a%2):=by
   have:=Nat.div_add_mod a 2
   calc e*a=e*(2*(a/2)+a%2):=by rw [this]
    _=(e+e)*(a/2)+e*(a%2):=by rw [Nat.mul_add,<- Nat.mul_assoc,Nat.mul_comm e 2,Nat.two_mul]
  rw [O,M]
  refine D8 (fun g1=>?_) (fun g1=>?_)
  ·refine Bk q j zf d o ?_
   intro V h2 A H
   refine ⟨_,_,_,_,_,_,_,_,rfl,Bk (j.mono A) (j.mono A) d d o ?_⟩
   intro s h3 c b
   rw [<- T7] at H b
   refine ⟨_,_,_,_,_,_,_,_,rfl,⟨B0 y (B0 A c),a/2,e+e,f+e,s,V,?_,b,H.mono c,rfl⟩,?_⟩
   ·have:a%2=1:=o
    rw [this,Nat.mul_one] at D;exact ⟨o,o⟩
   ·simp [iAt];omega
  ·refine Bk j j d d o ?_
   intro s h3 c b
   rw [<- T7] at b
   refine ⟨_,_,_,_,_,_,_,_,rfl,⟨B0 y c,a/2,e+e,f,s,u,?_,b,q.mono c,rfl⟩,?_⟩
   ·have:a%2=0:=o
    rw [this,Nat.mul_zero] at D;exact ⟨o,o⟩
   ·simp [iAt];omega
 ·have B:a=0:=o
  subst B
  rw [Nat.mul_zero,Nat.add_zero] at F
  subst F
  exact hK u k y q
end
def C1a{s:Nat}(hs:s<=3){φ:Nat->Rat}(hd:Dis s φ)(D:Nat->Nat->Rat)(hD:∀ l m,l<s->m<s->pvl (fun j=>D j m) s (φ l)=if l=m then 1 else 0){H:Nat->Nat->Rat}(hH:∀ i k,i<s->k<s->H i k=sm s fun l=>φ l^(i+k)){u r:Nat->Rat}(hr:∀ i,i<s->r i=sm s fun l=>u l*φ l^i):
 Bv (fl H s) r s s/\∀ l,l<s->pvl (Pc (fl H s) r s s) s (φ l)=u l:=by
 have Hx:∀ x:Nat->Rat,∀ i,i<s->sm s (fun k=>mtx (fl H s) s i k*x k)=sm s fun l=>φ l^i*pvl x s (φ l):=fun x i a=>by
  rw [C4 (g:=fun k=>sm s (fun l=>φ l^i*φ l^k)*x k) fun k f=>by rw [Fh _ f,hH i k a f];exact congrArg (· * x k) (C4 fun l _=>T7 _ _ _),<- V1]
  rfl
 have ok:Bv (fl H s) r s s:=A72 (fun j=>sm s fun m=>D j m*u m) fun i a=>by
  rw [Hx _ i a,hr i a]
  refine C4 fun l d=>?_
  have:pvl (fun j=>sm s fun m=>D j m*u m) s (φ l)=u l:=by
   show sm s (fun j=>φ l^j*sm s fun m=>D j m*u m)=_
   rw [V1,U9 d fun m c b=>by
    have:=hD l m d c
    rw [iN (Ne.symm b)] at this
    show pvl (fun j=>D j m) s (φ l)*u m=0
    rw [this,aW]]
   have:=hD l l d d
   rw [iP rfl] at this
   show pvl (fun j=>D j l) s (φ l)*u l=u l
   rw [this,aZ]
  rw [this,Rat.mul_comm]
 refine ⟨ok,fun m c=>?_⟩
 have n:∀ i,i<s->sm s (fun l=>(pvl (Pc (fl H s) r s s) s (φ l) + - u l)*φ l^i)=0:=fun i a=>by
  have e:=A71 ok a
  rw [Hx _ i a,hr i a] at e
  rw [C4 (g:=fun l=>φ l^i*pvl (Pc (fl H s) r s s) s (φ l) + - (u l*φ l^i)) fun l _=>gz0,Bi,Ke,e]
  grind
 have e:sm s (fun l=>(pvl (Pc (fl H s) r s s) s (φ l) + - u l)*pvl (fun j=>D j m) s (φ l))=pvl (Pc (fl H s) r s s) s (φ m) + - u m:=by
  rw [U9 c fun l d b=>by rw [hD l m d c,iN b,aX],hD m m c c,iP rfl,aT]
 have:sm s (fun l=>(pvl (Pc (fl H s) r s s) s (φ l) + - u l)*pvl (fun j=>D j m) s (φ l))=0:=by
  unfold pvl at n ⊢
  rw [V1]
  exact N8 fun j p=>by rw [n j p,aW]
 grind
def mvl(x:Nat->Rat):List Int->Nat->Rat
 | [],_=>1
 | e::es,i=>x i^e.toNat*mvl x es (i+1)
def ptV(s:Nat)(u:Nat->Rat)(y:Nat->Nat->Rat)(v D:Nat):Nat->Rat:=fun i=>sm s fun l=>u l*mvl (y l) (mon v D i) 0
def wV(y:Nat->Nat->Rat)(v d:Nat):Nat->Nat->Rat:=fun l i=>mvl (y l) (mon v d i) 0
def B4r(x:Nat->Rat)(a:Int):mvl x [a] 0=x 0^a.toNat:=by simp [mvl]
def A9x(x:Nat->Rat)(a b:Int):mvl x [a,b] 0=x 0^a.toNat*x 1^b.toNat:=by simp [mvl]
def B4q(x:Nat->Rat){a b:List Int}(hl:a.length=b.length)(h:a.length=1\/a.length=2)(ha:∀ z∈a,0<=z)(hb:∀ z∈b,0<=z):mvl x (opL (fun x y=>x+y) a b) 0=mvl x a 0*mvl x b 0:=by
 rcases h with h|h
 ·obtain ⟨c,rfl⟩:=List.length_eq_one_iff.1 h
  obtain ⟨b0,rfl⟩:=List.length_eq_one_iff.1 (hl▸h)
  have e:opL (fun x y=>x+y) [c] [b0]=[c+b0]:=rfl
  have:=ha c (by simp);have:=hb b0 (by simp)
  rw [e,B4r,B4r,B4r,<- T7,aM o o]
 ·obtain ⟨c,a1,rfl⟩:∃ c a1,a=[c,a1]:=by
   match a,h with
   | [c,a1],_=>exact ⟨c,a1,rfl⟩
  obtain ⟨b0,b1,rfl⟩:∃ b0 b1,b=[b0,b1]:=by
   match b,hl with
   | [b0,b1],_=>exact ⟨b0,b1,rfl⟩
  have e:opL (fun x y=>x+y) [c,a1] [b0,b1]=[c+b0,a1+b1]:=rfl
  have:=ha c (by simp);have:=hb b0 (by simp);have:=ha a1 (by simp);have:=hb b1 (by simp)
  rw [e,A9x,A9x,A9x,aM o o,aM o o,T7,T7]
  grind
section
variable {s:Nat} {u:Nat->Rat} {y:Nat->Nat->Rat} {v d D:Nat}
def Gh(h1:1<=v)(h2:v<=2)(hD:D<=6){k:Nat}(hk:k<(mo v D).length):(mon v D k).length=v/\∀ z∈mon v D k,0<=z:=
 ⟨((T4 h1 h2 hD).val k hk).2.1,fun z a=>((mz h1 h2 hD hk).bnd z a).1⟩
def B7u(s:Nat)(u:Nat->Rat)(y:Nat->Nat->Rat)(h1:1<=v)(h2:v<=2)(hd:d<=3)(hD:D<=6)(hdD:2*d<=D){i j:Nat}(hi:i<nM v d)(hj:j<nM v d):Rh (ptV s u y v D) v d i j=gM s u (wV y v d) i j:=by
 have q:=Y8 h1 h2 hd hD hdD hi hj
 obtain ⟨c,a⟩:=Gh h1 h2 (show d<=6 from o) hi
 obtain ⟨e,b⟩:=Gh h1 h2 (show d<=6 from o) hj
 unfold Rh ptV gM wV
 rw [<- q.eq]
 exact C4 fun l _=>by rw [B4q _ o o a b]
end
def PtD(s v:Nat)(y:Nat->Nat->Rat):Prop:=∀ k l,k<s->l<s->k≠l->∃ i,i<v/\y k i≠y l i
def unL(v a:Nat):List Int:=(bO v).map fun i=>if i=a then 1 else 0
def C1b(v a b:Nat):List Int:=(bO v).map fun i=>(if i=a then 1 else 0)+if i=b then 1 else 0
def A2m:∀ v:Fin 3,∀ d:Fin 4,1<=v.val->(mon v d 0=(bO v).map fun _=>0)/\(1<=d.val->∀ a:Fin 2,a.val<v.val->∃ i:Fin 10,i.val<nM v d/\mon v d i=unL v a)/\(2<=d.val->∀ a b:Fin 2,a.val<v.val->b.val<v.val->∃ i:Fin 10,i.val<nM v d/\mon v d i=C1b v a b):=by decide +kernel
section
variable {s v d:Nat} {y:Nat->Nat->Rat}
def Rep(s v d:Nat)(y:Nat->Nat->Rat)(f:Nat->Rat):Prop:=∃ q:Nat->Rat,∀ l,l<s->sm (nM v d) (fun i=>wV y v d l i*q i)=f l
def Rep.congr{f g:Nat->Rat}(r:Rep s v d y f)(h:∀ l,l<s->f l=g l):Rep s v d y g:=by
 obtain ⟨q,b⟩:=r
 exact ⟨q,fun l a=>by rw [b l a,h l a]⟩
def Rep.add{f g:Nat->Rat}(r:Rep s v d y f)(t:Rep s v d y g):Rep s v d y (fun l=>f l+g l):=by
 obtain ⟨q,c⟩:=r
 obtain ⟨p,b⟩:=t
 refine ⟨fun i=>q i+p i,fun l a=>?_⟩
 dsimp only
 rw [<- c l a,<- b l a,<- Bi]
 exact C4 fun i _=>Rat.mul_add _ _ _
def Rep.mul{f:Nat->Rat}(c:Rat)(r:Rep s v d y f):Rep s v d y (fun l=>c*f l):=by
 obtain ⟨q,b⟩:=r
 refine ⟨fun i=>c*q i,fun l a=>?_⟩
 dsimp only
 rw [<- b l a,<- J9]
 exact C4 fun i _=>by grind
def Rep.mon{i:Nat}(hi:i<nM v d):Rep s v d y (fun l=>wV y v d l i):=by
 refine ⟨fun j=>if j=i then 1 else 0,fun l _=>?_⟩
 dsimp only
 rw [U9 hi fun j _ a=>by rw [iN a,aX],iP rfl,aT]
def A1f(h1:1<=v)(h2:v<=2)(hd:d<=3)(l:Nat):wV y v d l 0=1:=by
 have:=(A2m ⟨v,o⟩ ⟨d,o⟩ h1).1
 dsimp only at this
 unfold wV
 rw [this]
 rcases (show v=1\/v=2 from o) with rfl|rfl
 ·show mvl (y l) [0] 0=1
  simp [mvl]
 ·show mvl (y l) [0,0] 0=1
  simp [mvl]
def Rep.one(h1:1<=v)(h2:v<=2)(hd:d<=3):Rep s v d y (fun _=>1):=(Rep.mon (A2f h1 h2 hd).1).congr fun l _=>A1f h1 h2 hd l
def Rep.var(h1:1<=v)(h2:v<=2)(hd:d<=3)(hd1:1<=d){a:Nat}(ha:a<v):Rep s v d y (fun l=>y l a):=by
 obtain ⟨i,b,e⟩:=(A2m ⟨v,o⟩ ⟨d,o⟩ h1).2.1 hd1 ⟨a,o⟩ ha
 dsimp only at b e
 refine (Rep.mon b).congr fun l _=>?_
 unfold wV
 rw [e]
 rcases (show v=1\/v=2 from o) with rfl|rfl
 ·obtain rfl:a=0:=o
  show mvl (y l) [1] 0=_
  simp [mvl]
 ·rcases (show a=0\/a=1 from o) with rfl|rfl
  ·show mvl (y l) [1,0] 0=_
   simp [mvl]
  ·show mvl (y l) [0,1] 0=_
   simp [mvl]
def B2a(h1:1<=v)(h2:v<=2)(hd:d<=3)(hd1:2<=d){a b:Nat}(ha:a<v)(hb:b<v):Rep s v d y (fun l=>y l a*y l b):=by
 obtain ⟨i,c,e⟩:=(A2m ⟨v,o⟩ ⟨d,o⟩ h1).2.2 hd1 ⟨a,o⟩ ⟨b,o⟩ ha hb
 dsimp only at c e
 refine (Rep.mon c).congr fun l _=>?_
 unfold wV
 rw [e]
 rcases (show v=1\/v=2 from o) with rfl|rfl
 ·obtain rfl:a=0:=o
  obtain rfl:b=0:=o
  show mvl (y l) [2] 0=_
  simp [mvl];grind
 ·rcases (show a=0\/a=1 from o) with rfl|rfl<;>rcases (show b=0\/b=1 from o) with rfl|rfl
  ·show mvl (y l) [2,0] 0=_
   simp [mvl];grind
  ·show mvl (y l) [1,1] 0=_
   simp [mvl]
  ·show mvl (y l) [1,1] 0=_
   simp [mvl];grind
  ·show mvl (y l) [0,2] 0=_
   simp [mvl];grind
def Rep.aff(h1:1<=v)(h2:v<=2)(hd:d<=3)(hd1:1<=d){a:Nat}(ha:a<v)(c:Rat):Rep s v d y (fun l=>y l a-c):=
 ((Rep.var h1 h2 hd hd1 ha).add ((Rep.one h1 h2 hd).mul (-c))).congr fun l _=>by grind
def B2b(h1:1<=v)(h2:v<=2)(hd:d<=3)(hd1:2<=d){a b:Nat}(ha:a<v)(hb:b<v)(c e:Rat):Rep s v d y (fun l=>(y l a-c)*(y l b-e)):=
 (((B2a h1 h2 hd hd1 ha hb).add ((Rep.var h1 h2 hd o ha).mul (-e))).add (((Rep.var h1 h2 hd o hb).mul (-c)).add ((Rep.one h1 h2 hd).mul (c*e)))).congr fun l _=>by grind
def A9n(h1:1<=v)(h2:v<=2)(hd:d<=3)(hs:s<=3)(hsd:s<=d+1)(hy:PtD s v y){k:Nat}(hk:k<s):Rep s v d y (fun l=>if l=k then 1 else 0):=by
 have one:∀ k l,k<s->l<s->k≠l->s=2->Rep s v d y (fun m=>if m=k then 1 else 0):=fun k l hk f hkl e=>by
  obtain ⟨a,j,g⟩:=hy k l hk f hkl
  refine ((Rep.aff h1 h2 hd o j (y l a)).mul (y k a-y l a)⁻¹).congr fun m n=>?_
  by_cases h:m=k
  ·rw [iP h,h]
   exact Rat.inv_mul_cancel _ gz0
  ·rw [iN h]
   obtain rfl:m=l:=o
   grind
 have c:∀ k l m,k<s->l<s->m<s->k≠l->k≠m->l≠m->s=3->Rep s v d y (fun t=>if t=k then 1 else 0):=fun k l m hk f n hkl i q e=>by
  obtain ⟨a,j,g⟩:=hy k l hk f hkl
  obtain ⟨b,r,p⟩:=hy k m hk n i
  refine ((B2b h1 h2 hd o j r (y l a) (y m b)).mul ((y k a-y l a)*(y k b-y m b))⁻¹).congr fun t u=>?_
  by_cases h:t=k
  ·rw [iP h,h]
   exact Rat.inv_mul_cancel _ gz0
  ·rw [iN h]
   rcases (show t=l\/t=m from o) with rfl|rfl<;>grind
 rcases (show s=1\/s=2\/s=3 from o) with rfl|rfl|rfl
 ·exact (Rep.one h1 h2 hd).congr fun l f=>by rw [iP o]
 ·rcases (show k=0\/k=1 from o) with rfl|rfl
  ·exact one 0 1 o o o rfl
  ·exact one 1 0 o o o rfl
 ·rcases (show k=0\/k=1\/k=2 from o) with rfl|rfl|rfl
  ·exact c 0 1 2 o o o o o o rfl
  ·exact c 1 0 2 o o o o o o rfl
  ·exact c 2 0 1 o o o o o o rfl
def B7t{u:Nat->Rat}(h1:1<=v)(h2:v<=2)(hd:d<=3)(hs:s<=3)(hsd:s<=d+1)(hy:PtD s v y)(hu:∀ l,l<s->0<u l):Ptw s (nM v d) u (wV y v d):=by
 have h:∀ k,∃ q:Nat->Rat,k<s->∀ l,l<s->sm (nM v d) (fun i=>wV y v d l i*q i)=if l=k then 1 else 0:=fun k=>by
  by_cases a:k<s
  ·obtain ⟨q,c⟩:=A9n h1 h2 hd hs hsd hy a
   exact ⟨q,fun _=>c⟩
  ·exact ⟨fun _=>0,fun h=>absurd h a⟩
 exact ⟨hu,fun k=>Classical.choose (h k),fun l k b a=>Classical.choose_spec (h k) a l b⟩
end
def B1e{M:Nat->Nat->Rat}{n:Nat}(hn:1<=n)(h0:M 0 0≠0):∀ c,1<=(ecE M n (c+1)).cs.length/\(ecE M n (c+1)).cs.getD 0 0=0:=by
 intro c
 induction c with
 | zero=>
  have e:ecE M n 1=Cp n 0 ⟨M,[],1⟩:=rfl
  have a:Iu n 0 ⟨M,[],1⟩=0:=Uo _ (aC _) o (fun j _ b=>o) fun _=>by simpa using h0
  rw [e]
  unfold Cp
  rw [iP (show ([]:List Nat).length<n from hn),a,iP o]
  exact ⟨aC _,rfl⟩
 | succ c ih=>
  have e:ecE M n (c+1+1)=Cp n (c+1) (ecE M n (c+1)):=rfl
  rw [e]
  generalize ecE M n (c+1)=s at *
  unfold Cp
  split
  ·split
   ·refine ⟨by simp,?_⟩
    show (s.cs++[c+1]).getD 0 0=0
    rw [Lc _ _ 0 o];exact ih.2
   ·exact ih
  ·exact ih
structure Pts (s v:Nat) (u:Nat->Rat) (y:Nat->Nat->Rat):Prop where
 s1:1<=s
 s3:s<=3
 v1:1<=v
 v2:v<=2
 dif:PtD s v y
 pos:∀ l,l<s->0<u l
def bB(V:Nat->Rat)(y:Nat->Nat->Rat)(v d:Nat):Nat->Nat->Rat:=fun l t=>wV y v d l ((pvL V v d).getD t 0)
section
variable {s v d D:Nat} {u:Nat->Rat} {y:Nat->Nat->Rat}
def Pts.mom(p:Pts s v u y)(hd:d<=3)(hD:D<=6)(hdD:2*d<=D){i j:Nat}(hi:i<nM v d)(hj:j<nM v d):Rh (ptV s u y v D) v d i j=gM s u (wV y v d) i j:=B7u s u y p.v1 p.v2 hd hD hdD hi hj
def Pts.cs(p:Pts s v u y)(hd:d<=3)(hD:D<=6)(hdD:2*d<=D):pvL (ptV s u y v D) v d=(ecE (gM s u (wV y v d)) (nM v d) (nM v d)).cs:=(Pr (n:=nM v d) (w:=nM v d) (fun i j b a=>p.mom hd hD hdD b a) _ (aC _)).1
def Pts.rk(p:Pts s v u y)(hd:d<=3)(hD:D<=6)(hdD:2*d<=D)(hs:s<=d+1):rkM (ptV s u y v D) v d=s:=by
 have h:=(B7t (d:=d) p.v1 p.v2 hd p.s3 hs p.dif p.pos).rank
 rw [<- p.cs hd hD hdD] at h
 exact h
def Pts.psd(p:Pts s v u y)(hd:d<=3)(hD:D<=6)(hdD:2*d<=D):psd (ptV s u y v D) v d:=
 B51 (s:=s) (u:=u) (fun l b=>Rat.le_of_lt (p.pos l b)) (wV y v d) fun i j c a=>by rw [Fh _ a,p.mom hd hD hdD c a]
def Pts.lt(p:Pts s v u y)(hd:d<=3)(V:Nat->Rat)(t:Nat):(pvL V v d).getD t 0<nM v d:=by
 by_cases h:t<rkM V v d
 ·exact Ko V v d h
 ·have:=(A2f p.v1 p.v2 hd).1
  rw [List.getD_eq_getElem?_getD,List.getElem?_eq_none (by unfold rkM at h;unfold pvL;omega)]
  exact this
def Pts.sq(p:Pts s v u y)(hd:d<=3)(hD:D<=6)(hdD:2*d<=D):sqM (ptV s u y v D) v d=gM s u (bB (ptV s u y v D) y v d):=
 funext fun i=>funext fun j=>p.mom hd hD hdD (p.lt hd _ i) (p.lt hd _ j)
def Pts.blk(p:Pts s v u y)(hd:d<=3)(hD:D<=6)(hdD:2*d<=D)(hs:s<=d+1):Blk s u (bB (ptV s u y v D) y v d):=by
 have h:=A6z (V:=ptV s u y v D) p.v1 p.v2 hd hD hdD
 rw [p.rk hd hD hdD hs,p.sq hd hD hdD] at h
 exact ⟨p.pos,h⟩
def Pts.b0(p:Pts s v u y)(hd:d<=3)(hD:D<=6)(hdD:2*d<=D)(l:Nat):bB (ptV s u y v D) y v d l 0=1:=by
 have f:=(A2f p.v1 p.v2 hd).1
 have a:gM s u (wV y v d) 0 0≠0:=by
  have e:gM s u (wV y v d) 0 0=sm s fun l=>u l:=C4 fun l _=>by rw [A1f p.v1 p.v2 hd,aT,aT]
  rw [e]
  intro c
  have:=Cq (fun l b=>Rat.le_of_lt (p.pos l b)) (by rw [c];exact Rat.le_refl) 0 p.s1
  have:=p.pos 0 p.s1
  grind
 unfold bB
 rw [p.cs hd hD hdD,show nM v d=nM v d-1+1 from o]
 have:=(B1e (n:=nM v d-1+1) o a (nM v d-1)).2
 rw [this]
 exact A1f p.v1 p.v2 hd l
def phi(F:Nat->Rat)(y:Nat->Nat->Rat)(v:Nat):Nat->Rat:=fun l=>sm v fun j=>F j*y l j
def B83(x:Nat->Rat){a b:List Int}{v j:Nat}(hv:v=1\/v=2)(ha:a.length=v)(hb:b.length=v)(hj:j<v)(pa:∀ z∈a,0<=z)(pb:∀ z∈b,0<=z):mvl x (mpx a b j) 0=x j*(mvl x a 0*mvl x b 0):=by
 rcases hv with rfl|rfl
 ·obtain ⟨c,rfl⟩:=List.length_eq_one_iff.1 ha
  obtain ⟨b0,rfl⟩:=List.length_eq_one_iff.1 hb
  obtain rfl:j=0:=o
  have e:mpx [c] [b0] 0=[c+b0+1]:=rfl
  have:=pa c (by simp);have:=pb b0 (by simp)
  rw [e,B4r,B4r,B4r,aM o o,aM o o,T7,T7]
  simp
  grind
 ·obtain ⟨c,a1,rfl⟩:∃ c a1,a=[c,a1]:=by
   match a,ha with
   | [c,a1],_=>exact ⟨c,a1,rfl⟩
  obtain ⟨b0,b1,rfl⟩:∃ b0 b1,b=[b0,b1]:=by
   match b,hb with
   | [b0,b1],_=>exact ⟨b0,b1,rfl⟩
  have:=pa c (by simp);have:=pb b0 (by simp);have:=pa a1 (by simp);have:=pb b1 (by simp)
  rcases (show j=0\/j=1 from o) with rfl|rfl
  ·have e:mpx [c,a1] [b0,b1] 0=[c+b0+1,a1+b1]:=rfl
   rw [e,A9x,A9x,A9x,aM o o,aM o o,aM o o,T7,T7,T7]
   simp
   grind
  ·have e:mpx [c,a1] [b0,b1] 1=[c+b0,a1+b1+1]:=rfl
   rw [e,A9x,A9x,A9x,aM o o,aM o o,aM o o,T7,T7,T7]
   simp
   grind
def Pts.val(p:Pts s v u y)(hd:d<=2)(hD:D<=6)(hdD:2*d+2<=D)(F:Nat->Rat)(i k:Nat):A4q (ptV s u y v D) F v d i k=sm s fun l=>u l*phi F y v l*(bB (ptV s u y v D) y v d l i*bB (ptV s u y v D) y v d l k):=by
 have c:=p.lt (d:=d) o (ptV s u y v D) i
 have a:=p.lt (d:=d) o (ptV s u y v D) k
 obtain ⟨m,g⟩:=Gh p.v1 p.v2 (show d<=6 from o) c
 obtain ⟨f,q⟩:=Gh p.v1 p.v2 (show d<=6 from o) a
 have e:∀ j,j<v->F j*ptV s u y v D (mi3 (bdr (ptV s u y v D) v d i) (bdr (ptV s u y v D) v d k) j)=sm s fun l=>F j*y l j*(u l*(bB (ptV s u y v D) y v d l i*bB (ptV s u y v D) y v d l k)):=fun j b=>by
  have n:=mu3 p.v1 p.v2 hd hD o c a b
  rw [show ptV s u y v D (mi3 (bdr (ptV s u y v D) v d i) (bdr (ptV s u y v D) v d k) j)=sm s fun l=>u l*mvl (y l) (mpx (bdr (ptV s u y v D) v d i) (bdr (ptV s u y v D) v d k) j) 0 by
   show (sm s fun l=>u l*mvl (y l) (mon v D (mi3 (mon v d ((pvL (ptV s u y v D) v d).getD i 0)) (mon v d ((pvL (ptV s u y v D) v d).getD k 0)) j)) 0)=_
   rw [<- n.eq];rfl,<- J9]
  exact C4 fun l _=>by
   show _*(_*mvl (y l) (mpx (mon v d _) (mon v d _) j) 0)=_
   rw [B83 (y l) (by have:=p.v1;have:=p.v2;omega) m f b g q]
   show _=_*(_*(mvl (y l) (mon v d _) 0*mvl (y l) (mon v d _) 0))
   grind
 show (sm v fun j=>F j*_)=_
 rw [C4 e,T6]
 refine C4 fun l _=>?_
 rw [L9]
 show phi F y v l*_=_
 grind
def Pts.fm(p:Pts s v u y)(hd:d<=2)(hD:D<=6)(hdD:2*d+2<=D)(hs:s<=d+1)(F:Nat->Rat):fmM (ptV s u y v D) F v d=phM s u (phi F y v) (bB (ptV s u y v D) y v d):=by
 unfold fmM phM ivM
 rw [p.rk o hD o hs,p.sq o hD o,show A4q (ptV s u y v D) F v d=fun i k=>sm s fun l=>u l*phi F y v l*(bB (ptV s u y v D) y v d l i*bB (ptV s u y v D) y v d l k) from funext fun i=>funext fun k=>p.val hd hD hdD F i k]
end
def B1c(P:Nat->Prop):∀ c,P c->∃ N,N<=c/\P N/\∀ k,k<N->¬ P k:=by
 intro c
 induction c using Nat.strongRecOn with
 | _ c ih=>
  intro f
  by_cases h:∃ k,k<c/\P k
  ·obtain ⟨k,a,b⟩:=h
   obtain ⟨N,g,d,e⟩:=ih k a b
   exact ⟨N,o,d,e⟩
  ·exact ⟨c,aC _,f,fun k a b=>h ⟨k,a,b⟩⟩
def A3h{C:Nat->Nat->Rat}{b:Nat->Rat}{s m:Nat}(hm:1<=m)(hC:∀ i j,i<s->j<s->Sz m (C i j))(hb:∀ i,i<s->Sz m (b i))(j:Nat):Sz (7^s*m) (Pc (fl C s) b s s j):=by
 refine A73 (m:=m) (Vx s m hm) (fun i j a c=>?_) j
 refine (B8k (M:=mtx (P8 (fl C s) b s) (s+1)) (n:=s) (w:=s+1) (m:=m) (fun i j a c=>?_) hm o (aC _)).1 i j a c
 exact Vg (rows:=s) (fun i a=>hC _ _ (Nat.div_lt_of_lt_mul a) (Nat.mod_lt _ (by rcases Nat.eq_zero_or_pos s with rfl|h<;>omega))) hb _ (Q4 a c)
section
variable {s v d D:Nat} {u:Nat->Rat} {y:Nat->Nat->Rat}
def Iy(c:Nat)(y:Nat->Nat->Rat)(l:Nat):phi (frm c) y 1 l=y l 0/\phi (frm c) y 2 l=y l 0+(c:Rat)*y l 1:=by
 refine ⟨?_,?_⟩
 ·show 0+(1:Rat)*y l 0=_
  grind
 ·show 0+(1:Rat)*y l 0+(c:Rat)*1*y l 1=_
  grind
def B4p{φ:Nat->Rat}(hs:s<=3)(h:¬ Dis s φ):(2<=s/\φ 0=φ 1)\/(3<=s/\φ 0=φ 2)\/(3<=s/\φ 1=φ 2):=by
 refine aR fun b=>h fun k l d c a e=>b ?_
 rcases (show k=0\/k=1\/k=2 from o) with rfl|rfl|rfl<;>rcases (show l=0\/l=1\/l=2 from o) with rfl|rfl|rfl
 ·exact absurd rfl a
 ·exact .inl ⟨o,e⟩
 ·exact .inr (.inl ⟨o,e⟩)
 ·exact .inl ⟨o,e.symm⟩
 ·exact absurd rfl a
 ·exact .inr (.inr ⟨o,e⟩)
 ·exact .inr (.inl ⟨o,e.symm⟩)
 ·exact .inr (.inr ⟨o,e.symm⟩)
 ·exact absurd rfl a
def Pts.dis(p:Pts s v u y):∃ c,c<=3/\Dis s (phi (frm c) y v):=by
 have v1:=p.v1;have v2:=p.v2
 rcases (show v=1\/v=2 from o) with rfl|rfl
 ·refine ⟨0,o,fun k l t z f e=>?_⟩
  rw [(Iy 0 y k).1,(Iy 0 y l).1] at e
  obtain ⟨i,hi,h⟩:=p.dif k l t z f
  obtain rfl:i=0:=o
  exact h e
 ·have A:∀ (c e k l:Nat),c<e->k<s->l<s->k≠l->phi (frm c) y 2 k=phi (frm c) y 2 l->phi (frm e) y 2 k=phi (frm e) y 2 l->False:=fun c e k l w t z f h1 r=>by
   rw [(Iy c y k).2,(Iy c y l).2] at h1
   rw [(Iy e y k).2,(Iy e y l).2] at r
   have hd:(c:Rat)≠(e:Rat):=fun q=>by
    have:=Rat.natCast_inj.1 q
    omega
   have e1:y k 1=y l 1:=by
    have:((c:Rat)-e)*(y k 1-y l 1)=0:=gz0
    grind
   have e0:y k 0=y l 0:=gz0
   obtain ⟨i,hi,h⟩:=p.dif k l t z f
   rcases (show i=0\/i=1 from o) with rfl|rfl
   ·exact h e0
   ·exact h e1
  refine aR fun hn=>?_
  have g:∀ c,c<=3->_:=fun c hc=>B4p p.s3 (φ:=phi (frm c) y 2) fun h=>hn ⟨c,hc,h⟩
  have b0:=g 0 o
  have a:=g 1 o
  have d:=g 2 o
  have b:=g 3 o
  have key:∀ (k l:Nat),k<s->l<s->k≠l->∀ c e,c<e->¬ (phi (frm c) y 2 k=phi (frm c) y 2 l/\phi (frm e) y 2 k=phi (frm e) y 2 l):=fun k l t z f c e w h=>A c e k l w t z f h.1 h.2
  have s3:=p.s3
  by_cases h3:s=3
  ·have j:=key 0 1 o o o
   have n:=key 0 2 o o o
   have m:=key 1 2 o o o
   have L:=j 0 1 o;have H:=j 0 2 o;have V:=j 0 3 o;have S:=j 1 2 o;have T:=j 1 3 o;have E:=j 2 3 o
   have R:=n 0 1 o;have D:=n 0 2 o;have F:=n 0 3 o;have B:=n 1 2 o;have N:=n 1 3 o;have Q:=n 2 3 o
   have M:=m 0 1 o;have W:=m 0 2 o;have C:=m 0 3 o;have X:=m 1 2 o;have G:=m 1 3 o;have O:=m 2 3 o
   clear A key j n m g hn
   rcases b0 with ⟨_,b0⟩|⟨_,b0⟩|⟨_,b0⟩<;>rcases a with ⟨_,a⟩|⟨_,a⟩|⟨_,a⟩<;>rcases d with ⟨_,d⟩|⟨_,d⟩|⟨_,d⟩<;>rcases b with ⟨_,b⟩|⟨_,b⟩|⟨_,b⟩<;>first|exact L ⟨b0,a⟩|exact H ⟨b0,d⟩|exact V ⟨b0,b⟩|exact S ⟨a,d⟩|exact T ⟨a,b⟩|exact E ⟨d,b⟩|exact R ⟨b0,a⟩|exact D ⟨b0,d⟩|exact F ⟨b0,b⟩|exact B ⟨a,d⟩|exact N ⟨a,b⟩|exact Q ⟨d,b⟩|exact M ⟨b0,a⟩|exact W ⟨b0,d⟩|exact C ⟨b0,b⟩|exact X ⟨a,d⟩|exact G ⟨a,b⟩|exact O ⟨d,b⟩
  ·rcases b0 with ⟨r,b0⟩|⟨r,_⟩|⟨r,_⟩
   ·rcases a with ⟨_,a⟩|⟨r,_⟩|⟨r,_⟩
    ·exact key 0 1 o o o 0 1 o ⟨b0,a⟩
    ·omega
    ·omega
   ·omega
   ·omega
end
def B1k:∀ v:Fin 3,∀ d:Fin 3,1<=v.val->∀ i:Fin 6,i.val<nM v d->(mon v d i).all (fun z=>decide (0<=z/\z<=2))=true:=by decide +kernel
def Uh:Sz 1 (1:Rat):=⟨ZB.one (aC _),ZB.one (aC _)⟩
def B2h{f:Nat->Rat}{w m:Nat}(hm:1<=m)(hs:∀ i,i<w->Sz m (f i)):Sz (1+w*(2*m+1)) (sm w f):=by
 have:=Qn (f2:=fun _=>1) hs (fun i _=>Uh.mono hm) w (aC _)
 rwa [C4 (g:=f) fun i _=>aT _] at this
section
variable {s v d D:Nat} {u φ:Nat->Rat} {y:Nat->Nat->Rat}
def B98(h1:1<=v)(h2:v<=2)(hd:d<=2){l i:Nat}(hy:∀ j,j<v->Sz 2 (y l j))(hi:i<nM v d):Sz 10 (wV y v d l i):=by
 have c:=(A3z ⟨v,o⟩ ⟨d,o⟩ h1).2.2 hd
 change nM v d<=6 at c
 have:=B1k ⟨v,o⟩ ⟨d,o⟩ h1 ⟨i,o⟩ hi
 simp only [bL,decide_eq_true_eq] at this
 have b:=(Gh h1 h2 (show d<=6 from o) hi).1
 unfold wV
 generalize mon v d i=e at *
 rcases (show v=1\/v=2 from o) with rfl|rfl
 ·obtain ⟨a,rfl⟩:=List.length_eq_one_iff.1 b
  have f:=this a (by simp)
  rw [B4r]
  exact ((hy 0 o).pow o a.toNat).mono o
 ·obtain ⟨a,a1,rfl⟩:∃ a a1,e=[a,a1]:=by
   match e,b with
   | [a,a1],_=>exact ⟨a,a1,rfl⟩
  have f:=this a (by simp)
  have g:=this a1 (by simp)
  rw [A9x]
  exact (((hy 0 o).pow o a.toNat).mul ((hy 1 o).pow o a1.toNat)).mono o
def B86(h1:1<=s)(hs:s<=3)(hd:Dis s φ){x:Nat->Rat}(hx:∀ l,l<s->pvl x s (φ l)=φ l^s)(hf:∀ l,l<s->Sz 47 (φ l)):∀ i,i<s->Sz 300 (x i):=by
 rcases (show s=1\/s=2\/s=3 from o) with rfl|rfl|rfl
 ·have e:=Ua o hd (x:=x) (y:=fun _=>φ 0) (fun l c=>by
   rw [hx l c]
   obtain rfl:l=0:=o
   simp only [pvl,sm]
   grind)
  intro i d
  rw [e i d]
  exact (hf 0 o).mono o
 ·have e:=Ua o hd (x:=x) (y:=fun i=>if i=0 then-(φ 0*φ 1) else φ 0+φ 1) (fun l c=>by
   rw [hx l c]
   simp only [pvl,sm]
   rcases (show l=0\/l=1 from o) with rfl|rfl<;>simp<;>grind)
  intro i d
  rw [e i d]
  have b:=hf 0 o;have a:=hf 1 o
  split
  ·exact (b.mul a).neg.mono o
  ·exact (b.add a).mono o
 ·have e:=Ua o hd (x:=x) (y:=fun i=>if i=0 then φ 0*φ 1*φ 2 else if i=1 then-(φ 0*φ 1+φ 0*φ 2+φ 1*φ 2) else φ 0+φ 1+φ 2) (fun l c=>by
   rw [hx l c]
   simp only [pvl,sm]
   rcases (show l=0\/l=1\/l=2 from o) with rfl|rfl|rfl<;>simp<;>grind)
  intro i d
  rw [e i d]
  have b:=hf 0 o;have a:=hf 1 o;have f:=hf 2 o
  split
  ·exact ((b.mul a).mul f).mono o
  ·split
   ·exact (((b.mul a).add (b.mul f)).add (a.mul f)).neg.mono o
   ·exact ((b.add a).add f).mono o
def B7v{P S:Nat->Rat}{deg k m p:Nat}(hk:k<=1000)(hP:∀ i,i<=deg->Sz p (P i))(hS:∀ j,j<k->Sz m (S j))(hm:10<=m):∀ i,i<=k->i<=deg->Sz (1+i*(p+m+1)) (psT P deg S k i):=by
 intro i
 induction i with
 | zero=>intro _ _;exact Sz.zero o
 | succ i ih=>
  intro c d
  have a:=ih o o
  have b:Sz m (if i+1=k then (k:Rat) else S (k-(i+1))):=by
   split
   ·exact (Ym hk).mono hm
   ·exact hS _ o
  have:=a.add ((hP (deg-(i+1)) o).mul b).neg
  rw [<- Rat.sub_eq_add_neg] at this
  refine this.mono ?_
  rw [Nat.add_mul,Nat.one_mul];omega
structure Res (s v d D N:Nat) (u:Nat->Rat) (y:Nat->Nat->Rat):Prop where
 dis:Dis s (phi (frm N) y v)
 deg:Hq (fmM (ptV s u y v D) (frm N) v d) s=s
 min:∀ l,l<s->pvl (A9y (fmM (ptV s u y v D) (frm N) v d) s) s (phi (frm N) y v l)=phi (frm N) y v l^s
 coo:∀ j,j<v->∀ l,l<s->pvl (A0l (ptV s u y v D) v d (fmM (ptV s u y v D) (frm N) v d) j) s (phi (frm N) y v l)=y l j
 wgt:∀ l,l<s->pvl (wgX (ptV s u y v D) v d (fmM (ptV s u y v D) (frm N) v d) (Hw (fmM (ptV s u y v D) (frm N) v d) s) s) s (phi (frm N) y v l)=u l
def Pts.xok(p:Pts s v u y)(hd:d<=2)(hD:D<=6)(hdD:2*d+2<=D)(hs:s<=d+1)(hV:∀ i,i<(mo v D).length->Sz 15 (ptV s u y v D i))(hy:∀ l j,l<s->j<v->Sz 2 (y l j))(hu:∀ l,l<s->Sz 40 (u l)):
 ∃ N,N<=3/\XOk (ptV s u y v D) v d N 100000/\Res s v d D N u y:=by
 have S:=p.s1;have W:=p.s3;have X:=p.v1;have R:=p.v2
 have rk:=p.rk (d:=d) (D:=D) o hD o hs
 have blk:=p.blk (d:=d) (D:=D) o hD o hs
 have b0:∀ l,l<s->bB (ptV s u y v D) y v d l 0=1:=fun l _=>p.b0 o hD o l
 have fm:=p.fm (D:=D) hd hD hdD hs
 have val:=p.val (D:=D) hd hD hdD
 have sq:=p.sq (d:=d) (D:=D) o hD o
 have lt:=p.lt (d:=d) o (ptV s u y v D)
 have sB:∀ l t,l<s->Sz 10 (bB (ptV s u y v D) y v d l t):=fun l t b=>B98 X R hd (fun j q=>hy l j b q) (lt t)
 have p3:3^s<=27:=aU (n:=3) dc W
 have p7:7^s<=343:=aU (n:=7) dc W
 have O:∀ m,3^s*bnd (s+s) m<=27*(1+7*m):=fun m=>aQ p3 (by
  have:(s+s)*m<=6*m:=aE _ o
  unfold bnd;omega)
 have ah:∀ t l,t<s->l<s->Sz 2000 (duM s (bB (ptV s u y v D) y v d) t l):=fun t l ht b=>(B32 (m:=10) o (fun i a=>sB _ _ (Nat.div_lt_of_lt_mul a)) blk.full t l ht b).mono (aY (O 10) dc)
 have E:∀ F:Nat->Rat,(∀ j,j<v->Sz 11 (F j))->∀ l,l<s->Sz 47 (phi F y v l):=fun F L l b=>(Qn (w:=v) L (fun j q=>(hy l j b q).mono (show 2<=11 from o)) v (aC _)).mono (by
  have:v*(2*11+1)<=2*23:=aE _ R
  omega)
 have sF:∀ c,c<=3->∀ j,j<v->Sz 11 (frm c j):=fun c hc j q=>(Yn o j).mono o
 have sU:∀ k,∀ j,j<v->Sz 11 (uni k j):=fun k j _=>by
  unfold uni
  split
  ·exact Uh.mono o
  ·exact Sz.zero o
 have A:∀ m,s*(2*m+1)<=3*(2*m+1):=fun m=>aE _ W
 have sM:∀ F:Nat->Rat,(∀ j,j<v->Sz 11 (F j))->∀ i k,i<s->k<s->Sz 12004 (phM s u (phi F y v) (bB (ptV s u y v D) y v d) i k):=fun F L i k a f=>by
  rw [blk.ph_eq _ f i a]
  exact (Qn (m:=2000) (w:=s) (fun l b=>ah i l a b) (fun l b=>((E F L l b).mul (sB l k b)).mono o) s (aC _)).mono (by have:=A 2000;omega)
 have sK:∀ F:Nat->Rat,(∀ j,j<v->Sz 11 (F j))->∀ k,k<=s->∀ i,i<s->Sz 12004 (kpw (phM s u (phi F y v) (bB (ptV s u y v D) y v d)) s k i):=fun F L k f i a=>by
  rw [blk.kpw_eq _ S b0 k i a]
  exact (Qn (m:=2000) (w:=s) (fun l b=>ah i l a b) (fun l b=>((E F L l b).pow o k).mono (by have:47*k<=47*3:=aK _ o;omega)) s (aC _)).mono (by have:=A 2000;omega)
 have M:∀ F:Nat->Rat,(∀ j,j<v->Sz 11 (F j))->∀ i k,i<s->k<s->Sz 12004 (A4q (ptV s u y v D) F v d i k):=fun F L i k a f=>by
  refine (Qn (m:=15) (w:=v) (fun j q=>(L j q).mono o) (fun j q=>hV _ (mu3 X R hd hD o (lt i) (lt k) q).lt) v (aC _)).mono ?_
  have:v*(2*15+1)<=2*31:=aE _ R
  omega
 have am:∀ i k,i<s->k<s->Sz 12004 (ivM (ptV s u y v D) v d i k):=fun i k a f=>by
  unfold ivM
  rw [rk]
  have inv:=A6z (V:=ptV s u y v D) (d:=d) (D:=D) X R o hD o
  rw [rk] at inv
  refine (B32 (m:=15) o (fun j q=>?_) inv i k a f).mono (aY (O 15) dc)
  exact hV _ (Y8 X R o hD o (lt _) (lt _)).lt
 have kb:∀ F:Nat->Rat,(∀ j,j<v->Sz 11 (F j))->KB (ptV s u y v D) F v d 100000:=fun F L=>by
  refine ⟨fun i k a f=>?_,fun i k a f=>?_,fun i k a f=>?_,fun k f i a=>?_⟩
  ·rw [rk] at a f;exact (am i k a f).mono o
  ·rw [rk] at a f;exact (M F L i k a f).mono o
  ·rw [rk] at a f;rw [fm];exact (sM F L i k a f).mono o
  ·rw [rk] at a f;rw [fm,rk];exact (sK F L k f i a).mono o
 obtain ⟨c,hc,ac⟩:=p.dis
 obtain ⟨N,hN,yes,no⟩:=B1c (fun c=>Hq (fmM (ptV s u y v D) (frm c) v d) s=s) c (by rw [fm];exact blk.deg S W b0 ac)
 have aa:N<=3:=o
 have B:Hq (phM s u (phi (frm N) y v) (bB (ptV s u y v D) y v d)) s=s:=by rw [<- fm];exact yes
 have dis:=blk.dis S b0 B
 have ag:=sF N aa
 have slv:=fun z=>blk.slv S b0 B z
 have ad:=sK (frm N) ag
 have T:∀ i j,i<s->j<s->Sz 12004 (Ls (kpw (phM s u (phi (frm N) y v) (bB (ptV s u y v D) y v d)) s) i j):=fun i j a q=>ad j o i a
 have big:∀ m,m<=20000->7^s*m<=10000000:=fun m hm=>aY (aQ p7 hm) dc
 have mx:A9y (phM s u (phi (frm N) y v) (bB (ptV s u y v D) y v d)) s=Pc (fl (Ls (kpw (phM s u (phi (frm N) y v) (bB (ptV s u y v D) y v d)) s)) s) (kpw (phM s u (phi (frm N) y v) (bB (ptV s u y v D) y v d)) s s) s s:=by
  unfold A9y;rw [B]
 have G:∀ l,l<s->pvl (A9y (phM s u (phi (frm N) y v) (bB (ptV s u y v D) y v d)) s) s (phi (frm N) y v l)=phi (frm N) y v l^s:=fun l b=>by
  rw [mx,(slv _).2 l b,blk.pow _ S b0 s l b]
 have C:=E (frm N) ag
 have Q:=B86 S W dis G C
 have eP:Hw (phM s u (phi (frm N) y v) (bB (ptV s u y v D) y v d)) s=fun i=>if i=s then (1:Rat) else-A9y (phM s u (phi (frm N) y v) (bB (ptV s u y v D) y v d)) s i:=by
  unfold Hw;rw [B]
 have sP:∀ i,i<=s->Sz 300 (Hw (phM s u (phi (frm N) y v) (bB (ptV s u y v D) y v d)) s i):=fun i a=>by
  rw [eP]
  dsimp only
  split
  ·exact Uh.mono o
  ·exact (Q i o).neg
 have eS:=C0d S W dis G
 rw [<- eP] at eS
 dsimp only at eS
 have sS:∀ k,k<2*s-1->Sz 1200 (ps (Hw (phM s u (phi (frm N) y v) (bB (ptV s u y v D) y v d)) s) s k):=fun k f=>by
  rw [eS k f]
  refine (B2h (m:=189) o (fun l b=>((C l b).pow o k).mono ?_)).mono (by have:=A 189;omega)
  have:47*k<=47*4:=aK _ o
  omega
 have al:∀ j,j<s->ptV s u y v D ((pvL (ptV s u y v D) v d).getD j 0)=sm s fun l=>u l*bB (ptV s u y v D) y v d l j:=fun j _=>by
  have e:=(Y8 X R (show d<=3 from o) hD (show 2*d<=D from o) (lt j) (lt j)).same
  show (sm s fun l=>u l*mvl (y l) (mon v D _) 0)=_
  rw [<- e];rfl
 have af:∀ i,i<s->rgt (ptV s u y v D) v d (phM s u (phi (frm N) y v) (bB (ptV s u y v D) y v d)) i=sm s fun l=>u l*phi (frm N) y v l^i:=fun i a=>by
  unfold rgt rgS
  rw [rk,C4 (g:=fun j=>sm s (fun l=>u l*bB (ptV s u y v D) y v d l j)*kpw (phM s u (phi (frm N) y v) (bB (ptV s u y v D) y v d)) s i j) fun j q=>by rw [al j q],<- V1]
  exact C4 fun l b=>by rw [blk.pow _ S b0 i l b]
 have an: ∀ l m,l<s->m<s->pvl (fun j=>Pc (fl (Ls (kpw (phM s u (phi (frm N) y v) (bB (ptV s u y v D) y v d)) s)) s) (fun t=>duM s (bB (ptV s u y v D) y v d) t m) s s j) s (phi (frm N) y v l)=if l=m then 1 else 0:=fun l m b hm=>by
  have:=(slv fun t=>duM s (bB (ptV s u y v D) y v d) t m).2 l b
  rw [blk.du b hm] at this
  exact this
 have wg:=C1a W dis (fun j m=>Pc (fl (Ls (kpw (phM s u (phi (frm N) y v) (bB (ptV s u y v D) y v d)) s)) s) (fun t=>duM s (bB (ptV s u y v D) y v d) t m) s s j) an (H:=hkl (Hw (phM s u (phi (frm N) y v) (bB (ptV s u y v D) y v d)) s) s) (fun i k a f=>eS (i+k) o) (u:=u) (r:=rgt (ptV s u y v D) v d (phM s u (phi (frm N) y v) (bB (ptV s u y v D) y v d))) af
 have aj:∀ i,i<s->Sz 600 (rgt (ptV s u y v D) v d (phM s u (phi (frm N) y v) (bB (ptV s u y v D) y v d)) i):=fun i a=>by
  rw [af i a]
  refine (Qn (m:=95) (w:=s) (fun l b=>(hu l b).mono o) (fun l b=>((C l b).pow o i).mono ?_) s (aC _)).mono (by have:=A 95;omega)
  have:47*i<=47*2:=aK _ o
  omega
 refine ⟨N,aa,?_,⟨dis,yes,by rw [fm];exact G,fun j q l b=>?_,fun l b=>?_⟩⟩
 rotate_left
 ·unfold A0l
  rw [rk,fm,fm,(slv _).2 l b,blk.mult _ b o,b0 l b,aT]
  show sm v (fun k=>uni j k*y l k)=_
  rw [U9 q fun k _ ai=>by show (if k=j then (1:Rat) else 0)*_=0;rw [iN ai,aW]]
  show (if j=j then (1:Rat) else 0)*_=_
  rw [iP rfl,aZ]
 ·rw [fm]
  unfold wgX
  rw [rk]
  exact wg.2 l b
 refine { n9:=o,q1:=dc,q2:=dc,sb:=?_,kb:=fun k f=>kb _ (sF k o),ku:=fun j q i k a f=>?_,no:=?_,yes:=?_,min:=?_,minS:=?_,coo:=?_,cooS:=?_,sP:=?_,sS:=?_,sT:=?_,sR:=?_,wok:=?_,wS:=?_ }
 ·intro n hn
  rw [rk] at hn
  have h3:3^n<=27:=aU (n:=3) dc (show n<=3 from o)
  have h7:7^n<=343:=aU (n:=7) dc (show n<=3 from o)
  have hb:bnd (n+1) 100000<=500001:=by unfold bnd;omega
  have:=aQ h3 hb
  exact ⟨o,aY (aE _ h7) dc⟩
 ·rw [rk] at a f
  rw [fm]
  exact ⟨(M _ (sU j) i k a f).mono o,(sM _ (sU j) i 0 a o).mono o⟩
 ·rw [rk];exact no
 ·rw [rk];exact yes
 ·rw [rk,fm];exact (slv _).1
 ·intro i a
  rw [rk] at a
  rw [fm,rk]
  exact (Q i a).mono o
 ·intro j q
  rw [rk,fm,fm];exact (slv _).1
 ·intro j q i a
  unfold A0l
  rw [rk,fm,fm]
  exact (A3h (m:=12004) o T (fun i a=>sM _ (sU j) i 0 a o) i).mono (big _ o)
 ·intro i a
  rw [rk] at a
  rw [fm,rk]
  exact (sP i a).mono o
 ·intro k f
  rw [rk] at f
  rw [fm,rk]
  exact (sS k f).mono o
 ·intro k i f ak ae
  rw [rk] at f ae
  rw [fm,rk]
  refine (B7v (p:=300) (m:=1200) o sP (fun j q=>sS j o) o i ak ae).mono ?_
  have:i*(300+1200+1)<=3*1501:=aE _ o
  omega
 ·intro i n a hn
  rw [rk] at a hn
  rw [fm]
  unfold rgS
  rw [rk]
  refine (Qn (m:=12004) (w:=n) (fun j q=>(hV _ ?_).mono o) (fun j q=>ad i o j o) n (aC _)).mono ?_
  ·have e:=Y8 X R (show d<=3 from o) hD (show 2*d<=D from o) (lt j) (lt 0)
   have ao:∀ v:Fin 3,∀ d:Fin 3,∀ D:Fin 7,d.val<=D.val->nM v d<=(mo v D).length:=by decide +kernel
   have:=ao ⟨v,o⟩ ⟨d,o⟩ ⟨D,o⟩ (by dsimp only;omega)
   have:=lt j
   dsimp only at *
   omega
  ·have:n*(2*12004+1)<=3*24009:=aE _ o
   omega
 ·rw [fm,rk]
  exact wg.1
 ·intro i a
  rw [fm,rk]
  unfold wgX
  rw [rk]
  exact (A3h (m:=1200) o (fun i j a q=>sS (i+j) o) (fun i a=>(aj i a).mono o) i).mono (big _ o)
end
section
set_option maxRecDepth 100000
variable {h:aJ} {K:VP}
end
def pmv(x:Nat->Rat)(e:List Int):Nat->Rat
 | 0=>1
 | k+1=>pmv x e k*x k^(e.getD k 0).toNat
def A7s(x:Nat->Rat){e:List Int}{v:Nat}(h1:1<=v)(h2:v<=2)(hl:e.length=v):pmv x e v=mvl x e 0:=by
 rcases (show v=1\/v=2 from o) with rfl|rfl
 ·obtain ⟨a,rfl⟩:=List.length_eq_one_iff.1 hl
  simp [pmv,mvl]
 ·obtain ⟨a,a1,rfl⟩:∃ a a1,e=[a,a1]:=by
   match e,hl with
   | [a,a1],_=>exact ⟨a,a1,rfl⟩
  simp [pmv,mvl]
structure TRm where
 w:QV
 B:Option aO
 n:Nat
 c:Nat
instance:Enc TRm:=⟨⟨fun x=>[.bool x.w.s,.slice x.w.A x.w.n x.w.c,.bool x.w.s2,.slice x.w.A2 x.w.n2 x.w.c2,.slice x.B x.n x.c],5,fun _=>rfl,fun x v hv=>by simp at hv;rcases hv with rfl|rfl|rfl|rfl|rfl<;>rfl⟩⟩
abbrev RTr:aJ->TRm->Pn->Prop:=fun h w t=>NQ h w.w (rv t.1)/\w.n=t.2.length/\SlI .i64 h w.B t.2
def A5h:Mon RTr:=fun _ _ _ _ l i=>⟨NQ.mono l i.1,i.2.1,i.2.2.mono l⟩
section
variable {h:aJ} {K:VP} {A B XA WA:Option aO} {c cc n m v D:Nat} {f:Nat->Rat} {tt:Nat->Pn}
def RowV.rt(r:aL RTr h A n tt){i:Nat}(hi:i<n):∃ a w,A=some a/\RTr h w (tt i)/\h.cell? (aG (aG (aG a (i*5)) 0) 0)=some (.bool w.w.s)/\h.cell? (aG (aG (aG a (i*5)) 0) 1)=some (.slice w.w.A w.w.n w.w.c)/\h.cell? (aG (aG (aG a (i*5)) 0) 2)=some (.bool w.w.s2)/\h.cell? (aG (aG (aG a (i*5)) 0) 3)=some (.slice w.w.A2 w.w.n2 w.w.c2)/\h.cell? (aG (aG a (i*5)) 4)=some (.slice w.B w.n w.c):=by
 obtain ⟨a,w,e,d,b⟩:=r.at dc hi
 have z:=V9 (aG a (i*5))
 refine ⟨a,w,e,d,?_,?_,?_,?_,b 4 _ rfl⟩
 ·rw [z];exact b 0 _ rfl
 ·rw [z];exact b 1 _ rfl
 ·rw [z];exact b 2 _ rfl
 ·rw [z];exact b 3 _ rfl
def A1t(r:aL RTr h A 1 tt)(hq:rv (tt 0).1≠0)(hc:1<=c)(hK:∀ A' c' h',h.le h'->aL RTr h' A' 1 tt->K (.agg #[I (v:Int),.slice A' 1 c']) h'):aP prog 37 #[I (v:Int),.slice A 1 c] h K:=by
 refine (fnk func37 [(4,[7],[(6,2)],[I 0,I 0,.slice none 0 0]),(7,[9],[(8,4)],[I 0,.bool false,.slice none 0 0,.bool false,.slice none 0 0])] (own:=[4,6,8]) (wr:=[1000000000])) ?_
 refine (fnk func81 [(6,[5,6,7],[],[.slice none 0 0,I 0,I 0])] (os:=[(3,[0,1,2,3,4,6,7,8,9,10,5,11,12,13])])) ?_
 refine C0 (fun _=>?_) (fun no=>o)
 refine ⟨_,_,_,rfl,?_⟩
 refine ⟨fun L C=>∃ (i:Nat) (A':Option aO) (c':Nat),i<=1/\L=[I (i:Int),I (v:Int),.slice A' i c']/\Lst RTr 86 h C A' c' i tt,fun L _=>1-(iAt L 0).toNat,⟨0,_,_,o,rfl,Lst.nil⟩,?_⟩
 rintro z X S E V C ⟨i,A',c',W,j,L⟩
 simp only [aD,aI,aH,true_and,and_true] at j
 obtain ⟨rfl,rfl,rfl,rfl,rfl⟩:=j
 refine C0 (fun H=>?_) (fun G=>?_)
 ·obtain rfl:E=0:=o
  obtain ⟨a,w,e,D,c0,c1,c2,c3,c4⟩:=r.rt (show 0<1 from o)
  have t:=fun {x:aO} {u:aS} (q:h.cell? x=some u)=>C1 L.le q
  refine ⟨a,e,o,o,_,_,_,_,_,_,_,_,t c0,t c1,t c2,t c3,?_⟩
  refine ⟨fun L F=>L=I 1::qc w.w/\F=C,fun _ _=>0,⟨rfl,rfl⟩,?_⟩
  rintro k l p d m B b g f F ⟨j,rfl⟩
  simp only [aD,aI,true_and] at j
  obtain ⟨rfl,j⟩:=j
  obtain ⟨O,_⟩:=A55 (w:=w.w) (by simpa only [aD,aV,aH,and_true] using j:(.bool l:aS) :: .slice p d m :: .bool B :: .slice b g f::[]= .bool w.w.s :: .slice w.w.A w.w.n w.w.c :: .bool w.w.s2 :: .slice w.w.A2 w.w.n2 w.w.c2::[])
  obtain ⟨R,N,Q,M⟩:=w
  dsimp only at *
  subst O
  refine C0 (fun no=>o) (fun _=>?_)
  refine Hi (w:=⟨l,p,d,m,B,b,g,f⟩) (NQ.mono L.le D.1) ⟨_,rfl,E6 (fun _=>?_) (fun q=>absurd (Rat.num_eq_zero.1 (Int.sign_eq_zero_iff_zero.1 q)) hq)⟩
  refine ⟨a,e,o,o,_,_,_,t c4,?_⟩
  refine L.pushG A5h C0s rfl (y:=(⟨⟨l,p,d,m,B,b,g,f⟩,N,Q,M⟩:TRm)) (by rfl) D dc o fun A5 c5 T L5=>?_
  exact ⟨⟨1,_,_,o,rfl,L5⟩,by simp only [Y2];omega⟩
 ·obtain rfl:E=1:=o
  exact hK _ _ _ L.le (L.row A5h)
def B2u{e:List Int}(hm:1<=m)(hf:∀ k,k<v->Sz m (f k))(he:∀ k,(e.getD k 0).toNat<=6):∀ k,k<=v->Sz (1+k*(m*6+1)) (pmv f e k):=by
 intro k
 induction k with
 | zero=>exact fun _=>Uh.mono o
 | succ k ih=>
  intro c
  have a:=ih o
  have b:=((hf k o).pow hm (e.getD k 0).toNat).mono (show m*(e.getD k 0).toNat+1<=m*6+1 by have:=aK m (he k);omega)
  exact (a.mul b).mono (by rw [Nat.add_mul,Nat.one_mul];omega)
def A50(r:aL RTr h A 1 tt)(hq:rv (tt 0).1=1)(v1:1<=v)(v2:v<=2)(hl:(tt 0).2.length=v)(he0:∀ z∈(tt 0).2,0<=z/\z<=6)(x:aL NQr h XA v f)(hm1:1<=m)(hm:m<=1000)(hf:∀ k,k<v->Sz m (f k))(hK:∀ w h',h.le h'->NQ h' w (mvl f (tt 0).2 0)->K w.v h'):aP prog 66 #[.agg #[I (v:Int),.slice A 1 c],.slice XA v cc] h K:=by
 refine (fnk func66 [(3,[6],[(5,4)],[I 0,.bool false,.slice none 0 0,.bool false,.slice none 0 0]),(7,[8],[(7,4)],[I 0,.bool false,.slice none 0 0,.bool false,.slice none 0 0])] (own:=[2,4,5,7])) ?_
 have he:∀ k,(((tt 0).2.getD k 0).toNat<=6):=fun k=>by
  by_cases H:k<(tt 0).2.length
  ·have:=he0 _ (Lh H);omega
  ·simp [List.getD,H]
 have V:∀ k,0<=(tt 0).2.getD k 0:=fun k=>by
  by_cases H:k<(tt 0).2.length
  ·exact (he0 _ (Lh H)).1
  ·simp [List.getD,H]
 refine ⟨fun L S=>∃ (i:Nat) (s:QV),i<=1/\L=I (i:Int)::qc s/\h.le S/\NQ S s (if i=0 then 0 else mvl f (tt 0).2 0),fun L _=>1-(iAt L 0).toNat,⟨0,S8,o,rfl,B6 _,NQ.zero⟩,?_⟩
 rintro z d0 R F Q d2 E M G S ⟨i,s,hi,B,l,is⟩
 simp only [aD,aI,true_and] at B
 obtain ⟨rfl,B⟩:=B
 obtain ⟨es,_⟩:=A55 (w:=s) (by simpa only [aD,aV,aH,and_true] using B:(.bool d0:aS) :: .slice R F Q :: .bool d2 :: .slice E M G::[]= .bool s.s :: .slice s.A s.n s.c :: .bool s.s2 :: .slice s.A2 s.n2 s.c2::[])
 subst es
 refine C0 (fun ag=>?_) (fun af=>?_)
 ·obtain rfl:i=0:=o
  obtain ⟨a,w,e,N,c0,c1,c2,c3,c4⟩:=(r.mono A5h l).rt (show 0<1 from o)
  refine ⟨a,e,o,o,_,_,_,_,_,_,_,_,c0,c1,c2,c3,?_⟩
  refine ⟨fun L hx=>∃ (k:Nat) (t:QV),k<=v/\L=I (k:Int)::qc t/\S.le hx/\NQ hx t (pmv f (tt 0).2 k),fun L _=>v-(iAt L 0).toNat,⟨0,w.w,o,rfl,B6 _,by have:=N.1;rw [hq] at this;exact this⟩,?_⟩
  rintro z g0 y p d X C g j hx ⟨k,t,H,B,D,it⟩
  simp only [aD,aI,true_and] at B
  obtain ⟨rfl,B⟩:=B
  obtain ⟨et,_⟩:=A55 (w:=t) (by simpa only [aD,aV,aH,and_true] using B:(.bool g0:aS) :: .slice y p d :: .bool X :: .slice C g j::[]= .bool t.s :: .slice t.A t.n t.c :: .bool t.s2 :: .slice t.A2 t.n2 t.c2::[])
  subst et
  have sp:=B2u (e:=(tt 0).2) hm1 hf he
  have kb:∀ k,k<=v->k*(m*6+1)<=2*(m*6+1):=fun k H=>aE _ o
  refine C0 (fun ae=>?_) (fun ad=>?_)
  ·have O:k<v:=o
   have cl:=fun {x:aO} {u:aS} (q:S.cell? x=some u)=>C1 D q
   refine ⟨a,e,o,o,_,_,_,cl c4,?_⟩
   refine (N.2.2.mono D).load N.2.1 o (by rw [N.2.1];omega) ?_
   rw [aF]
   have next:C3 ((k:Int)+1)=((k+1:Nat):Int):=by rw [B9]<;>omega
   refine C0 (fun ac=>?_) (fun hz=>?_)
   ·obtain ⟨a6,w6,e6,n6,q0,q1,q2,q3⟩:=(x.mono F3 (B0 l D)).qat O
    refine ⟨a6,e6,o,o,_,_,_,_,_,_,_,_,q0,q1,q2,q3,a,e,o,o,_,_,_,cl c4,?_⟩
    refine (N.2.2.mono D).load N.2.1 o (by rw [N.2.1];omega) ?_
    rw [aF]
    have T:(tt 0).2.getD k 0=(((tt 0).2.getD k 0).toNat:Int):=by have:=V k;omega
    rw [T]
    have aa:=he k
    have ah:m*((tt 0).2.getD k 0).toNat<=m*6:=aK m aa
    refine A5t (w:=w6) (m:=m) n6 (hf k O) hm1 o o fun w7 h7 l7 i7=>⟨_,_,_,_,_,_,_,_,rfl,l7,?_⟩
    refine Bk (a:=⟨g0,y,p,d,X,C,g,j⟩) (b:=w7) (m:=100000) (NQ.mono l7 it) i7 ((sp k o).mono (by have:=kb k o;omega)) (((hf k O).pow hm1 _).mono o) o fun w8 h8 l8 W=>⟨_,_,_,_,_,_,_,_,rfl,l8,?_⟩
    rw [next]
    exact ⟨⟨k+1,w8,o,rfl,B0 D (B0 l7 l8),W⟩,by simp only [Y2];omega⟩
   ·rw [next]
    have ez:((tt 0).2.getD k 0).toNat=0:=o
    refine ⟨⟨k+1,⟨g0,y,p,d,X,C,g,j⟩,o,rfl,D,?_⟩,by simp only [Y2];omega⟩
    show NQ hx _ (pmv f (tt 0).2 k*f k^((tt 0).2.getD k 0).toNat)
    rw [ez,bI,aT]
    exact it
  ·obtain rfl:k=v:=o
   have e9:=A7s f v1 v2 hl
   rw [e9] at it
   have s9:=sp k o
   rw [e9] at s9
   rw [iP rfl] at is
   refine Dm (a:=⟨d0,R,F,Q,d2,E,M,G⟩) (b:=⟨g0,y,p,d,X,C,g,j⟩) (m:=100000) (NQ.mono D is) it (Sz.zero o) (s9.mono (by have:=kb k o;omega)) o fun w8 h8 l8 W=>⟨_,_,_,_,_,_,_,_,rfl,?_⟩
   rw [Rat.zero_add] at W
   exact ⟨⟨1,w8,o,rfl,B0 l (B0 D l8),by rw [iN o];exact W⟩,by
    show 1-(C3 (((0:Nat):Int)+1)).toNat<1-(((0:Nat):Int)).toNat
    decide⟩
 ·obtain rfl:i=1:=o
  rw [iN o] at is
  exact hK ⟨d0,R,F,Q,d2,E,M,G⟩ S l is
end
section
variable {α β α2 β2:Type} [E:Enc α] [E2:Enc α2] {R:aJ->α->β->Prop} {e:bF} {h0 hp:aJ} {A:Option aO} {c n:Nat} {f:Nat->β} {R2:aJ->α2->β2->Prop}
def Lst.litR(m:Mon R)(m2:Mon R2){P:bV}{t e2:bF}{z:aS}{bytes:Nat}(st:SliceT P t e2 z E2.default.size bytes)(l:Lst R e h0 hp A c n f){v:aS}{y:α2}(hv:v.cells=(enc y).toArray)(hsz:E2.default.size<=1000){q:β2}(hR:R2 h0 y q){K:VP}
 (x:∀ b h' g,h0.le g->hp.le h'->Lst R e g h' A c n f->aL R2 g (some ⟨b,0,none⟩) 1 (fun _=>q)->K (.slice (some ⟨b,0,none⟩) 1 1) h'):wpH P (bH t 1 #[(0,v)]) K hp:=by
 obtain ⟨g,o,C,k,s,w,E,r⟩:=l
 have p:(enc y).length=E2.default.size:=E2.default.len y
 have B:v.cells.size=E2.default.size:=by rw [hv,List.size_toArray,p]
 refine Z6 st (vs:=[v]) (fun u j=>by rw [List.mem_singleton.1 j];exact B) rfl (by simp;omega) rfl fun b a=>?_
 have D:g b=none:=by
  cases q:g b with
  | none=>rfl
  | some u=>rw [s.le _ _ q] at a;cases a
 have d:=Heap.le_put (.cells ([v].flatMap fun v=>v.cells.toList).toArray e2) D
 refine x b _ _ (B0 k d) (Heap.le_put _ a) ⟨_,o,C,B6 _,s.vis a _,w,E,r.mono m d⟩ ⟨[y],SlV.new _ _ _ _ _ _ (fun i u j=>by simpa [hv] using j),rfl,fun i F=>⟨y,?_,m2 _ _ _ _ (B0 k d) hR⟩⟩
 obtain rfl:i=0:=oo
 rfl
end
def ofS(w:Nat->Rat)(X:Nat->Nat->Rat)(e:List Int)(k:Nat):Rat:=sm k fun l=>w l*mvl (X l) e 0
def B1l:∀ v:Fin 3,∀ D:Fin 7,1<=v.val->∀ i:Fin 28,i.val<(mo v D).length->(mon v D i).all (fun z=>decide (0<=z/\z<=6))=true:=by decide +kernel
section
variable {h:aJ} {K:VP} {A B XA WA:Option aO} {c cc n m v D:Nat} {w f:Nat->Rat} {X:Nat->Nat->Rat}
def C1g(h1:1<=v)(h2:v<=2)(hD:D<=6){i:Nat}(hi:i<(mo v D).length):∀ z∈mon v D i,0<=z/\z<=6:=by
 have a:=(T4 h1 h2 hD).len
 have:=B1l ⟨v,o⟩ ⟨D,o⟩ h1 ⟨i,o⟩ hi
 simpa only [bL,decide_eq_true_eq] using this
def B81{e:List Int}(hl:e.length=v)(h1:1<=v)(h2:v<=2)(he:∀ z∈e,0<=z/\z<=6)(hX:∀ l j,l<n->j<v->Sz 2 (X l j))(hw:∀ l,l<n->Sz 30 (w l)):(∀ l,l<n->Sz 30 (mvl (X l) e 0))/\∀ k,k<=n->Sz (1+k*(2*30+1)) (ofS w X e k):=by
 have c:∀ l,l<n->Sz 30 (mvl (X l) e 0):=fun l b=>by
  rw [<- A7s (X l) h1 h2 hl]
  refine (B2u (m:=2) (v:=v) o (fun k a=>hX l k b a) (fun k=>?_) v (aC _)).mono ?_
  ·by_cases a:k<e.length
   ·have:=he _ (Lh a);omega
   ·simp [List.getD,a]
  ·have:v*(2*6+1)<=2*13:=aE _ h2
   omega
 exact ⟨c,fun k a=>Qn (w:=n) hw c k a⟩
def Yu(xs:RowsV h XA n v X)(ws:aL NQr h WA n w)(n1:1<=n)(n3:n<=3)(v1:1<=v)(v2:v<=2)(hD:D<=6)(hX:∀ l j,l<n->j<v->Sz 2 (X l j))(hw:∀ l,l<n->Sz 30 (w l))
 (hK:∀ A' c' h',h.le h'->aL NQr h' A' (mo v D).length (fun i=>ofS w X (mon v D i) n)->K (.agg #[I (v:Int),I (D:Int),.slice A' (mo v D).length c']) h'):aP prog 15 #[.slice XA n c,.slice WA n cc,I (D:Int)] h K:=by
 refine (fnk func15 [(3,[24],[(7,3)],[I 0,I 0,I 0,.slice none 0 0]),(8,[37],[(10,4)],[I 0,.bool false,.slice none 0 0,.bool false,.slice none 0 0])] (os:=[(6,[0,1,3,7,2,4,5,6,8])]) (own:=[6,7,10,11])) ?_
 obtain ⟨a0,s0,e0,q1,_,q3,_⟩:=xs.at (i:=0) o
 rw [q1] at q3
 refine ⟨a0,e0,o,o,_,_,_,q3,?_⟩
 have ay:=(T4 v1 v2 hD).len
 refine A5c (n:=v) (d:=D) o o fun A1 c1 h1 l1 s1=>⟨_,_,_,rfl,?_⟩
 change MoSl h1 A1 (mo v D) at s1
 change ∃ Inv mu,_
 refine ⟨fun L hp=>∃ (i:Nat) (A':Option aO) (c':Nat),i<=(mo v D).length/\L=[I (i:Int),I (v:Int),I (D:Int),.slice A' i c']/\Lst NQr 37 h1 hp A' c' i (fun i=>ofS w X (mon v D i) n),fun L _=>(mo v D).length-(iAt L 0).toNat,⟨0,_,_,o,rfl,Lst.nil⟩,?_⟩
 rintro z p0 p1 pA i pc hp ⟨i0,A',c',hi,N,L⟩
 simp only [aD,aI,aH,true_and,and_true] at N
 obtain ⟨rfl,rfl,rfl,rfl,rfl,rfl⟩:=N
 refine C0 (fun au=>?_) (fun az=>?_)
 ·have O:i<(mo v D).length:=by
   have:((mo v D).length:Int)=((Uc v (D+1)).length:Int):=rfl
   omega
  obtain ⟨a,B1,bc,e,c0,s2⟩:=s1.mon O
  refine ⟨a,e,o,by show (i:Int)<((mo v D).length:Int);omega,_,_,_,by rw [aF];exact C1 L.le c0,?_⟩
  have hl:(mon v D i).length=v:=(Gh v1 v2 hD O).1
  have he:=C1g v1 v2 hD O
  obtain ⟨W,am⟩:=B81 (w:=w) hl v1 v2 he hX hw
  have aw:=B0 l1 L.le
  refine L.call F3 fun g lg=>Qu o fun w0 h3 l3 i3=>⟨l3,fun h4 l4 L4=>⟨_,_,_,_,_,_,_,_,rfl,l4,?_⟩⟩
  have b3:=B0 lg l3
  refine L4.litR F3 (R2:=RTr) A5h C0s (y:=(⟨w0,B1,(mon v D i).length,bc⟩:TRm)) (q:=(E7 1,mon v D i)) (by rfl) dc ⟨by show NQ h3 w0 (rv (E7 1));rw [F9];exact i3,rfl,s2.mono b3⟩ fun b h5 g5 ae l5 L5 T=>⟨_,_,_,rfl,l5,?_⟩
  refine L5.call F3 fun g6 S=>A1t (T.mono A5h S) (by show rv (E7 1)≠0;rw [F9];decide) (aC _) fun A7 c7 h7 l7 V=>⟨l7,fun h8 l8 L8=>⟨_,_,_,_,rfl,l8,?_⟩⟩
  have b7:=B0 b3 (B0 ae (B0 S l7))
  refine ⟨fun L hx=>∃ (l:Nat) (s:QV) (g:aJ),l<=n/\L=I (l:Int)::qc s/\h7.le g/\Lst NQr 37 g hx pA pc i (fun i=>ofS w X (mon v D i) n)/\NQ g s (ofS w X (mon v D i) l),fun L _=>n-(iAt L 0).toNat,⟨0,S8,h7,o,rfl,B6 _,L8,NQ.zero⟩,?_⟩
  rintro z d0 H E B d2 C M F hx ⟨l,s,gx,ag,N,t,Lx,is⟩
  simp only [aD,aI,true_and] at N
  obtain ⟨rfl,N⟩:=N
  obtain ⟨es,_⟩:=A55 (w:=s) (by simpa only [aD,aV,aH,and_true] using N:(.bool d0:aS) :: .slice H E B :: .bool d2 :: .slice C M F::[]= .bool s.s :: .slice s.A s.n s.c :: .bool s.s2 :: .slice s.A2 s.n2 s.c2::[])
  subst es
  have bx:=B0 l1 (B0 b7 t)
  refine C0 (fun ao=>?_) (fun an=>?_)
  ·have f:l<n:=o
   have p:=fun {x:aO} {u:aS} (q:h.cell? x=some u)=>C1 (B0 bx Lx.le) q
   obtain ⟨a5,w5,e5,n5,c0,c1,c2,c3⟩:=ws.qat f
   obtain ⟨a6,s6,e6,t1,t2,t3,t4⟩:=xs.at f
   rw [t1] at t3
   refine ⟨a5,e5,o,o,_,_,_,_,_,_,_,_,p c0,p c1,p c2,p c3,a6,e6,o,o,_,_,_,p t3,?_⟩
   refine Lx.call F3 fun g9 G=>A50 (m:=2) (V.mono A5h (B0 t G)) (F9 1) v1 v2 hl he (t4.mono F3 (B0 bx G)) o o (fun j hj=>hX l j f hj) fun w9 h9 l9 i9=>⟨l9,fun av ad L10=>⟨_,_,_,_,_,_,_,_,rfl,ad,?_⟩⟩
   have b9:=B0 G l9
   refine L10.call F3 fun aq k=>Bk (a:=w5) (b:=w9) (m:=30) (NQ.mono (B0 bx (B0 b9 k)) n5) (NQ.mono k i9) (hw l f) (W l f) o fun ai a1 aa ah=>⟨aa,fun ax al L12=>⟨_,_,_,_,_,_,_,_,rfl,al,?_⟩⟩
   have Q:=B0 b9 (B0 k aa)
   have kb:l*(2*30+1)<=3*61:=aE _ o
   refine L12.call F3 fun a3 r=>Dm (a:=⟨d0,H,E,B,d2,C,M,F⟩) (b:=ai) (m:=1000) (NQ.mono (B0 Q r) is) (NQ.mono r ah) ((am l ag).mono o) (((hw l f).mul (W l f)).mono o) o fun ak ac R aj=>⟨R,fun ap af L14=>⟨_,_,_,_,_,_,_,_,rfl,af,?_⟩⟩
   rw [wiS l o]
   exact ⟨⟨l+1,ak,ac,o,rfl,B0 t (B0 Q (B0 r R)),L14,aj⟩,by simp only [Y2];omega⟩
  ·obtain rfl:l=n:=o
   refine Lx.push F3 Eh rfl (y:=(⟨d0,H,E,B,d2,C,M,F⟩:QV)) (by rfl) is dc o fun A15 a2 ar L15=>?_
   rw [wiS i o]
   exact ⟨⟨i+1,_,_,o,rfl,L15.weak (B0 b7 t)⟩,by simp only [Y2];omega⟩
 ·obtain rfl:i=(mo v D).length:=by
   have:((mo v D).length:Int)=((Uc v (D+1)).length:Int):=rfl
   omega
  exact hK _ _ _ (B0 l1 L.le) (L.row F3)
end
def A47(f:Nat->Rat)(t:Rat)(i k:Nat):sm (k+1) (fun j=>t^j*f (i+j))=sm k (fun j=>t^j*f (i+1+j))*t+f i:=by
 rw [Nat.add_comm k 1,B2i]
 have e:sm 1 (fun j=>t^j*f (i+j))=f i:=by simp [sm];grind
 rw [e,<- L9,Rat.add_comm]
 refine congrArg (· + f i) (C4 fun j _=>?_)
 rw [T7,show i+(1+j)=i+1+j from o]
 have:t^1=t:=by rw [Rat.pow_one]
 rw [this];grind
section
variable {h:aJ} {K:VP} {A:Option aO} {c n m:Nat} {f:Nat->Rat}
def Oo{v D:Int}(r:aL NQr h A n f)(hn:n<=1000000)(hs:∀ i,i<n->Sz m (f i))(hm:m<=1000000)(hK:∀ A' c' h',h.le h'->aL SSr h' A' n (fun i=>E7 (f i))->K (.agg #[I v,I D,.slice A' n c']) h'):aP prog 14 #[.agg #[I v,I D,.slice A n c]] h K:=by
 refine (fnk func14 (own:=[1,2])) ?_
 exact Nf r hn hs oo fun b a o=>⟨_,_,_,rfl,o.le,hK _ _ _ o.le (o.vis E8)⟩
def Is(x:aL SSr h A n (fun i=>E7 (f i)))(hn:n<=65)(hs:∀ i,i<n->Sz m (f i))(hm:m<=40000000)(hlast:∀ k,n=k+1->f k≠0)(hK:∀ A' c' h',h.le h'->aL NQr h' A' n f->K (.tuple #[.slice A' n c',.bool true]) h'):aP prog 16 #[.slice A n c] h K:=by
 refine (fnk func16) ?_
 refine Zj x oo (fun i l=>(Tx.of (hs i l) hm).len) (fun _ b g o=>⟨_,_,_,_,rfl,Br.nt (C0 (fun e=>oo) (fun _=>?_))⟩) (fun no=>absurd (fun i _=>⟨_,rfl⟩) no)
 have row:aL NQr g (some ⟨b,0,none⟩) n f:=(o.vis F3).congr fun i _=>F9 _
 refine C0 (fun d=>?_) (fun _=>hK _ _ _ o.le row)
 obtain ⟨k,rfl⟩:∃ k,n=k+1:=⟨n-1,oo⟩
 rw [show C3 (((k+1:Nat):Int)-1)=(k:Int) by rw [B9]<;>omega]
 obtain ⟨a,w,e,j,c0,c1,c2,c3⟩:=row.qat (show k<k+1 from oo)
 refine ⟨a,e,oo,oo,_,_,_,_,_,_,_,_,c0,c1,c2,c3,?_⟩
 exact Hi (w:=w) j ⟨_,rfl,D8 (fun q=>absurd (Rat.num_eq_zero.1 (Int.sign_eq_zero_iff_zero.1 q)) (hlast k rfl)) (fun _=>hK _ _ _ o.le row)⟩
def Qo{w:QV}{t:Rat}(x:aL NQr h A n f)(it:NQ h w t)(hn:n<=4)(hs:∀ i,i<n->Sz m (f i))(ht:Sz m t)(hm:m<=10000000)(hK:∀ u h',h.le h'->NQ h' u (pvl f n t)->K u.v h'):aP prog 20 #[.slice A n c,w.v] h K:=by
 refine (fnk func20 [(3,[6],[(5,4)],[I 0,.bool false,.slice none 0 0,.bool false,.slice none 0 0])] (os:=[(5,[0,1,3,4,5,6,2,7,8])]) (own:=[3,4,5])) ?_
 have G:∀ k i,i+k<=n->Sz (1+k*(2*m+1)) (sm k fun j=>t^j*f (i+j)):=by
  intro k
  induction k with
  | zero=>intro i _;exact Sz.zero o
  | succ k ih=>
   intro i hi
   rw [A47]
   exact (((ih (i+1) o).mul ht).add (hs i o)).mono (by rw [Nat.add_mul,Nat.one_mul];omega)
 refine ⟨fun L C=>∃ (k:Nat) (s:QV),k<=n/\L=I ((k:Int)-1)::qc s/\h.le C/\NQ C s (sm (n-k) fun j=>t^j*f (k+j)),fun L _=>(iAt L 0+1).toNat,⟨n,S8,o,by rw [show C3 ((n:Int)-1)=(n:Int)-1 by rw [B9]<;>omega];rfl,B6 _,by rw [Nat.sub_self];exact NQ.zero⟩,?_⟩
 rintro z E y g r D d q p C ⟨k,s,hk,B,l,is⟩
 simp only [aD,aI,true_and] at B
 obtain ⟨rfl,B⟩:=B
 obtain ⟨X,_⟩:=A55 (w:=s) (by simpa only [aD,aV,aH,and_true] using B:(.bool E:aS) :: .slice y g r :: .bool D :: .slice d q p::[]= .bool s.s :: .slice s.A s.n s.c :: .bool s.s2 :: .slice s.A2 s.n2 s.c2::[])
 subst X
 refine C0 (fun O=>?_) (fun R=>?_)
 ·obtain ⟨k,rfl⟩:∃ k',k=k'+1:=⟨k-1,o⟩
  rw [show ((k+1:Nat):Int)-1=(k:Int) from o]
  obtain ⟨W,w5,Q,S,c0,c1,c2,c3⟩:=(x.mono F3 l).qat (show k<n from o)
  refine ⟨W,Q,o,o,_,_,_,_,_,_,_,_,c0,c1,c2,c3,?_⟩
  have kb:(n-(k+1))*(2*m+1)<=4*(2*m+1):=aE _ o
  have H:=(G (n-(k+1)) (k+1) o).mono (show _<=90000000 from o)
  refine Bk (a:=⟨E,y,g,r,D,d,q,p⟩) (b:=w) (m:=90000000) is (NQ.mono l it) H (ht.mono o) o fun T h7 F V=>⟨_,_,_,_,_,_,_,_,rfl,F,?_⟩
  refine Dm (a:=T) (b:=w5) (m:=200000000) V (NQ.mono F S) ((H.mul ht).mono o) ((hs k o).mono o) o fun w8 h8 N M=>⟨_,_,_,_,_,_,_,_,rfl,N,?_⟩
  rw [<- A47,show n-(k+1)+1=n-k from o] at M
  rw [show C3 ((k:Int)-1)=(k:Int)-1 by rw [B9]<;>omega]
  exact ⟨⟨k,w8,o,rfl,B0 l (B0 F N),M⟩,by simp only [Y2];omega⟩
 ·obtain rfl:k=0:=o
  refine hK ⟨E,y,g,r,D,d,q,p⟩ C l ?_
  have e:(fun j=>t^j*f (0+j))=fun j=>t^j*f j:=funext fun j=>by rw [Nat.zero_add]
  rw [Nat.sub_zero,e] at is
  exact is
end
structure CS where
 p':Int
 r':Int
 p:Int
 r:Int
def CS.next(s:CS)(a:Int):CS:=⟨s.p,s.r,s.p'+a*s.p,s.r'+a*s.r⟩
structure CSI (s:CS) (q x:Rat):Prop where
 det:s.p*s.r'-s.p'*s.r=1\/s.p*s.r'-s.p'*s.r= -1
 eq:q*(s.r*x+s.r')=s.p*x+s.p'
 r0:0<=s.r/\0<=s.r'/\0<s.r+s.r'
def ab(x:Rat):Rat:=if x<0 then -x else x
section
variable {h:aJ} {K:VP} {m:Nat} {a b w:QV} {p q:Rat}
end
section
variable {h:aJ} {K:VP} {x y:List UInt8}
end
section
variable {h:aJ} {K:VP} {A B:Option aO} {n m a b:Nat} {ls ls2:Nat->List UInt8}
def Kh(x:aL SSr h A n ls)(y:aL SSr h B m ls2)(hn:n<=1000000000)(hK1:n=m->(∀ i,i<n->ls i=ls2 i)->K (.bool true) h)(hK0:¬ (n=m/\∀ i,i<n->ls i=ls2 i)->K (.bool false) h):aP prog 10 #[.slice A n a,.slice B m b] h K:=by
 refine (fnk func10 [(4,[13],[],[I 0])]) ?_
 refine E6 (fun e=>hK0 fun g=>e o) (fun e=>?_)
 have e:n=m:=o
 subst e
 refine ⟨fun L d=>∃ i:Nat,i<=n/\L=[I (i:Int)]/\d=h/\∀ j,j<i->ls j=ls2 j,fun L _=>n-(iAt L 0).toNat,⟨0,o,rfl,rfl,fun j q=>o⟩,?_⟩
 rintro z d ⟨i,w,t,rfl,f⟩
 obtain rfl:=sI1 t
 refine C0 (fun p=>?_) (fun l=>?_)
 ·have c:i<n:=o
  obtain ⟨u,rfl,r⟩:=x.sat c
  obtain ⟨v,rfl,k⟩:=y.sat c
  refine ⟨u,rfl,o,o,_,r,v,rfl,o,o,_,k,?_⟩
  dsimp only;rw [Ij]
  refine Br.not (C0 (fun e=>?_) (fun e=>hK0 fun g=>e (g.2 i c)))
  rw [wiS i o]
  refine ⟨⟨i+1,o,rfl,rfl,fun j q=>?_⟩,by simp only [Y2];omega⟩
  by_cases s:j=i
  ·subst s;exact e
  ·exact f j o
 ·have:i=n:=o
  subst this
  exact hK1 rfl f
end
def Bm{α β:Type}[E:Enc α]{R:aJ->α->β->Prop}(m:Mon R){P:bV}{t e:bF}{z:aS}{bytes:Nat}(st:SliceT P t e z E.default.size bytes){h:aJ}{n:Nat}{ps:Array (Nat × aS)}(vs:List aS)(ys:List α)(hv:vs.map (fun v=>v.cells.toList)=ys.map enc)(hn:n=ys.length)(hlen:n<=1000)(hsz:E.default.size<=1000)(hp:ps.toList=(List.range' 0 vs.length).zip vs){f:Nat->β}(hR:∀ i,i<n->∃ w,ys[i]? = some w/\R h w (f i)){K:VP}
 (x:∀ b h',h.le h'->aL R h' (some ⟨b,0,none⟩) n f->K (.slice (some ⟨b,0,none⟩) n n) h'):wpH P (bH t n ps) K h:=by
 have p:vs.length=ys.length:=by have:=congrArg List.length hv;simpa using this
 have d:vs.flatMap (fun v=>v.cells.toList)=ys.flatMap enc:=by rw [List.flatMap_def,hv,<- List.flatMap_def]
 refine Z6 st (vs:=vs) (fun v a=>?_) o ?_ hp fun b c=>?_
 ·have:v.cells.toList∈ys.map enc:=by rw [<- hv];exact List.mem_map_of_mem a
  obtain ⟨y,_,j⟩:=List.mem_map.1 this
  have:=congrArg List.length j
  rw [E.default.len] at this
  simpa using this.symm
 ·exact aY (aQ hlen hsz) dc
 ·refine x b _ (Heap.le_put _ c) ⟨ys,SlV.new _ _ _ _ _ _ (fun i v hv=>by rw [d];simpa using hv),hn.symm,fun i k=>?_⟩
  obtain ⟨w,g,l⟩:=hR i k
  exact ⟨w,g,m _ _ _ _ (Heap.le_put _ c) l⟩
def B07{f:Nat->Rat}: ∀ {n i},trN f n<=i->i<n->f i=0:=by
 intro n
 induction n with
 | zero=>intro i _ h;omega
 | succ n ih=>
  intro i a b
  unfold trN at a
  split at a
  ·by_cases e:i=n
   ·rename_i q;rw [e];exact q
   ·exact ih a o
  ·omega
def A3c{f:Nat->Rat}: ∀ {n k},trN f n=k+1->f k≠0:=by
 intro n
 induction n with
 | zero=>intro k h;unfold trN at h;omega
 | succ n ih=>
  intro k h
  unfold trN at h
  split at h
  ·exact ih h
  ·rename_i q
   obtain rfl:n=k:=o
   exact q
def B2t{f:Nat->Rat}{n:Nat}(t:Rat):pvl f (trN f n) t=pvl f n t:=by
 obtain ⟨k,hk⟩:∃ k,n=trN f n+k:=⟨n-trN f n,by have:=A6p f n;omega⟩
 unfold pvl
 conv=>rhs;rw [hk]
 rw [B2i,N8 (n:=k) fun j a=>by rw [B07 (f:=f) (n:=n) (i:=trN f n+j) o o,aX],Rat.add_zero]
def exX:Nat->Nat->Rat:=fun l _=>if l=0 then 1 else -1
def exW:Nat->Rat:=fun _=>1
def A4a:Pts 2 1 exW exX:=⟨o,o,o,o,fun k l c b a=>⟨0,o,by
 rcases (show k=0\/k=1 from o) with rfl|rfl<;>rcases (show l=0\/l=1 from o) with rfl|rfl
 ·exact absurd rfl a
 ·decide
 ·decide
 ·exact absurd rfl a⟩,fun _ _=>by show (0:Rat)<1;decide⟩
def B8h:∀ i:Fin 5,(ptV 2 exW exX 1 4 i).num.natAbs<2^15/\(ptV 2 exW exX 1 4 i).den<2^15:=by decide +kernel
def B38:(mo 1 4).length=5:=by decide +kernel
def B39(l j:Nat):Sz 2 (exX l j):=by
 unfold exX
 split
 ·exact ⟨by show _<_;decide,by show _<_;decide⟩
 ·exact ⟨by show _<_;decide,by show _<_;decide⟩
section
variable {h:aJ} {K:VP}
def B36{A:Option aO}{s v D:Nat}{u:Nat->Rat}{y:Nat->Nat->Rat}(v1:1<=v)(v2:v<=2)(hD:D<=6)(hs:∀ i,i<(mo v D).length->Sz 15 (ptV s u y v D i))(r:aL SSr h A (mo v D).length (fun i=>E7 (ptV s u y v D i))):FnV h A v D 15 (ptV s u y v D):=⟨v1,v2,hD,r,hs,o⟩
def B2x{α:Type}(w:α){i:Nat}(hi:i<1):[w][i]? = some w:=by
 obtain rfl:i=0:=o
 rfl
def A0b(gl:Gl h)(hK:∀ h',h.le h'->K (.bool true) h'):aP prog 22 #[] h K:=by
 refine (fnk func22 (own:=[1,2])) ?_
 refine Qu o fun H h1 l1 i1=>⟨_,_,_,_,_,_,_,_,rfl,?_⟩
 refine Bm (n:=1) F3 Eh [H.v] [H] rfl rfl o dc rfl (f:=exX 0) (fun i a=>⟨H,B2x H a,by show NQ h1 H 1;simpa using i1⟩) fun b2 h2 l2 r2=>⟨_,_,_,rfl,?_⟩
 refine Qu o fun C h3 l3 i3=>⟨_,_,_,_,_,_,_,_,rfl,?_⟩
 refine Bm (n:=1) F3 Eh [C.v] [C] rfl rfl o dc rfl (f:=exX 1) (fun i a=>⟨C,B2x C a,by show NQ h3 C (-1);simpa using i3⟩) fun b4 h4 l4 r4=>⟨_,_,_,rfl,?_⟩
 refine Bm (n:=2) (Q0 1) A6v [.slice (some ⟨b2,0,none⟩) 1 1,.slice (some ⟨b4,0,none⟩) 1 1] [(⟨some ⟨b2,0,none⟩,1,1⟩:HV),⟨some ⟨b4,0,none⟩,1,1⟩] rfl rfl o dc rfl (f:=exX) (fun i a=>by
  rcases (show i=0\/i=1 from o) with rfl|rfl
  ·exact ⟨_,rfl,rfl,aC _,r2.mono F3 (B0 l3 l4)⟩
  ·exact ⟨_,rfl,rfl,aC _,r4⟩) fun b5 h5 l5 r5=>⟨_,_,_,rfl,?_⟩
 refine Qu o fun T h6 l6 i6=>⟨_,_,_,_,_,_,_,_,rfl,?_⟩
 refine Qu o fun R h7 l7 i7=>⟨_,_,_,_,_,_,_,_,rfl,?_⟩
 refine Bm (n:=2) F3 Eh [T.v,R.v] [T,R] rfl rfl o dc rfl (f:=exW) (fun i a=>by
  rcases (show i=0\/i=1 from o) with rfl|rfl
  ·exact ⟨_,rfl,by show NQ h7 T 1;simpa using NQ.mono l7 i6⟩
  ·exact ⟨_,rfl,by show NQ h7 R 1;simpa using i7⟩) fun b8 h8 l8 r8=>⟨_,_,_,rfl,?_⟩
 have y:=B0 l6 (B0 l7 l8)
 have V:=B0 l1 (B0 l2 (B0 l3 (B0 l4 (B0 l5 y))))
 refine Yu (v:=1) (D:=4) (RowsV.of (r5.mono (Q0 1) y)) r8 o o o o o (fun l j _ _=>B39 l j) (fun _ _=>Uh.mono o) fun A9 c9 h9 l9 r9=>⟨_,_,_,_,_,rfl,?_⟩
 have eV:(fun i=>ofS exW exX (mon 1 4 i) 2)=ptV 2 exW exX 1 4:=rfl
 rw [eV] at r9
 have sV:∀ i,i<(mo 1 4).length->Sz 15 (ptV 2 exW exX 1 4 i):=fun i a=>by
  rw [B38] at a
  exact ⟨(B8h ⟨i,a⟩).1,by show Int.natAbs _<_;rw [Int.natAbs_natCast];exact (B8h ⟨i,a⟩).2⟩
 refine Oo r9 (by rw [B38];omega) sV o fun A10 ak al Q ac=>⟨_,_,_,_,_,rfl,?_⟩
 have k:=B0 V (B0 l9 Q)
 have E:=A4a.rk (d:=2) (D:=4) o o o o
 have r:=A4a.rk (d:=1) (D:=4) o o o o
 refine Ig (gl.mono k) (B36 (D:=4) o o o sV ac) o (aC _) (d:=2) o (fun e=>o) (fun _ _ no=>absurd ⟨by rw [E,r],by rw [E];omega,A4a.psd o o o⟩ no) fun d' ed _ _ _ _=>?_
 obtain rfl:d'=1:=o
 obtain ⟨N,_,X,b⟩:=A4a.xok (d:=1) (D:=4) o o o o sV (fun l j _ _=>B39 l j) (fun _ _=>Uh.mono o)
 refine ⟨N,100000,X,fun FA fc MA mc CA cc WA wc ao ae xt=>⟨_,_,_,_,_,_,_,_,_,_,_,_,_,rfl,D8 (fun _=>?_) (fun e=>absurd rfl e)⟩⟩
 have L:=B0 k ae
 obtain ⟨xf,xm,xc,xw⟩:=xt
 rw [r] at xm xw ⊢
 have m:∀ l,phi (frm N) exX 1 l=exX l 0:=fun l=>(Iy N exX l).1
 have M:=m 0;have S:=m 1
 have p:∀ (f g:Nat->Rat),(∀ l,l<2->pvl f 2 (phi (frm N) exX 1 l)=pvl g 2 (phi (frm N) exX 1 l))->∀ t,t<2->f t=g t:=fun f g=>Ua o b.dis
 have vx:exX 0 0=1/\exX 1 0= -1:=⟨rfl,rfl⟩
 have mm:=p _ (fun i=>if i=0 then 1 else 0) (fun l G=>by
  rw [b.min l G]
  rcases (show l=0\/l=1 from o) with rfl|rfl
  ·rw [M];decide +kernel
  ·rw [S];decide +kernel)
 have w:=p _ (fun i=>if i=0 then 0 else 1) (fun l G=>by
  rw [b.coo 0 o l G]
  rcases (show l=0\/l=1 from o) with rfl|rfl
  ·rw [M];decide +kernel
  ·rw [S];decide +kernel)
 have mw:=p _ (fun i=>if i=0 then 1 else 0) (fun l G=>by
  rw [b.wgt l G]
  rcases (show l=0\/l=1 from o) with rfl|rfl
  ·rw [M];decide +kernel
  ·rw [S];decide +kernel)
 have B:({ data:=#[48] }:ByteArray)=bs (E7 0):=t0
 have s:({ data:=#[49] }:ByteArray)=bs (E7 1):=t1
 have O:({ data:=#[45,49] }:ByteArray)=bs (E7 (-1)):=by decide +kernel
 have tc:trN (A0l (ptV 2 exW exX 1 4) 1 1 (fmM (ptV 2 exW exX 1 4) (frm N) 1 1) 0) 2=2:=by
  unfold trN
  rw [iN (by rw [w 1 o];decide)]
 have tw:trN (wgX (ptV 2 exW exX 1 4) 1 1 (fmM (ptV 2 exW exX 1 4) (frm N) 1 1) (Hw (fmM (ptV 2 exW exX 1 4) (frm N) 1 1) 2) 2) 2=1:=by
  unfold trN
  rw [iP (by rw [mw 1 o];decide)]
  unfold trN
  rw [iN (by rw [mw 0 o];decide)]
 rw [tw] at xw ⊢
 refine Bm (n:=3) E8 H1 [.string _,.string _,.string _] [E7 (-1),E7 0,E7 1] (by rw [O,B,s];rfl) rfl o dc rfl (f:=fun i=>E7 (if i=0 then -1 else if i=1 then 0 else 1)) (fun i a=>by
  rcases (show i=0\/i=1\/i=2 from o) with rfl|rfl|rfl<;>exact ⟨_,rfl,rfl⟩) fun ap aa c ah=>⟨_,_,_,rfl,?_⟩
 refine Kh (xm.mono E8 c) ah o (fun _ _=>?_) (fun no=>absurd ⟨rfl,fun i a=>?_⟩ no)
 rotate_left
 ·unfold Hw
  rw [b.deg]
  rcases (show i=0\/i=1\/i=2 from o) with rfl|rfl|rfl
  ·rw [iN o,mm 0 o];rfl
  ·rw [iN o,mm 1 o];rfl
  ·rw [iP rfl];rfl
 refine ⟨_,rfl,B2e (B2e ?_)⟩
 obtain ⟨a0,ws,rfl,⟨W,u⟩,af⟩:=(xc.mono A5g c).at dc (show 0<1 from o)
 have F:(B8q (ptV 2 exW exX 1 4) 1 1 N 0).1=2:=by
  show trN _ (rkM _ 1 1)=2
  rw [r]
  exact tc
 have W:ws.n=2:=W.trans F
 have u:aL SSr aa ws.A 2 (fun i=>E7 (A0l (ptV 2 exW exX 1 4) 1 1 (fmM (ptV 2 exW exX 1 4) (frm N) 1 1) 0 i)):=by
  have u:=u
  rw [F] at u
  exact u
 have:=af 0 _ rfl
 rw [V9] at this
 refine ⟨a0,rfl,o,o,_,_,_,this,?_⟩
 rw [W]
 refine Bm (n:=2) E8 H1 [.string _,.string _] [E7 0,E7 1] (by rw [B,s];rfl) rfl o dc rfl (f:=fun i=>E7 (if i=0 then 0 else 1)) (fun i a=>by
  rcases (show i=0\/i=1 from o) with rfl|rfl<;>exact ⟨_,rfl,rfl⟩) fun an ai q ad=>⟨_,_,_,rfl,?_⟩
 refine Kh (u.mono E8 q) ad o (fun _ _=>?_) (fun no=>absurd ⟨rfl,fun i a=>?_⟩ no)
 rotate_left
 ·rw [w i a]
 refine ⟨_,rfl,B2e ?_⟩
 refine Bm (n:=1) E8 H1 [.string _] [E7 1] (by rw [s];rfl) rfl o dc rfl (f:=fun i=>E7 1) (fun i a=>by
  obtain rfl:i=0:=o
  exact ⟨_,rfl,rfl⟩) fun am aj z ag=>⟨_,_,_,rfl,?_⟩
 refine Kh (xw.mono E8 (B0 c (B0 q z))) ag o (fun _ _=>?_) (fun no=>absurd ⟨rfl,fun i a=>?_⟩ no)
 rotate_left
 ·obtain rfl:i=0:=o
  rw [mw 0 o];rfl
 exact ⟨_,rfl,hK _ (B0 L (B0 c (B0 q z)))⟩
end
def TapeS(g o:aJ)(b:Nat)(xs:List Int):Prop:=∃ (A:Option aO) (c k:Nat) (e:bF),o b=some (.cells #[.slice A xs.length c,I (k:Int)] e)/\k<=xs.length/\xs.length<=400/\SlI .i64 g A xs
def TapeS.keep{g o g' o':aJ}{b:Nat}{xs:List Int}(t:TapeS g o b xs)(l:g.le g')(h:∀ x,o b=some x->o' b=some x):TapeS g' o' b xs:=by
 obtain ⟨A,c,k,e,a,d,i,f⟩:=t
 exact ⟨A,c,k,e,h _ a,d,i,f.mono l⟩
def B5h{P:bV}{t:bF}{v:aS}{K:VP}{h:aJ}(x:∀ b,h b=none->K (.pointer (some ⟨b,0,none⟩)) (h.put b (.cells v.cells t))):wpH P (Instr.box t v) K h:=by
 exact x
section
variable {h g o:aJ} {K:VP} {A:Option aO} {xs:List Int} {b:Nat}
def A7q{ac:Nat}(s:SlI .i64 h A xs)(hc:xs.length<=ac)(hK:∀ b h' o',Sep h' h o'->TapeS h o' b (xs.take 400)->(∀ k,k≠b->o' k=none)->K (.pointer (some ⟨b,0,none⟩)) h'):aP prog 7 #[.slice A xs.length ac] h K:=by
 refine (fnk func7) ?_
 have e:(if (400:Int)<((xs.length:Nat):Int) then (400:Int) else ((xs.length:Nat):Int))=(((xs.take 400).length:Nat):Int):=by
  grind
 have a:(xs.take 400).length<=xs.length:=oo
 rw [e]
 refine ⟨⟨oo,oo⟩,B5h ?_⟩
 intro b f
 refine ⟨_,rfl,hK b _ _ (Bc f) ⟨T9 A ac 0 1,ac-0,0,_,C2 _ _ _,oo,oo,?_⟩ fun k d=>B7 _ _ d⟩
 have:=s.cut (c:=ac) (l:=0) (m:=(xs.take 400).length) oo a hc
 grind
def Dn{n:Nat}(s:Sep h g o)(t:TapeS g o b xs)(hn:0<n/\n<=1000000)(hK:∀ (r:Nat) h' o',r<n->Sep h' g o'->TapeS g o' b xs->(∀ k,k≠b->o' k=o k)->K (I (r:Int)) h'):aP prog 8 #[.pointer (some ⟨b,0,none⟩),I (n:Int)] h K:=by
 have t0:=t
 obtain ⟨A,c,k,e,l,G,z,sl⟩:=t
 refine (fnk func8) ?_
 have a:(h.without b).put b (.cells #[.slice A xs.length c,I (k:Int)] e)=h:=J3 (s.own b _ l)
 have c0:h.cell? (aG ⟨b,0,none⟩ 0)=some (.slice A xs.length c):=by rw [<- a,D6,D4];rfl
 have c1:h.cell? (aG ⟨b,0,none⟩ 1)=some (I (k:Int)):=by rw [<- a,D6,D4];rfl
 refine ⟨_,rfl,_,c1,_,rfl,_,_,_,c0,C0 (fun C=>?_) (fun C=>?_)⟩
 ·grind
 ·refine ⟨_,rfl,_,_,_,c0,_,rfl,_,c1,?_⟩
  have m:=sl.mono s.le
  refine m.load rfl oo oo ?_
  rw [aF]
  refine ⟨_,rfl,_,c1,_,rfl,?_⟩
  have q:C3 ((k:Int)+1)=((k+1:Nat):Int):=by rw [B9 oo oo];omega
  rw [q]
  have B:∀ {K2:Unit->aJ->Prop},(∀ h' o',Sep h' g o'->TapeS g o' b xs->(∀ k,k≠b->o' k=o k)->K2 () h')->wpH prog (Instr.storeAt 3 (.pointer (some (aG ⟨b,0,none⟩ 1))) (I ((k+1:Nat):Int))) K2 h:=by
   intro K2 f
   have x:=Kc (P:=prog) (t:=3) (k:=.i64) (n:=((k+1:Nat):Int)) (i:=1) (g:=h.without b) (b:=b) (c:=#[.slice A xs.length c,I (k:Int)]) (e:=e) (K:=K2) Jz gz0 (by
    rw [show (h.without b).put b (.cells ((#[.slice A xs.length c,I (k:Int)]:Array aS).setIfInBounds (1:Int).toNat (.int .i64 ((k+1:Nat):Int))) e)=h.put b (.cells #[.slice A xs.length c,I ((k+1:Nat):Int)] e) by
     have u:∀ y,(h.without b).put b y=h.put b y:=fun y=>by
      conv=>rhs;rw [<- a]
      rw [Cm]
     grind]
    exact f _ _ (s.upd l _) ⟨A,c,k+1,e,C2 _ _ _,oo,z,sl⟩ fun j D=>B7 _ _ D)
   grind
  refine B ?_
  intro h' o' H F L
  generalize xs.getD k 0=v
  have d:¬ ((n:Int)=0):=oo
  refine C0 (fun e=>absurd e d) (fun _=>C0 (fun e=>absurd e d) (fun _=>?_))
  have E: -(n:Int)<Int.tmod v n/\Int.tmod v n<n:=by
   have O:=Nat.mod_lt v.natAbs hn.1
   have tt:=A3d v.natAbs n
   grind
  generalize Int.tmod v n=w at *
  rw [B9 oo oo,bU oo]
  have p:=Int.emod_nonneg (w+n) d
  have N:=Int.emod_lt_of_pos (w+n) (show (0:Int)<n from oo)
  obtain ⟨r,M⟩:=Int.eq_ofNat_of_zero_le p
  grind
end
section
variable {h g o:aJ} {K:VP} {xs:List Int} {b:Nat}
def OffB(b:Nat)(o o':aJ):Prop:=∀ k,k≠b->o' k=o k
def Sep.giveB{ys:List QV}{bb n:Nat}{f:Nat->Rat}(s:Sep h g o)(rb:RowB o bb ys)(hy:ys.length=n)(rr:Row NQr g ys n f):∃ g2,g.le g2/\Sep h g2 (o.without bb)/\aL NQr g2 (some ⟨bb,0,none⟩) n f:=by
 have a:(o.without bb).le o:=fun k x e=>by
  by_cases j:k=bb
  ·have:Heap.without o k k=none:=N3 _ _
   grind
  ·unfold Heap.without at e;grind
 obtain ⟨g2,c,b⟩:=s.give a
 obtain ⟨e,ex,i⟩:=rb
 have d:g2 bb=some (.cells (ys.flatMap enc++ex).toArray e):=by
  rw [<- b.rest bb (N3 _ _)]
  exact s.own _ _ i
 refine ⟨g2,c,b,ys,?_,hy,rr.mono F3 c⟩
 exact RowB.slF (o:=g2) ⟨e,ex,d⟩ (B6 _)
def B8d{x y:Int}(hx:0<x)(hy:0<y):0<bN x y:=by
 rw [bG,Rat.div_def]
 exact Rat.mul_pos (Rat.intCast_pos.2 hx) (Rat.inv_pos.2 (Rat.intCast_pos.2 hy))
end
def Whl(x:Rat):Prop:=∃ z:Int,x=z/\z.natAbs<=2
def W12(x:Rat):Prop:=∃ z:Int,x*12=z/\0<z/\z<=108
def Whl.sz{x:Rat}(h:Whl x):Sz 2 x:=by
 obtain ⟨z,rfl,a⟩:=h
 exact Sz.int (by unfold ZB;omega) o
def W12.sz{x:Rat}(h:W12 x):Sz 8 x/\0<x:=by
 obtain ⟨z,b,a,c⟩:=h
 have e:x=bN z 12:=by rw [bG,<- b];grind
 rw [e]
 exact ⟨S1 dc (by unfold ZB;omega) (by unfold ZB;decide),B8d a dc⟩
def B63{a b:Nat}(ha:a<9)(hb:b<4):W12 (bN (1+(a:Int)) (1+(b:Int))):=by
 rw [W12,bG]
 rcases (show b=0\/b=1\/b=2\/b=3 from o) with rfl|rfl|rfl|rfl
 ·exact ⟨12*(1+a),by push_cast;grind,o,o⟩
 ·exact ⟨6*(1+a),by push_cast;grind,o,o⟩
 ·exact ⟨4*(1+a),by push_cast;grind,o,o⟩
 ·exact ⟨3*(1+a),by push_cast;grind,o,o⟩
section
variable {h g o:aJ} {K:VP} {xs:List Int} {b:Nat}
def A25{k:Nat}(hk:k<=2)(s:Sep h g o)(t:TapeS g o b xs)(hK:∀ w q h' g' o',g.le g'->Sep h' g' o'->TapeS g' o' b xs->OffB b o o'->NQ g' w q->Whl q->K w.v h'):aP prog 52 #[.pointer (some ⟨b,0,none⟩),I (k:Int)] h K:=by
 refine (fnk func52 (own:=[4]) (wr:=[8])) ?_
 rw [show C3 (C3 (2*(k:Int))+1)=((2*k+1:Nat):Int) by rw [B9 (n:=2*(k:Int)) oo oo,B9]<;>omega]
 refine Dn (n:=2*k+1) s t oo ?_
 intro d r u l j t1 a
 refine ⟨_,rfl,?_⟩
 rw [show C3 ((d:Int)-(k:Int))=(d:Int)-k from B9 oo oo]
 refine j.call (Qu oo ?_)
 intro w m c i p f
 exact ⟨_,_,_,_,_,_,_,_,rfl,hK w _ _ _ _ c f (t1.keep c fun _ e=>e) a i ⟨_,rfl,oo⟩⟩
def A27(s:Sep h g o)(t:TapeS g o b xs)(hK:∀ w q h' g' o',g.le g'->Sep h' g' o'->TapeS g' o' b xs->OffB b o o'->NQ g' w q->W12 q->K w.v h'):aP prog 53 #[.pointer (some ⟨b,0,none⟩)] h K:=by
 refine (fnk func53 (own:=[2]) (wr:=[8])) ?_
 refine Dn (n:=9) s t oo ?_
 intro a T W l L t1 j
 refine ⟨_,rfl,?_⟩
 rw [show C3 (1+(a:Int))=1+(a:Int) from B9 oo oo]
 refine L.call (Cg oo ?_)
 intro sg A n c R y D Q F
 refine ⟨_,_,_,_,rfl,Dn (n:=4) F (t1.keep y fun _ e=>e) oo ?_⟩
 intro p h3 o3 d M z f
 refine ⟨_,rfl,?_⟩
 rw [show C3 (1+(p:Int))=1+(p:Int) from B9 oo oo]
 refine M.call (Cg oo ?_)
 intro N A2 n2 c2 X i H S C
 have G:ZB 8 (1+(a:Int)):=by unfold ZB;omega
 have E:ZB 8 (1+(p:Int)):=by unfold ZB;omega
 refine ⟨_,_,_,_,rfl,C.call (Ll (m:=8) (D.mono i) H oo G E oo ?_)⟩
 intro w g5 r B V O
 exact ⟨_,_,_,_,_,_,_,_,rfl,hK w _ _ _ _ (B0 y (B0 i r)) O (z.keep (B0 i r) fun _ e=>e) (fun k u=>(f k u).trans (j k u)) B (B63 l d)⟩
def OffB.own{α:Type}[E:Enc α]{o o':aJ}{e:bF}{A:Option aO}{c:Nat}{ys:List α}(x:OffB b o o')(w:OwnSl o e A c ys)(hA:A≠some ⟨b,0,none⟩):OwnSl o' e A c ys:=w.keep fun j u q a=>by rw [x j (fun z=>hA (by rw [q,z]))];exact a
def OwnSl.blk{α:Type}[E:Enc α]{o:aJ}{e:bF}{A:Option aO}{c j:Nat}{ys:List α}(w:OwnSl o e A c ys)(hA:A=some ⟨j,0,none⟩):∃ x,o j=some x:=by
 rcases w.2 with g|⟨b,a,d,f,_⟩
 ·grind
 grind
structure PtS (v:Nat) (xs:List Int) (b:Nat) (g0 hp:aJ) (k:Nat) (A B:Option aO) (c d:Nat) (g o:aJ) (ps:List HV) (ws:List QV) (X:Nat->Nat->Rat) (w:Nat->Rat):Prop where
 le:g0.le g
 s:Sep hp g o
 t:TapeS g o b xs
 p:OwnSl o 27 A c ps
 q:OwnSl o 37 B d ws
 pl:ps.length=k
 ql:ws.length=k
 pr:Row (RWr v) g ps k X
 qr:Row NQr g ws k w
 hX:∀ l j,l<k->j<v->Whl (X l j)
 hw:∀ l,l<k->W12 (w l)
 Ab:A≠some ⟨b,0,none⟩
 Bb:B≠some ⟨b,0,none⟩
 AB:∀ e,A=some ⟨e,0,none⟩->B≠some ⟨e,0,none⟩
def A29{v:Nat}(v1:1<=v)(v2:v<=2)(s:Sep h g o)(t:TapeS g o b xs)
 (hK:∀ n A c B d X w h',1<=n->n<=3->g.le h'->aL (RWr v) h' A n X->aL NQr h' B n w->(∀ l j,l<n->j<v->Whl (X l j))->(∀ l,l<n->W12 (w l))->K (.tuple #[.slice A n c,.slice B n d]) h'):aP prog 9 #[.pointer (some ⟨b,0,none⟩),I (v:Int)] h K:=by
 refine (fnk func9 [(4,[6,7,8],[],[.slice none 0 0,.slice none 0 0,I 0]),(8,[9,10],[],[.slice none 0 0,I 0])] (wr:=[8,52,53])) ?_
 refine Dn (n:=3) s t oo ?_
 intro r h1 o1 hr s1 t1 aw
 refine ⟨_,rfl,?_⟩
 rw [show C3 (1+(r:Int))=((r+1-0:Nat):Int) by rw [B9]<;>omega]
 refine ⟨fun L hp=>∃ (k:Nat) (A B:Option aO) (c d:Nat) (g' o':aJ) (ps:List HV) (ws:List QV) (X:Nat->Nat->Rat) (w:Nat->Rat),k<=r+1/\L=[.slice A k c,.slice B k d,I ((r+1-k:Nat):Int)]/\PtS v xs b g hp k A B c d g' o' ps ws X w,fun L _=>(iAt L 2).toNat,
  ⟨0,none,none,0,0,g,o1,[],[],fun _ _=>0,fun _=>0,oo,rfl,⟨B6 _,s1,t1,OwnSl.nil,OwnSl.nil,rfl,rfl,Row.nil,Row.nil,fun _ _ q=>oo,fun _ q=>oo,by simp,by simp,fun _ q=>by cases q⟩⟩,?_⟩
 rintro xA xn xc wA M wc z hp ⟨k,A,B,c,d,g2,o2,ps,ws,X,w,hk,eL,T⟩
 simp only [aD,aH,aI,true_and,and_true] at eL
 obtain ⟨⟨rfl,rfl,rfl⟩,⟨rfl,rfl,rfl⟩,rfl⟩:=eL
 refine C0 (fun av=>?_) (fun ax=>?_)
 ·refine ⟨fun L hq=>∃ (m:Nat) (g' o':aJ) (P:Option aO) (pc:Nat) (V:List QV) (f:Nat->Rat),m<=v/\L=[.slice P m pc,I (m:Int)]/\g2.le g'/\Sep hq g' o'/\TapeS g' o' b xs/\OwnSl o' 37 P pc V/\V.length=m/\Row NQr g' V m f/\(∀ i,i<m->Whl (f i))/\P≠some ⟨b,0,none⟩/\∀ j x,j≠b->o2 j=some x->o' j=some x/\P≠some ⟨j,0,none⟩,fun L _=>v-(iAt L 1).toNat,
   ⟨0,g2,o2,none,0,[],fun _=>0,oo,rfl,B6 _,T.s,T.t,OwnSl.nil,rfl,Row.nil,fun i hi=>oo,by simp,fun j x _ e=>⟨e,by simp⟩⟩,?_⟩
  rintro lA C lc z2 hq ⟨m,g3,o3,P,pc,V,f,hm,W,l3,s3,t3,Q,D,rr,hs,H,u⟩
  simp only [aD,aH,aI,true_and,and_true] at W
  obtain ⟨⟨rfl,rfl,rfl⟩,rfl⟩:=W
  refine C0 (fun ar=>?_) (fun aq=>?_)
  ·refine A25 (k:=2) oo s3 t3 ?_
   intro w4 q h4 g4 o4 l4 s4 t4 ag iw sq
   refine ⟨_,_,_,_,_,_,_,_,rfl,?_⟩
   refine O5 (ty:=27) Eh s4 (ag.own Q H) D.symm (y:=w4) rfl dc oo oo ?_
   intro A5 c5 h5 g5 o5 O s5 aj ac
   rw [D,wiS C oo]
   obtain ⟨_,_,_,_,ao,_⟩:=id t4
   refine ⟨⟨C+1,g5,o5,A5,c5,_,fun i=>if i=C then q else f i,oo,rfl,B0 l3 (B0 l4 O),s5,t4.keep O fun x e=>(ac b x e H).1,aj,gz0,?_,fun i hi=>gz0,(ac b _ ao H).2,fun j x N e=>?_⟩,?_⟩
   ·have rA:Row NQr g5 V V.length (fun i=>if i=C then q else f i):=by
     rw [D]
     exact (rr.mono F3 (B0 l4 O)).congr fun i hi=>(iN oo).symm
    have rB:=rA.push (w:=w4) (by rw [D,iP rfl];exact F3 _ _ _ _ O iw)
    grind
   ·obtain ⟨e1,e2⟩:=u j x N e
    have e3:o4 j=some x:=by rw [ag j N];exact e1
    grind
   ·show v-((C+1:Nat):Int).toNat<v-(C:Int).toNat
    omega
  ·obtain rfl:C=v:=oo
   obtain ⟨R,rfl,rb⟩:=Q.rowB gz0
   have au:R≠b:=fun e=>H (by rw [e])
   obtain ⟨g5,O,s5,rv⟩:=s3.giveB rb D rr
   have kp:∀ j x,j≠b->o2 j=some x->(o3.without R) j=some x:=fun j x N e=>by
    obtain ⟨e1,e2⟩:=u j x N e
    unfold Heap.without
    grind
   have t5:TapeS g5 (o3.without R) b xs:=t3.keep O fun x e=>by unfold Heap.without;grind
   have ap:=T.p.keep (o':=o3.without R) fun e x F a=>kp e x (fun q=>T.Ab (by rw [F,q])) a
   have ah:=T.q.keep (o':=o3.without R) fun e x F a=>kp e x (fun q=>T.Bb (by rw [F,q])) a
   refine O5 (ty:=26) A6v s5 ap T.pl.symm (y:=(⟨some ⟨R,0,none⟩,C,lc⟩:HV)) rfl dc (by have:=T.pl;omega) (by have:=T.pl;omega) ?_
   intro A6 c6 h6 g6 o6 l6 s6 ai G
   obtain ⟨_,_,_,_,am,_⟩:=id t5
   have t6:TapeS g6 o6 b xs:=t5.keep l6 fun x e=>(G b x e T.Ab).1
   have ad:=ah.keep (o':=o6) fun e x hB a=>(G e x a fun F=>T.AB e F hB).1
   refine A27 s6 t6 ?_
   intro w7 q7 h7 g7 o7 l7 s7 t7 ae i7 ak
   refine ⟨_,_,_,_,_,_,_,_,rfl,?_⟩
   have A6b:=(G b _ am T.Ab).2
   have af:=ae.own ai A6b
   obtain ⟨_,_,_,_,an,_⟩:=id t7
   refine O5 (ty:=27) Eh s7 (ae.own ad T.Bb) T.ql.symm (y:=w7) rfl dc (by have:=T.ql;omega) (by have:=T.ql;omega) ?_
   intro B8 c8 h8 g8 o8 l8 s8 al E
   rw [T.pl,T.ql,show C3 (((r+1-M:Nat):Int)-1)=((r+1-(M+1):Nat):Int) by rw [B9]<;>omega]
   have aa:=B0 l6 (B0 l7 l8)
   have S:=B0 l3 (B0 O aa)
   have BA:∀ e,wA=some ⟨e,0,none⟩->A6≠some ⟨e,0,none⟩:=fun e q=>by
    obtain ⟨x,a⟩:=ah.blk q
    exact (G e x a fun F=>T.AB e F q).2
   refine ⟨⟨M+1,A6,B8,c6,c8,g8,o8,_,_,fun i=>if i=M then f else X i,fun i=>if i=M then q7 else w i,oo,rfl,B0 T.le S,s8,t7.keep l8 fun x e=>(E b x e T.Bb).1,af.keep fun e x F a=>(E e x a fun q=>BA e q F).1,al,by have:=T.pl;simp;omega,by have:=T.ql;simp;omega,?_,?_,fun l j hl N=>?_,fun l hl=>?_,A6b,(E b _ an T.Bb).2,fun e q=>?_⟩,by simp [iAt];omega⟩
   ·have rA:Row (RWr C) g8 ps ps.length (fun i=>if i=M then f else X i):=by
     rw [T.pl]
     exact (T.pr.mono (Q0 _) S).congr fun i hi=>(iN oo).symm
    have rB:=rA.push (w:=(⟨some ⟨R,0,none⟩,C,lc⟩:HV)) (by rw [T.pl,iP rfl];exact ⟨rfl,by have:=Q.1;show C<=lc;omega,rv.mono F3 aa⟩)
    have e:=T.pl
    grind
   ·have rA:Row NQr g8 ws ws.length (fun i=>if i=M then q7 else w i):=by
     rw [T.ql]
     exact (T.qr.mono F3 S).congr fun i hi=>(iN oo).symm
    have rB:=rA.push (w:=w7) (by rw [T.ql,iP rfl];exact F3 _ _ _ _ l8 i7)
    have e:=T.ql
    grind
   ·split
    ·exact hs j N
    ·exact T.hX l j oo N
   ·split
    ·exact ak
    ·exact T.hw l oo
   ·obtain ⟨x,a⟩:=af.blk q
    exact (E e x a fun q2=>BA e q2 q).2
 ·obtain rfl:M=r+1:=oo
  exact hK _ _ _ _ _ X w hp oo oo (B0 T.le T.s.le) ⟨ps,T.p.slF T.s.ole,T.pl,T.pr.mono (Q0 v) T.s.le⟩ ⟨ws,T.q.slF T.s.ole,T.ql,T.qr.mono F3 T.s.le⟩ T.hX T.hw
end
def Zm{x y:Nat->Rat}: ∀ (e:List Int) (a:Nat),(∀ j,a<=j->j<a+e.length->x j=y j)->mvl x e a=mvl y e a
 | [],_,_=>rfl
 | e::es,a,h=>by
  unfold mvl
  rw [h a o (by simp),Zm es (a+1) fun j h1 h2=>h j o (by simp at h2 ⊢;omega)]
def B6b{s k:Nat}(hk:k<s)(f:Nat->Rat)(d:Rat):sm s (fun l=>if l=k then f l+d else f l)=sm s f+d:=by
 induction s with
 | zero=>omega
 | succ s ih=>
  unfold sm
  by_cases e:k=s
  ·subst e
   rw [C4 (g:=f) fun i a=>iN o]
   dsimp only
   rw [iP rfl]
   grind
  ·rw [ih o]
   dsimp only
   rw [iN o]
   grind
structure Mrg (v:Nat) (X:Nat->Nat->Rat) (w:Nat->Rat) (i s:Nat) (q:Nat->Nat) (U:Nat->Rat):Prop where
 le:s<=i
 s1:1<=i->1<=s
 lt:∀ k,k<s->q k<i
 dif:PtD s v fun k=>X (q k)
 pos:∀ k,k<s->0<U k
 sz:∀ k,k<s->Sz (9*i) (U k)
 sum:∀ e:List Int,e.length=v->sm i (fun l=>w l*mvl (X l) e 0)=sm s fun k=>U k*mvl (X (q k)) e 0
section
variable {v i s:Nat} {X:Nat->Nat->Rat} {w U:Nat->Rat} {q:Nat->Nat}
def Mrg.nil:Mrg v X w 0 0 q U:=⟨o,o,o,fun _ _ h=>o,o,o,fun _ _=>rfl⟩
def Mrg.new(m:Mrg v X w i s q U)(hw:0<w i)(hs:Sz 8 (w i))(hd:∀ k,k<s->∃ j,j<v/\X i j≠X (q k) j):Mrg v X w (i+1) (s+1) (fun k=>if k=s then i else q k) (fun k=>if k=s then w i else U k):=by
 refine ⟨by have:=m.le;omega,o,fun k a=>?_,fun k l a p c=>?_,fun k a=>?_,fun k a=>?_,fun e g=>?_⟩
 ·split
  ·omega
  ·have:=m.lt k o;omega
 ·by_cases d:k=s
  ·have b:l≠s:=o
   simp only [d,b,if_true,if_false]
   exact hd l o
  ·by_cases b:l=s
   ·simp only [d,b,if_true,if_false]
    obtain ⟨j,f,n⟩:=hd k o
    exact ⟨j,f,Ne.symm n⟩
   ·simp only [d,b,if_false]
    exact m.dif k l o o c
 ·split
  ·exact hw
  ·exact m.pos k o
 ·split
  ·exact hs.mono o
  ·exact (m.sz k o).mono o
 ·show sm i _+_=sm s _+_
  rw [m.sum e g]
  dsimp only
  rw [iP rfl,iP rfl]
  refine congrArg (· + _) (C4 fun k a=>?_)
  rw [iN o,iN o]
def Mrg.old(m:Mrg v X w i s q U)(hw:0<w i)(hs:Sz 8 (w i)){k:Nat}(hk:k<s)(he:∀ j,j<v->X i j=X (q k) j):Mrg v X w (i+1) s q (fun l=>if l=k then U l+w i else U l):=by
 refine ⟨by have:=m.le;omega,fun _=>o,fun l a=>by have:=m.lt l a;omega,m.dif,fun l a=>?_,fun l a=>?_,fun e b=>?_⟩
 ·split
  ·have:=m.pos l a;grind
  ·exact m.pos l a
 ·split
  ·exact ((m.sz l a).add hs).mono o
  ·exact (m.sz l a).mono o
 ·show sm i _+_=_
  rw [m.sum e b]
  dsimp only
  rw [Zm (x:=X i) (y:=X (q k)) e 0 fun j _ c=>he j o,<- B6b hk]
  refine C4 fun l a=>?_
  split
  ·rename_i h;rw [h];grind
  ·rfl
end
section
variable {α β α2 β2:Type} [E:Enc α] [E2:Enc α2] {R:aJ->α->β->Prop} {e e2:bF} {h0 hp:aJ} {A A2:Option aO} {c n c2 n2:Nat} {f:Nat->β} {R2:aJ->α2->β2->Prop} {f2:Nat->β2} {P:bV}
def Lst2.weak{h1:aJ}(w:h1.le h0)(l:bK R e R2 e2 h0 hp A c n f A2 c2 n2 f2):bK R e R2 e2 h1 hp A c n f A2 c2 n2 f2:=by
 obtain ⟨g,o,a,d,b,r⟩:=l
 exact ⟨g,o,a,d,B0 w b,r⟩
def Lst2.congr{f':Nat->β}(l:bK R e R2 e2 h0 hp A c n f A2 c2 n2 f2)(x:∀ i,i<n->f i=f' i):bK R e R2 e2 h0 hp A c n f' A2 c2 n2 f2:=by
 obtain ⟨g,o,j,d,q,s,w,m,k,p,a,r,b⟩:=l
 exact ⟨g,o,j,d,q,s,w,m,k,p,a,r.congr x,b⟩
def Lst2.litR{α3 β3:Type}[E3:Enc α3]{R3:aJ->α3->β3->Prop}(m:Mon R)(m2:Mon R2)(m3:Mon R3){t e3:bF}{z:aS}{bytes:Nat}(st:SliceT P t e3 z E3.default.size bytes)(l:bK R e R2 e2 h0 hp A c n f A2 c2 n2 f2){v:aS}{y:α3}(hv:v.cells=(enc y).toArray)(hsz:E3.default.size<=1000){q:β3}(hR:R3 h0 y q){K:VP}
 (x:∀ b g h',h0.le g->hp.le h'->bK R e R2 e2 g h' A c n f A2 c2 n2 f2->aL R3 g (some ⟨b,0,none⟩) 1 (fun _=>q)->K (.slice (some ⟨b,0,none⟩) 1 1) h'):wpH P (bH t 1 #[(0,v)]) K hp:=by
 obtain ⟨g,o,E,C,p,s,w,F,G,L,k,r,B⟩:=l
 have D:(enc y).length=E3.default.size:=E3.default.len y
 refine Z6 st (vs:=[v]) (fun u d=>by rw [List.mem_singleton.1 d,hv,List.size_toArray,D]) rfl (by simp;omega) rfl fun b j=>?_
 have H:g b=none:=s.free j
 have a:=Heap.le_put (.cells ([v].flatMap fun v=>v.cells.toList).toArray e3) H
 refine x b _ _ (B0 p a) (Heap.le_put _ j) ⟨_,o,E,C,B6 _,s.vis j _,w,F,G,L,k,r.mono m a,B.mono m2 a⟩ ⟨[y],SlV.new _ _ _ _ _ _ (fun i u d=>by simpa [hv] using d),rfl,fun i M=>⟨y,?_,m3 _ _ _ _ (B0 p a) hR⟩⟩
 obtain rfl:i=0:=oo
 rfl
def Lst2.base(pos:0<E.default.size)(l:bK R e R2 e2 h0 hp A c n f A2 c2 n2 f2):∃ g,h0.le g/\bK R e R2 e2 g hp A c n f A2 c2 n2 f2/\∀ i,i<n->∃ a w,A=some a/\R g w (f i)/\∀ j v,(enc w)[j]? = some v->hp.cell? (aG (aG a (i*E.default.size)) j)=some v:=by
 obtain ⟨g,o,b,p,C,s,w,t,u,B,d,r,m⟩:=l
 refine ⟨g,C,⟨g,o,b,p,B6 _,s,w,t,u,B,d,r,m⟩,fun i z=>?_⟩
 have k:i<b.length:=oo
 obtain ⟨a,q,y⟩:=(w.slF s.ole).at pos k
 exact ⟨a,b[i],q,r.get z k,y⟩
def Lst2.call(m:Mon R)(m2:Mon R2){F:FuncId}{args:Array aS}{K:VP}(l:bK R e R2 e2 h0 hp A c n f A2 c2 n2 f2)(x:∀ g,h0.le g->aP P F args g (fun r g'=>g.le g'/\∀ h',hp.le h'->bK R e R2 e2 g' h' A c n f A2 c2 n2 f2->K r h')):aP P F args hp K:=by
 obtain ⟨g,o,p,j,y,s,w,q,t,u,b,r,i⟩:=l
 refine s.call (FCall.mono (x g y) ?_)
 rintro v g' ⟨a,k⟩ h' d
 exact k h' (s.le_le d a) ⟨g',o,p,j,B6 _,d,w,q,t,u,b,r.mono m a,i.mono m2 a⟩
end
def B1t:∀ v:Fin 3,1<=v.val->∀ i:Fin 28,i.val<(mo v 6).length->((mon v 6 i).map Int.toNat).sum<=6:=by decide +kernel
def A88{x:Nat->Rat}: ∀ (e:List Int) (a:Nat),(∀ j,a<=j->j<a+e.length->Whl (x j))->∃ z:Int,mvl x e a=z/\z.natAbs<=2^(e.map Int.toNat).sum
 | [],_,_=>⟨1,rfl,by simp⟩
 | e::es,a,h=>by
  obtain ⟨z,hz,hl⟩:=A88 es (a+1) fun j f c=>h j o (by simp at c ⊢;omega)
  obtain ⟨y,d,b⟩:=h a o (by simp)
  refine ⟨y^e.toNat*z,?_,?_⟩
  ·unfold mvl
   rw [hz,d,Rat.intCast_mul,Rat.intCast_pow]
  ·rw [Int.natAbs_mul,Int.natAbs_pow,List.map_cons,List.sum_cons,Nat.pow_add]
   exact aQ (Nat.pow_le_pow_left b _) hl
def C0g{v n:Nat}{X:Nat->Nat->Rat}{w:Nat->Rat}{e:List Int}(he:e.length=v)(hd:(e.map Int.toNat).sum<=6)(hX:∀ l j,l<n->j<v->Whl (X l j))(hw:∀ l,l<n->W12 (w l)):∀ k,k<=n->∃ z:Int,ofS w X e k*12=z/\z.natAbs<=k*6912:=by
 intro k
 induction k with
 | zero=>exact fun _=>⟨0,by unfold ofS sm;simp,by simp⟩
 | succ k ih=>
  intro g
  obtain ⟨z,f,m⟩:=ih o
  obtain ⟨y,c,a⟩:=A88 (x:=X k) e 0 fun j _ i=>hX k j o o
  obtain ⟨u,d,r,q⟩:=hw k o
  have b:y.natAbs<=64:=aY a (aU dc hd)
  refine ⟨z+u*y,?_,?_⟩
  ·have:ofS w X e (k+1)=ofS w X e k+w k*mvl (X k) e 0:=rfl
   rw [this,c,Rat.intCast_add,Rat.intCast_mul,<- f,<- d]
   grind
  ·have p:(u*y).natAbs<=108*64:=by rw [Int.natAbs_mul];exact aQ o b
   omega
def C1c{x:Rat}{z:Int}(h:x*12=z)(hz:z.natAbs<=20736):Sz 15 x:=by
 have e:x=bN z 12:=by rw [bG,<- h];grind
 rw [e]
 exact S1 dc (by unfold ZB;omega) (by unfold ZB;decide)
def C0f{v n:Nat}{X:Nat->Nat->Rat}{w:Nat->Rat}(v1:1<=v)(v2:v<=2)(hn:n<=3)(hX:∀ l j,l<n->j<v->Whl (X l j))(hw:∀ l,l<n->W12 (w l)):∀ i,i<(mo v 6).length->Sz 15 (ofS w X (mon v 6 i) n):=fun i a=>by
 have c:=(T4 v1 v2 (show 6<=6 from o)).len
 obtain ⟨z,d,b⟩:=C0g (Gh v1 v2 (show 6<=6 from o) a).1 (B1t ⟨v,o⟩ v1 ⟨i,o⟩ a) hX hw n (aC _)
 exact C1c d (aY b o)
abbrev YU(v:Nat)(X:Nat->Nat->Rat)(h0 hp:aJ)(A:Option aO)(c s:Nat)(q:Nat->Nat)(B:Option aO)(d:Nat)(U:Nat->Rat):Prop:=bK (RWr v) 27 NQr 37 h0 hp A c s (fun k=>X (q k)) B d s U
section
variable {h:aJ} {A:Option aO} {xs:List Int}
def law_extractRecovers{ac:Nat}(gl:Gl h)(sl:SlI .i64 h A xs)(hc:xs.length<=ac):aP prog 3 #[.slice A xs.length ac] h (C17 h):=by
 refine (fnk func3 [(7,[7,8,37],[],[.slice none 0 0,.slice none 0 0,I 0]),(10,[10],[],[I 0]),(25,[147],[],[I 0]),(31,[175],[],[I 0])] (cs:=[(12,[10],[],[I 0])]) (os:=[(10,[0,1,2,3,4,5,6,7,8,10,11,12,13,9,14,15,16,17]),(13,[0,1,2,3,4,7,8,9,10,11,5,6,12,13,14,15]),(28,[0,1,2,3,4,5,6,7,9,10,11,12,8,13,14,15]),(34,[0,1,2,3,4,6,7,8,9,10,11,12,5,13,14,15])]) (al:=[(13,[(5,[12]),(6,[12]),(11,[5,6])])]) (own:=[11,20]) (wr:=[8,9,1000000000])) ?_
 refine A7q sl hc ?_
 intro b h1 o1 s1 t1 _
 generalize xs.take 400=ys at t1
 refine ⟨_,rfl,Dn (n:=2) s1 t1 o ?_⟩
 intro r h2 o2 hr s2 t2 _
 refine ⟨_,rfl,?_⟩
 try dsimp only
 obtain ⟨v,hv⟩:∃ v,v=r+1:=⟨_,rfl⟩
 rw [show C3 (1+(r:Int))=(v:Int) by rw [B9]<;>omega]
 have v1:1<=v:=o
 have v2:v<=2:=o
 refine A29 v1 v2 s2 t2 ?_
 intro n XA xc WA wc X w h3 n1 n3 G rX rW hX hw
 refine ⟨_,_,_,_,_,_,rfl,?_⟩
 refine ⟨fun L hp=>∃ (i s:Nat) (yA uA:Option aO) (yc uc:Nat) (q:Nat->Nat) (U:Nat->Rat),i<=n/\L=[.slice yA s yc,.slice uA s uc,I (i:Int)]/\Mrg v X w i s q U/\YU v X h3 hp yA yc s q uA uc U,fun L _=>n-(iAt L 2).toNat,⟨0,0,none,none,0,0,fun _=>0,fun _=>0,o,rfl,Mrg.nil,Lst2.nil⟩,?_⟩
 rintro ar yn ap ah c aq z hp ⟨i,s,yA,uA,yc,uc,q,U,hi,eL,M,L⟩
 simp only [aD,aH,aI,true_and,and_true] at eL
 obtain ⟨⟨rfl,rfl,rfl⟩,⟨rfl,rfl,rfl⟩,rfl⟩:=eL
 refine C0 (fun b5=>?_) (fun cj=>?_)
 ·have F:i<n:=o
  have Ml:=M.le
  have sX:∀ k,k<n->∀ j,j<v->Sz 2 (X k j):=fun k hk j f=>(hX k j hk f).sz
  refine ⟨fun L hq=>∃ k:Nat,k<=c/\L=[I (k:Int)]/\(∀ l,l<k->∃ j,j<v/\X i j≠X (q l) j)/\(k<c->∀ j,j<v->X i j=X (q k) j)/\YU v X h3 hq ar ap c q ah aq U,?_,?_⟩
  ·refine ⟨fun L hq=>∃ k:Nat,k<=c/\L=[I (k:Int)]/\(∀ l,l<k->∃ j,j<v/\X i j≠X (q l) j)/\YU v X h3 hq ar ap c q ah aq U,fun L _=>c-(iAt L 0).toNat,⟨0,o,rfl,fun _ W=>o,L⟩,?_⟩
   rintro z2 hq ⟨k,hk,bu,hd,Lk⟩
   obtain rfl:=sI1 bu
   refine C0 (fun bt=>?_) (fun br=>?_)
   ·have aj:k<c:=o
    obtain ⟨g,lg,Lg,aw⟩:=Lk.base dc
    obtain ⟨a1,t1,e1,⟨q1,q2,q3⟩,c1⟩:=rX.at dc F
    obtain ⟨a2,t2,e2,⟨p1,p2,p3⟩,c2⟩:=aw k aj
    have c1:=C1 (B0 lg Lg.le) (c1 0 _ rfl)
    have c2:=c2 0 _ rfl
    rw [V9] at c1 c2
    refine ⟨a1,e1,o,o,_,_,_,c1,a2,e2,o,o,_,_,_,c2,?_⟩
    rw [q1,p1]
    refine Lg.call (Q0 v) F3 fun g3 bj=>Nf (m:=2) (q3.mono F3 (B0 lg bj)) o (sX i F) o fun b4 g4 w4=>⟨w4.le,fun h4 b7 L4=>⟨_,_,_,rfl,b7,?_⟩⟩
    have Q:=B0 bj w4.le
    refine L4.call (Q0 v) F3 fun g5 bg=>Nf (m:=2) (p3.mono F3 (B0 Q bg)) o (sX (q k) (by have:=M.lt k aj;omega)) o fun b6 g6 w6=>⟨w6.le,fun h6 a4 L6=>⟨_,_,_,rfl,a4,?_⟩⟩
    have bl:=B0 bg w6.le
    have bp:=B0 lg (B0 Q bl)
    refine L6.call (Q0 v) F3 fun g7 an=>Kh ((w4.vis E8).mono E8 (B0 bl an)) ((w6.vis E8).mono E8 an) o (fun _ eq=>⟨B6 _,fun h8 a0 L8=>⟨_,rfl,a0,?_⟩⟩) (fun ne=>⟨B6 _,fun h8 a0 L8=>⟨_,rfl,a0,?_⟩⟩)
    ·exact Br.nt ⟨k,o,rfl,hd,fun _ j f=>Vj (eq j f),L8.weak (B0 bp an)⟩
    ·refine (show Br true _ _ from B2e ?_)
     rw [wiS k o]
     refine ⟨⟨k+1,o,rfl,fun l W=>?_,L8.weak (B0 bp an)⟩,by simp only [Y2];omega⟩
     by_cases bx:l=k
     ·subst bx
      refine aR fun no=>ne ⟨rfl,fun j f=>?_⟩
      refine congrArg E7 (aR fun z=>no ⟨j,f,z⟩)
     ·exact hd l o
   ·obtain rfl:k=c:=o
    exact ⟨k,o,rfl,hd,fun e=>o,Lk⟩
  ·rintro z3 hq ⟨k,hk,ca,hd,he,Lk⟩
   obtain rfl:=sI1 ca
   obtain ⟨a1,t1,e1,⟨q1,q2,q3⟩,c1⟩:=rX.at dc F
   have c1:=c1 0 _ rfl
   rw [V9] at c1
   obtain ⟨a2,w2,e2,n2,b0,b1,b2,b3⟩:=rW.qat F
   have O:=fun {H:aJ} (l:h3.le H) {x:aO} {u:aS} (z:h3.cell? x=some u)=>C1 l z
   refine D8 (fun aj=>?_) (fun aj=>?_)
   ·obtain rfl:k=c:=o
    have Mn:=M.new (hw i F).sz.2 (hw i F).sz.1 hd
    have R:∀ h' A' c' B' d',YU v X h3 h' A' c' (k+1) (fun l=>if l=k then i else q l) B' d' (fun l=>if l=k then w i else U l)->(∃ (i' s:Nat) (yA uA:Option aO) (yc uc:Nat) (q:Nat->Nat) (U:Nat->Rat),i'<=n/\([.slice A' (k+1) c',.slice B' (k+1) d',I (C3 ((i:Int)+1))]:List aS)=[.slice yA s yc,.slice uA s uc,I (i':Int)]/\Mrg v X w i' s q U/\YU v X h3 h' yA yc s q uA uc U)/\n-(iAt [.slice A' (k+1) c',.slice B' (k+1) d',I (C3 ((i:Int)+1))] 2).toNat<n-(iAt [.slice ar k ap,.slice ah k aq,I (i:Int)] 2).toNat:=fun h' A' c' B' d' L'=>by
     rw [wiS i o]
     exact ⟨⟨i+1,k+1,_,_,_,_,_,_,o,rfl,Mn,L'⟩,by simp [iAt];omega⟩
    have L0:bK (RWr v) 27 NQr 37 h3 hq ar ap k (fun l=>X (if l=k then i else q l)) ah aq k (fun l=>if l=k then w i else U l):=((Lk.congr (f':=fun l=>X (if l=k then i else q l)) fun l W=>by rw [iN o]).swap.congr (f':=fun l=>if l=k then w i else U l) fun l W=>by rw [iN o]).swap
    have RX:=fun {H:aJ} (l:h3.le H)=>(⟨q1,q2,q3.mono F3 l⟩:RWr v H t1 (X i))
    have RW:=fun {H:aJ} (l:h3.le H)=>(NQ.mono l n2:NQr H w2 (w i))
    have eX:∀ j,j<1->(fun l=>X (if l=k then i else q l)) (k+j)=X i:=fun j f=>by
     obtain rfl:j=0:=o
     simp
    have eW:∀ j,j<1->(fun l=>if l=k then w i else U l) (k+j)=w i:=fun j f=>by
     obtain rfl:j=0:=o
     simp
    have a9:=B6 h3
    refine ⟨a1,e1,o,o,_,_,_,O L0.le c1,a2,e2,o,o,?_⟩
    refine ⟨⟨_,_,_,_,_,_,_,_,O L0.le b0,O L0.le b1,O L0.le b2,O L0.le b3,?_,?_⟩,?_⟩
    ·refine L0.litR (Q0 v) F3 (Q0 v) A6v (y:=t1) rfl dc (RX a9) fun _ _ _ C m1 L1 r1=>⟨_,_,_,rfl,m1,?_,?_⟩
     ·refine L1.app (Q0 v) F3 A6v rfl (j:=1) r1 o eX dc o fun _ _ _ L2=>⟨_,_,_,rfl,?_⟩
      refine L2.litR (Q0 v) F3 F3 Eh (y:=w2) rfl dc (RW C) fun _ _ _ G m3 L3 r3=>⟨_,_,_,rfl,m3,?_⟩
      refine L3.swap.app F3 (Q0 v) Eh rfl (j:=1) r3 o eW dc o fun _ _ _ L4=>⟨_,_,_,rfl,R _ _ _ _ _ (L4.swap.weak (B0 C G))⟩
     ·refine L1.litR (Q0 v) F3 F3 Eh (y:=w2) rfl dc (RW C) fun _ _ _ G m3 L3 r3=>⟨_,_,_,rfl,m3,?_⟩
      refine L3.app (Q0 v) F3 A6v rfl (j:=1) (r1.mono (Q0 v) G) o eX dc o fun _ _ _ L2=>⟨_,_,_,rfl,?_⟩
      refine L2.swap.app F3 (Q0 v) Eh rfl (j:=1) r3 o eW dc o fun _ _ _ L4=>⟨_,_,_,rfl,R _ _ _ _ _ (L4.swap.weak (B0 C G))⟩
    ·refine L0.litR (Q0 v) F3 F3 Eh (y:=w2) rfl dc (RW a9) fun _ _ _ G m3 L3 r3=>⟨_,_,_,rfl,m3,?_⟩
     refine L3.litR (Q0 v) F3 (Q0 v) A6v (y:=t1) rfl dc (RX G) fun _ _ _ C m1 L1 r1=>⟨_,_,_,rfl,m1,?_⟩
     refine L1.app (Q0 v) F3 A6v rfl (j:=1) r1 o eX dc o fun _ _ _ L2=>⟨_,_,_,rfl,?_⟩
     refine L2.swap.app F3 (Q0 v) Eh rfl (j:=1) (r3.mono F3 C) o eW dc o fun _ _ _ L4=>⟨_,_,_,rfl,R _ _ _ _ _ (L4.swap.weak (B0 G C))⟩
    ·refine L0.litR (Q0 v) F3 (Q0 v) A6v (y:=t1) rfl dc (RX a9) fun _ _ _ C m1 L1 r1=>⟨_,_,_,rfl,m1,⟨_,_,_,_,_,_,_,_,O (B0 C L1.le) b0,O (B0 C L1.le) b1,O (B0 C L1.le) b2,O (B0 C L1.le) b3,?_,?_⟩,?_⟩
     ·refine L1.app (Q0 v) F3 A6v rfl (j:=1) r1 o eX dc o fun _ _ _ L2=>⟨_,_,_,rfl,?_⟩
      refine L2.litR (Q0 v) F3 F3 Eh (y:=w2) rfl dc (RW C) fun _ _ _ G m3 L3 r3=>⟨_,_,_,rfl,m3,?_⟩
      refine L3.swap.app F3 (Q0 v) Eh rfl (j:=1) r3 o eW dc o fun _ _ _ L4=>⟨_,_,_,rfl,R _ _ _ _ _ (L4.swap.weak (B0 C G))⟩
     ·refine L1.litR (Q0 v) F3 F3 Eh (y:=w2) rfl dc (RW C) fun _ _ _ G m3 L3 r3=>⟨_,_,_,rfl,m3,?_⟩
      refine L3.app (Q0 v) F3 A6v rfl (j:=1) (r1.mono (Q0 v) G) o eX dc o fun _ _ _ L2=>⟨_,_,_,rfl,?_⟩
      refine L2.swap.app F3 (Q0 v) Eh rfl (j:=1) r3 o eW dc o fun _ _ _ L4=>⟨_,_,_,rfl,R _ _ _ _ _ (L4.swap.weak (B0 C G))⟩
     ·refine L1.app (Q0 v) F3 A6v rfl (j:=1) r1 o eX dc o fun _ _ _ L2=>⟨_,_,_,rfl,_,_,_,_,_,_,_,_,O (B0 C L2.le) b0,O (B0 C L2.le) b1,O (B0 C L2.le) b2,O (B0 C L2.le) b3,?_⟩
      refine L2.litR (Q0 v) F3 F3 Eh (y:=w2) rfl dc (RW C) fun _ _ _ G m3 L3 r3=>⟨_,_,_,rfl,m3,?_⟩
      refine L3.swap.app F3 (Q0 v) Eh rfl (j:=1) r3 o eW dc o fun _ _ _ L4=>⟨_,_,_,rfl,R _ _ _ _ _ (L4.swap.weak (B0 C G))⟩
   ·have t:k<c:=o
    have eq:=he t
    have Mo:=M.old (hw i F).sz.2 (hw i F).sz.1 t eq
    obtain ⟨g,lg,Lg,aw⟩:=Lk.swap.base dc
    obtain ⟨a3,w3,e3,n4,d0⟩:=aw k t
    refine ⟨a3,e3,o,o,_,_,_,_,_,_,_,_,d0 0 _ rfl,d0 1 _ rfl,d0 2 _ rfl,d0 3 _ rfl,a2,e2,o,o,_,_,_,_,_,_,_,_,O Lk.le b0,O Lk.le b1,O Lk.le b2,O Lk.le b3,?_⟩
    refine Lg.swap.call (Q0 v) F3 fun g4 Q=>Dm (a:=w3) (b:=w2) (m:=40) (NQ.mono Q n4) (NQ.mono (B0 lg Q) n2) ((M.sz k t).mono o) ((hw i F).sz.1.mono o) o fun w5 h5 l5 i5=>⟨l5,fun h6 a4 L6=>⟨_,_,_,_,_,_,_,_,rfl,a4,?_⟩⟩
    obtain ⟨b6,bn⟩:∃ b,ah=some ⟨b,0,none⟩:=by
     obtain ⟨_,_,_,df,_,_,_,w6,_,_,de,_⟩:=id L6
     obtain ⟨b,hb,_⟩:=w6.rowB gz0
     exact ⟨b,hb⟩
    refine ⟨_,bn,o,o,?_⟩
    rw [aF]
    refine L6.set F3 Yl bn t (y:=w5) rfl (z:=U k+w i) i5 fun h7 L7=>?_
    rw [wiS i o]
    exact ⟨⟨i+1,c,_,_,_,_,q,_,o,rfl,Mo,((L7.swap.congr (f':=fun l=>if l=k then U l+w i else U l) fun l W=>by
     by_cases z:l=k
     ·subst z;simp
     ·simp [z]).swap).weak (B0 lg (B0 Q l5))⟩,by simp [iAt];omega⟩
 ·obtain rfl:i=n:=o
  have Ml:=M.le
  have s1:=M.s1 n1
  have bq:=C0f v1 v2 n3 hX hw
  have db:=(T4 v1 v2 (show 6<=6 from o)).len
  refine Yu (D:=6) (RowsV.of (rX.mono (Q0 v) L.le)) (rW.mono F3 L.le) n1 n3 v1 v2 o (fun l j W f=>(hX l j W f).sz) (fun l W=>(hw l W).sz.1.mono o) fun A9 c9 h9 l9 r9=>⟨_,_,_,_,_,rfl,?_⟩
  refine Oo r9 o bq o fun A10 ae b8 bf ba=>⟨_,_,_,_,_,rfl,?_⟩
  have bi:=B0 L.le (B0 l9 bf)
  have bk:=gl.mono (B0 G bi)
  generalize hy:(fun k=>X (q k))=y at L
  have Mdif:=M.dif
  rw [hy] at Mdif
  have eV:∀ j,j<(mo v 6).length->ofS w X (mon v 6 j) i=ptV c U y v 6 j:=fun j f=>by
   rw [<- hy];exact M.sum _ (Gh v1 v2 (show 6<=6 from o) f).1
  have sV:∀ j,j<(mo v 6).length->Sz 15 (ptV c U y v 6 j):=fun j f=>by rw [<- eV j f];exact bq j f
  have ba:aL SSr b8 A10 (mo v 6).length (fun j=>E7 (ptV c U y v 6 j)):=ba.congr fun j f=>by rw [eV j f]
  have bo:∀ l j,l<c->j<v->Sz 2 (y l j):=fun l j W f=>by rw [<- hy];exact (hX (q l) j (M.lt l W) f).sz
  have au:Pts c v U y:=⟨s1,o,v1,v2,Mdif,M.pos⟩
  have bm:=au.rk (d:=3) (D:=6) o o o o
  have am:=au.rk (d:=2) (D:=6) o o o o
  refine Ig bk (B36 v1 v2 o sV ba) o (aC _) (d:=3) o (fun e=>o) (fun _ _ no=>absurd ⟨by rw [bm,am],by rw [bm];omega,au.psd o o o⟩ no) fun d' ed _ _ _ _=>?_
  obtain rfl:d'=2:=o
  obtain ⟨N,hN,X2,T⟩:=au.xok (d:=2) (D:=6) o o o o sV bo (fun l W=>(M.sz l W).mono o)
  refine ⟨N,100000,X2,fun FA fc MA mc CA cc WB wd dg cm xt=>⟨_,_,_,_,_,_,_,_,_,_,_,_,_,rfl,E6 (fun e=>absurd rfl e) (fun _=>?_)⟩⟩
  obtain ⟨xf,xm,xc,xw⟩:=xt
  have sP:=X2.sP
  have mS:=X2.wS
  rw [am] at xm xw sP mS ⊢
  refine E6 (fun e=>absurd (by rw [B9]<;>omega) e) (fun _=>?_)
  refine E6 (fun e=>absurd rfl e) (fun _=>?_)
  refine Is (m:=100000) xm o (fun j f=>sP j o) o (fun k hk=>?_) fun A12 cy da bc bd=>⟨_,_,_,_,rfl,?_⟩
  ·obtain rfl:k=c:=o
   unfold Hw
   rw [T.deg,iP rfl]
   decide
  ·refine Zj (xf.mono E8 bc) o (fun j f=>(Tx.of (Yn o j) o).len) (fun _ ce bv ak=>⟨_,_,_,_,rfl,?_⟩) (fun no=>absurd (fun j _=>⟨_,rfl⟩) no)
   have rF:aL NQr bv (some ⟨ce,0,none⟩) v (frm N):=(ak.vis F3).congr fun j _=>F9 _
   have cw:=A6p (wgX (ptV c U y v 6) v 2 (fmM (ptV c U y v 6) (frm N) v 2) (Hw (fmM (ptV c U y v 6) (frm N) v 2) c) c) c
   refine Is (m:=10000000) (xw.mono E8 (B0 bc ak.le)) o (fun j f=>mS j o) o (fun k hk=>A3c hk) fun A14 ct aa ay cq=>⟨_,_,_,_,rfl,Br.nt (Br.nt (Br.nt ?_))⟩
   have ai:=B0 bc (B0 ak.le ay)
   have af:hp.le aa:=B0 (B0 l9 bf) (B0 cm ai)
   have rY:=(L.row (Q0 v)).mono (Q0 v) af
   have rU:=(L.swap.row F3).mono F3 af
   have bd:=bd.mono F3 (B0 ak.le ay)
   have rF:=rF.mono F3 ay
   have xc:=xc.mono A5g ai
   have av:=B0 (B0 G L.le) af
   refine ⟨fun L hp=>∃ k:Nat,k<=c/\L=[I (k:Int)]/\aa.le hp,fun L _=>c-(iAt L 0).toNat,⟨0,o,rfl,B6 _⟩,?_⟩
   rintro z5 cu ⟨k,hk,b9,V⟩
   obtain rfl:=sI1 b9
   refine C0 (fun b5=>?_) (fun cj=>?_)
   ·have t:k<c:=o
    have cl:=fun {H:aJ} (l:aa.le H) {x:aO} {u:aS} (z:aa.cell? x=some u)=>C1 l z
    obtain ⟨a5,t5,e5,⟨g1,g2,g3⟩,c5⟩:=rY.at dc t
    have c5:=c5 0 _ rfl
    rw [V9] at c5
    have g3:aL NQr aa t5.A v (y k):=by rw [<- hy];exact g3
    refine ⟨a5,e5,o,o,_,_,_,cl V c5,?_⟩
    rw [g1]
    have fS:∀ j,j<v->Sz 31 (frm N j):=fun j f=>(Yn o j).mono o
    have yS:∀ j,j<v->Sz 31 (y k j):=fun j f=>(bo k j t f).mono o
    have pS:Sz 300 (phi (frm N) y v k):=(B2h (m:=63) o fun j f=>((fS j f).mul (yS j f)).mono o).mono o
    refine A8p (m:=31) (rF.mono F3 V) (g3.mono F3 V) o fS yS o fun w6 bh a6 i6=>⟨_,_,_,_,_,_,_,_,rfl,?_⟩
    change NQ bh w6 (phi (frm N) y v k) at i6
    have ad:=B0 V a6
    have z7:pvl (Hw (fmM (ptV c U y v 6) (frm N) v 2) c) (c+1) (phi (frm N) y v k)=0:=by
     have e:=T.min k t
     unfold pvl at e ⊢
     show sm c _+_=_
     rw [C4 (g:=fun j=>(-1)*(phi (frm N) y v k^j*A9y (fmM (ptV c U y v 6) (frm N) v 2) c j)) fun j f=>by unfold Hw;rw [T.deg,iN o];grind,J9,e]
     dsimp only
     unfold Hw
     rw [T.deg,iP rfl]
     grind
    refine Qo (m:=100000) (bd.mono F3 ad) i6 o (fun j f=>sP j o) (pS.mono o) o fun w7 c8 ao i7=>⟨_,_,_,_,_,_,_,_,rfl,ao,?_⟩
    rw [z7] at i7
    refine Hi i7 ⟨_,rfl,B6 _,E6 (fun e=>absurd rfl e) (fun _=>?_)⟩
    have p:=B0 ad ao
    obtain ⟨a8,w8,e8,n8,d0,d1,d2,d3⟩:=rU.qat t
    refine ⟨a8,e8,o,o,_,_,_,_,_,_,_,_,cl p d0,cl p d1,cl p d2,cl p d3,?_⟩
    have z9:pvl (wgX (ptV c U y v 6) v 2 (fmM (ptV c U y v 6) (frm N) v 2) (Hw (fmM (ptV c U y v 6) (frm N) v 2) c) c) (trN (wgX (ptV c U y v 6) v 2 (fmM (ptV c U y v 6) (frm N) v 2) (Hw (fmM (ptV c U y v 6) (frm N) v 2) c) c) c) (phi (frm N) y v k)=U k:=by rw [B2t];exact T.wgt k t
    refine Qo (m:=10000000) (cq.mono F3 p) (NQ.mono ao i6) o (fun j f=>mS j o) (pS.mono o) o fun w9 ch bb i9=>⟨_,_,_,_,_,_,_,_,rfl,bb,?_⟩
    rw [z9] at i9
    have ag:=B0 p bb
    have sU:Sz 40 (U k):=(M.sz k t).mono o
    refine Yx (m:=40) i9 (NQ.mono ag n8) sU sU o ⟨_,rfl,B6 _,?_⟩
    rw [Rat.sub_self]
    refine E6 (fun e=>absurd rfl e) (fun _=>?_)
    refine ⟨fun L hp=>∃ j:Nat,j<=v/\L=[I (j:Int)]/\ch.le hp,fun L _=>v-(iAt L 0).toNat,⟨0,o,rfl,B6 _⟩,?_⟩
    rintro z8 cz ⟨j,f,cn,ax⟩
    obtain rfl:=sI1 cn
    have E:=B0 ag ax
    refine C0 (fun bt=>?_) (fun br=>?_)
    ·have S:j<v:=o
     obtain ⟨bw,cv,cf,⟨u1,u2⟩,ae⟩:=xc.at dc S
     have ae:=ae 0 _ rfl
     rw [V9] at ae
     have cP:B8q (ptV c U y v 6) v 2 N j=(trN (A0l (ptV c U y v 6) v 2 (fmM (ptV c U y v 6) (frm N) v 2) j) c,A0l (ptV c U y v 6) v 2 (fmM (ptV c U y v 6) (frm N) v 2) j):=by unfold B8q;rw [am]
     rw [cP] at u1 u2
     have tC:=A6p (A0l (ptV c U y v 6) v 2 (fmM (ptV c U y v 6) (frm N) v 2) j) c
     have cS:=X2.cooS j S
     rw [am] at cS
     refine ⟨bw,cf,o,o,_,_,_,cl E ae,?_⟩
     rw [u1]
     refine Is (m:=10000000) (u2.mono E8 E) (by show trN _ _<=_;omega) (fun i hi=>cS i (by have hi:i<trN _ _:=hi;omega)) o (fun k hk=>A3c hk) fun A20 dh cx az cd=>⟨_,_,_,_,rfl,Br.nt ?_⟩
     have B:=B0 E az
     obtain ⟨cb,c7,ck,bz,f0,f1,f2,f3⟩:=g3.qat S
     refine ⟨a5,e5,o,o,_,_,_,cl B c5,cb,ck,o,o,_,_,_,_,_,_,_,_,cl B f0,cl B f1,cl B f2,cl B f3,?_⟩
     have co:pvl (A0l (ptV c U y v 6) v 2 (fmM (ptV c U y v 6) (frm N) v 2) j) (trN (A0l (ptV c U y v 6) v 2 (fmM (ptV c U y v 6) (frm N) v 2) j) c) (phi (frm N) y v k)=y k j:=by rw [B2t];exact T.coo j S k t
     refine Qo (m:=10000000) cd (NQ.mono (B0 ao (B0 bb (B0 ax az))) i6) (by show trN _ _<=_;omega) (fun i hi=>cS i (by have hi:i<trN _ _:=hi;omega)) (pS.mono o) o fun cr cg a7 be=>⟨_,_,_,_,_,_,_,_,rfl,a7,?_⟩
     have be:NQ cg cr (y k j):=co▸be
     refine Yx (m:=40) be (NQ.mono (B0 B a7) bz) ((yS j S).mono o) ((yS j S).mono o) o ⟨_,rfl,B6 _,?_⟩
     rw [Rat.sub_self]
     refine E6 (fun e=>absurd rfl e) (fun _=>?_)
     rw [wiS j o]
     exact ⟨⟨j+1,o,rfl,B0 ax (B0 az a7)⟩,by simp only [Y2];omega⟩
    ·rw [wiS k o]
     exact ⟨⟨k+1,o,rfl,E⟩,by simp only [Y2];omega⟩
   ·exact A0b (gl.mono (B0 av V)) fun bh a6=>⟨_,rfl,rfl,B0 av (B0 V a6)⟩
end
