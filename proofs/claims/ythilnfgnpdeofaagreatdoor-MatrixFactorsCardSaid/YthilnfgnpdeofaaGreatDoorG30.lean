/-
  Texts of this proof, merged by a program of ours.
-/
import Derived.Test.YthilnfgnpdeofaaGreatDoorG29
import Derived.Test.YthilnfgnpdeofaaGreatDoorG19
import Derived.Test.YthilnfgnpdeofaaGreatDoorG21
import Derived.Deep.Strs
namespace Go.Proofs.YthilnfgnpdeofaaGreatDoor
set_option maxRecDepth 20000
open Go
theorem fr1{l s r:Rat}(hl:l≠0)(hs:s≠0):l*(s*r)/l/s=r:=by
 have h1:=Rat.mul_inv_cancel _ hl
 have h2:=Rat.mul_inv_cancel _ hs
 rw [Rat.div_def,Rat.div_def]
 grind
theorem fr2{l si ri sk rk:Rat}(hl:l≠0)(hi:si≠0)(hk:sk≠0):l*(si*ri)/(l*(sk*rk))*sk/si=ri/rk:=by
 have h1:=Rat.mul_inv_cancel _ hl
 have h2:=Rat.mul_inv_cancel _ hi
 have h3:=Rat.mul_inv_cancel _ hk
 rw [Rat.div_def,Rat.div_def,Rat.div_def,Rat.inv_mul_rev,Rat.inv_mul_rev]
 grind
structure LuF (E:Nat->Rat) (n k m:Nat):Prop where
 row:Kp n k (elP E n n k)=I4 n k (T5 n (mtx E n) k)
 val:∀ i j,i<n->k<=i->j<n->((elP E n n k).M i j:Rat)=(elP E n n k).last*((elP E n n k).S i*(T5 n (mtx E n) k).R i j)
 last:(elP E n n k).last≠0
 S:∀ i,i<n->(elP E n n k).S i≠0
 len:(elP E n n k).cs.length=k
 zM:∀ a b,a<n->b<n->ZB (3^k*bnd n m) ((elP E n n k).M a b)
 zl:ZB (3^k*bnd n m) (elP E n n k).last
 zS:∀ a,a<n->Sz (bnd n m) ((elP E n n k).S a)
theorem luF{E:Nat->Rat}{n k m:Nat}(hs:∀ i,i<n*n->Sz m (E i))(hk:k<=n)(inv:LuI n k m (mtx E n) (T5 n (mtx E n) k)):LuF E n k m:=by
 have rel:=Pn E (rows:=n) (cols:=n) hk
 have hl:(elE E n n k).cs.length=k:=inv.len
 have hcs:(elP E n n k).cs.length=k:=by rw [A8t E hk];exact hl
 have z:=Xe (E:=E) (rows:=n) (cols:=n) (c:=k) hs hk
 have zM:=z.M
 have zl:=z.last
 rw [hcs] at zM zl
 refine ⟨?_,fun i j hi hki hj=>?_,rel.last,rel.scale,hcs,zM,zl,z.S⟩
 ·have h2:=inv.row
  have h3:Kp n k (elP E n n k)=Iw n k (elE E n n k):=by
   unfold Kp Iw
   rw [hcs,hl]
   refine Es _ _ fun j h1 h2=>?_
   by_cases hkn:k<n
   ·have hv:=rel.val j k (by omega) hkn
    rw [if_neg (by omega)] at hv
    have h3:=J6 rel.last
    have h4:=rel.scale j (by omega)
    refine decide_eq_decide.2 (not_congr ⟨fun e=>?_,fun e=>?_⟩)
    ·rw [e] at hv
     have h0:((0:Int):Rat)=0:=rfl
     rw [h0] at hv
     rcases Rat.mul_eq_zero.1 hv.symm with e1|e1
     ·exact absurd e1 h3
     ·rcases Rat.mul_eq_zero.1 e1 with e2|e2
      ·exact absurd e2 h4
      ·exact e2
    ·rw [e,Rat.mul_zero,Rat.mul_zero] at hv
     exact_mod_cast hv
   ·omega
  rw [h3]
  exact h2
 ·have hv:=rel.val i j hi hj
  rw [if_neg (by omega)] at hv
  have e:(elE E n n k).R i j=(T5 n (mtx E n) k).R i j:=inv.sync i j hi hki
  rw [hv,e]
theorem A8i{E:Nat->Rat}{n k m:Nat}(F:LuF E n k m)(hr:I4 n k (T5 n (mtx E n) k)<n):(elP E n n (k+1)).M=clr (fun i=>(elP E n n k).M (xch k (I4 n k (T5 n (mtx E n) k)) i)) k k (elP E n n k).last/\(elP E n n (k+1)).S=(fun i=>(elP E n n k).S (xch k (I4 n k (T5 n (mtx E n) k)) i))/\(elP E n n (k+1)).last=(elP E n n k).M (I4 n k (T5 n (mtx E n) k)) k:=by
 have hst:elP E n n (k+1)=Cq n k (elP E n n k):=rfl
 have h1:=F.row
 have h2:=F.len
 rw [hst]
 unfold Cq
 rw [h1,if_pos hr,h2]
 exact ⟨rfl,rfl,rfl⟩
theorem QM.row{h g o:Heap}{b n:Nat}{L:Nat->Nat->Rat}(q:QM g o b n L)(s:Sep h g o)(hn:1<=n):RowV RQr h (some ⟨b,0,none⟩) (n*n) (fun t=>L (t/n) (t%n)):=by
 obtain ⟨xs,r,h1,h2⟩:=q
 refine ⟨xs,r.rowB.slF s.ole,h1,fun t ht=>?_⟩
 obtain ⟨w,e,hw⟩:=h2 (t/n) (t%n) (Nat.div_lt_of_lt_mul ht) (Nat.mod_lt t (by omega))
 rw [Nat.mul_comm,Nat.div_add_mod] at e
 exact ⟨w,e,K3 _ _ _ _ s.le hw⟩
section
variable {h:Heap} {K:Value->Heap->Prop} {A:Option Addr} {n cap m:Nat} {r c:Int} {la:Nat->List UInt8}
theorem A8h(gl:Gl h)(ra:RowV SSr h A n la)(hn:n<=1000000)(hl:∀ i,i<n->(la i).length<=100000000)(hs:∀ i,i<n->Sz m (rv (la i)))(hm1:1<=m)(hb:∀ q,MOk r c n la q q->20*(3^q*bnd q m)+100<=40000000/\7^q*m<=40000000)
 (hK:∀ o,LuO r c n la o->∀ Ap cp Al cl Au cu h',h.le h'->RowV IIr h' Ap o.q (fun i=>((o.p i:Nat):Int))->RowV SSr h' Al o.n o.l->RowV SSr h' Au o.n o.u->K (.tuple #[.slice Ap o.q cp,No o.d o.d Al o.n cl,No o.d o.d Au o.n cu,I o.e]) h'):FCall Tryz.prog B1w #[No r c A n cap] h K:=by
 refine B4t _ _ _ _ _ ?_
 unfold MLU
 refine S8 gl ra hn hl (fun rows cols mk b1 h1 own=>?_) (fun hno h1 l1=>⟨_,_,_,_,rfl,Yo (hK (noL 1) (.inl ⟨hno,rfl⟩) none 0 none 0 none 0 h1 l1 RowV.nil RowV.nil RowV.nil)⟩)
 have l1:=own.le
 refine ⟨_,_,_,_,rfl,Br.nt (K7 (fun e=>hK (noL 4) (.inr (.inl ⟨⟨_,_,mk⟩,e,rfl⟩)) none 0 none 0 none 0 h1 l1 RowV.nil RowV.nil RowV.nil) (fun e=>?_))⟩
 obtain rfl:rows=cols:=by have:=mk.er;have:=mk.ec;omega
 have good:=fun x=>hK ⟨r,rows*rows,rows,(luL (rvs la) rows).p,U4 (luL (rvs la) rows).L rows,U4 (luL (rvs la) rows).R rows,0⟩ (.inr (.inr ⟨rows,mk,.inl ⟨x,rfl⟩⟩))
 have ill:=fun x=>hK (noL 7) (.inr (.inr ⟨rows,mk,.inr ⟨x,rfl⟩⟩))
 obtain ⟨hb1,hb2⟩:=hb rows mk
 have:=mk.r1;have:=mk.r2
 obtain ⟨rfl,rfl,_,_,_,_,rfl,_⟩:=id mk
 clear e
 have hnn:rows*rows<=64*64:=Nat.mul_le_mul (by omega) (by omega)
 have run:=fun k=>LuI.run (n:=rows) (Ov hs) hm1 k
 have facts:=fun k hk inv=>luF (E:=rvs la) (n:=rows) (k:=k) hs hk inv
 have fnext:=fun k (F:LuF (rvs la) rows k m)=>A8i F
 have hbe:bnd rows m=1+rows*m+m:=rfl
 have hb3:bnd rows m<=3^rows*bnd rows m:=Nat.le_mul_of_pos_left _ (Nat.pow_pos (by decide))
 have p3:∀ k,k<=rows->3^k*bnd rows m<=3^rows*bnd rows m:=fun k hk=>Nat.mul_le_mul_right _ (Nat.pow_le_pow_right (by decide) hk)
 have p1:∀ k,1<=3^k*bnd rows m:=fun k=>Nat.mul_pos (Nat.pow_pos (by decide)) (by omega)
 have hE0:(elP (rvs la) rows rows 0).M=Wa (rvs la) rows/\(elP (rvs la) rows rows 0).S=A28 (rvs la) rows/\(elP (rvs la) rows rows 0).last=1:=⟨rfl,rfl,rfl⟩
 unfold luL at good
 unfold B2q at good ill
 have hR0:T5 rows (mtx (rvs la) rows) 0=⟨mtx (rvs la) rows,fun _ _=>0,fun i=>i⟩:=rfl
 have hst:∀ k,T5 rows (mtx (rvs la) rows) (k+1)=A4d rows k (T5 rows (mtx (rvs la) rows) k):=fun _=>rfl
 refine Jd (m:=m) (gl.mono l1) (own.vis K3) (Nat.le_refl _) (by omega) (by omega) (by omega) (by omega) hs (by omega) ?_
 intro h2 g2 o2 T lg2 t2 e1 e2
 rw [<- hE0.1,<- hE0.2.1] at t2
 refine ⟨_,rfl,?_⟩
 have lh2:=A0 l1 lg2
 refine N3 B18 (zx:=(0:Int)) rfl (by omega) (by omega) (by omega) (by omega) ?_
 intro bp hbp
 simp only [Int.toNat_natCast]
 have s3:=t2.sep.new hbp (.cells ((List.replicate rows (0:Int)).flatMap enc).toArray F1)
 have fr:∀ {k x},o2 k=some x->k≠bp:=by
  rintro k x e rfl
  rw [t2.sep.own k x e] at hbp;cases hbp
 have tp:¬ inT T bp:=by
  obtain ⟨⟨y1,z1⟩,⟨y2,z2⟩,⟨y3,z3⟩⟩:=t2.own
  intro hx
  rcases hx with rfl|rfl|rfl
  ·exact fr z1 rfl
  ·exact fr z2 rfl
  ·exact fr z3 rfl
 have t3:=t2.keep s3 (B3 _) (fun k x e _=>by rw [B5 _ _ (fr e)];exact e)
 have rp3:RowB (o2.put bp (.cells ((List.replicate rows (0:Int)).flatMap enc).toArray F1)) bp (List.replicate rows (0:Int)):=RowB.mk
 refine ⟨_,_,_,rfl,fun L hp=>∃ (k:Nat) (o:Heap) (ps:List Int),k<=rows/\L=[I (k:Int)]/\Tab hp g2 o T (elP (rvs la) rows rows 0).M (elP (rvs la) rows rows 0).S/\RowB o bp ps/\ps.length=rows/\(∀ i,i<k->ps[i]? = some ((i:Nat):Int)),fun L _=>rows-(iAt L 0).toNat,⟨0,_,_,by omega,rfl,t3,rp3,List.length_replicate,fun i hi=>by omega⟩,?_⟩
 clear t2 t3 rp3 s3
 rintro z hp ⟨k,o,ps,hk,eL,t,rb,hpl,hpe⟩
 obtain rfl:z=(k:Int):=by simpa using eL
 refine B7 (fun hlt=>?_) (fun hge=>?_)
 ·have hkn:k<rows:=by omega
  refine ⟨_,rfl,by omega,by omega,?_⟩
  rw [show ((k:Int).toNat*1)=k*1 from rfl,D3,Nat.zero_add]
  refine Sep.store (E:=inferInstanceAs (Enc Int)) Wb (v:=I (k:Int)) (y:=(k:Int)) rfl t.sep rb (i:=k) (by omega) rfl ?_
  intro h' o' x' eo s' r'
  rw [show B4 ((k:Int)+1)=((k+1:Nat):Int) by rw [B6]<;>omega]
  refine ⟨⟨k+1,o',_,by omega,rfl,t.off s' tp (fun y hy=>by rw [eo,B5 _ _ hy]),r',by rw [List.length_set];exact hpl,fun i hi=>?_⟩,by simp only [Hl];omega⟩
  by_cases e:i=k
  ·subst e;rw [List.getElem?_set_self (by omega)]
  ·rw [List.getElem?_set_ne (fun x=>e x.symm)]
   exact hpe i (by omega)
 have hkn:k=rows:=by omega
 subst hkn
 have rp:∃ ps:List Int,RowB o bp ps/\ps.length=k/\∀ i,i<k->ps[i]? = some (((fun i=>i) i:Nat):Int):=⟨ps,rb,hpl,hpe⟩
 have ewm:B4 ((k:Int)*(k:Int))=((k*k:Nat):Int):=by rw [<- Int.natCast_mul];exact K8 (by omega)
 rw [ewm]
 refine ⟨fun L q=>∃ (bl bu:Nat) (o':Heap),L=[.slice (some ⟨bl,0,none⟩) (k*k) (k*k),.slice (some ⟨bu,0,none⟩) (k*k) (k*k)]/\LuT q g2 o' T (elP (rvs la) k k 0).M (elP (rvs la) k k 0).S bp bl bu k (fun i=>i) (fun _ _=>0) (fun _ _=>0),⟨?_,?_⟩,?_⟩
 ·refine N3 Zf (zx:=At) rfl (by omega) (by omega) (by omega) (by omega) ?_
  intro b3 hb3
  simp only [Int.toNat_natCast]
  refine ⟨_,_,_,rfl,Heap.le_put _ hb3,?_⟩
  refine N3 Zf (zx:=At) rfl (by omega) (by omega) (by omega) (by omega) ?_
  intro b4 hb4
  simp only [Int.toNat_natCast]
  obtain ⟨o',X⟩:=LuT.init t rp tp (e1:=E6) (e2:=E6) hb3 hb4
  exact ⟨_,_,_,rfl,Heap.le_put _ hb4,b3,b4,o',rfl,X⟩
 ·refine N3 Zf (zx:=At) rfl (by omega) (by omega) (by omega) (by omega) ?_
  intro b3 hb3
  simp only [Int.toNat_natCast]
  refine ⟨_,_,_,rfl,Heap.le_put _ hb3,?_⟩
  refine N3 Zf (zx:=At) rfl (by omega) (by omega) (by omega) (by omega) ?_
  intro b4 hb4
  simp only [Int.toNat_natCast]
  obtain ⟨o',X⟩:=LuT.init t rp tp (e1:=E6) (e2:=E6) hb3 hb4
  exact ⟨_,_,_,rfl,Heap.le_put _ hb4,b4,b3,o',rfl,X.sym⟩
 clear t rp rb hpe
 rintro lA ln lc uA un uc hq ⟨bl,bu,o3,eL,X0⟩
 simp only [List.cons.injEq,Value.slice.injEq,and_true] at eL
 obtain ⟨⟨rfl,rfl,rfl⟩,rfl,rfl,rfl⟩:=eL
 refine X0.t.sep.call (Bn (by omega) (by omega) ?_)
 intro zs1 zA zn zc g4 l4 iz h4 s4
 have X4:=X0.next s4 l4
 refine ⟨_,_,_,_,rfl,?_⟩
 refine ⟨fun L hq=>∃ (j:Nat) (g o:Heap) (M:Nat->Nat->Int) (S:Nat->Rat) (wb:IV),j<=k/\L=[I (j:Int),I 0,I 0,.slice none 0 0,I 0,I 0,.slice none 0 0,.bool wb.s,.slice wb.A wb.n wb.c]/\g2.le g/\LuT hq g o T M S bp bl bu k (T5 k (mtx (rvs la) k) j).p (T5 k (mtx (rvs la) k) j).L (fun a b=>if a<j then (T5 k (mtx (rvs la) k) j).R a b else 0)/\(∀ a b,j<=a->a<k->b<k->M a b=(elP (rvs la) k k j).M a b)/\(∀ a,a<k->S a=(elP (rvs la) k k j).S a)/\ZIr g wb (elP (rvs la) k k j).last/\∀ c',c'<j->I4 k c' (T5 k (mtx (rvs la) k) c')<k,fun L _=>k-(iAt L 0).toNat,
  ⟨0,g4,_,_,_,⟨zs1,zA,zn,zc⟩,by omega,rfl,l4,X4.congr (fun _ _ _ _=>rfl) (fun a b _ _=>by rw [if_neg (Nat.not_lt_zero a)]),fun _ _ _ _ _=>rfl,fun _ _=>rfl,by rw [hE0.2.2];exact iz,fun c' hc=>by omega⟩,?_⟩
 clear X0 X4 s4 iz
 rintro z x0 x1 x2A x2n x2c x3 x4 x5A x5n x5c y0 y1A y1n y1c hq1 ⟨j,g,o,M,S,wb,hj,eL,lg,X,eM,eS,iwb,hrow⟩
 simp only [List.cons.injEq,Value.int.injEq,Value.slice.injEq,Value.bool.injEq,true_and,and_true] at eL
 obtain ⟨rfl,rfl,rfl,⟨rfl,rfl,rfl⟩,rfl,rfl,⟨rfl,rfl,rfl⟩,rfl,rfl,rfl,rfl⟩:=eL
 have inv:=run j hj hrow
 have F:=facts j hj inv
 have Fn:=fnext j F
 have hstep:=hst j
 refine B7 (fun hlt=>?_) (fun hge=>?_)
 ·have hjk:j<k:=by omega
  obtain ⟨f1,f2,f3,f4⟩:=Gd (T5 k (mtx (rvs la) k) j) (show j<=k by omega)
  have frow:=F.row
  have hz:=inv.zero
  have lz:=inv.lz
  have pB:=p3 j hj
  have pB1:=p1 j
  have hB:=F.zM;have hBl:=F.zl;have hBS:=F.zS;have hval:=F.val;have hlast:=F.last;have hS0:=F.S;have hlen:=F.len
  have ill': ¬ I4 k j (T5 k (mtx (rvs la) k) j)<k->¬ ∀ c,c<k->I4 k c (T5 k (mtx (rvs la) k) c)<k:=fun h1 h2=>h1 (h2 j hjk)
  have invS:=fun hr=>inv.step hm1 hjk hr
  generalize hP1:elP (rvs la) k k (j+1)=P1 at *
  generalize hP:elP (rvs la) k k j=P at *
  have hsn:∀ hr:I4 k j (T5 k (mtx (rvs la) k) j)<k,True:=fun _=>trivial
  generalize hs1:T5 k (mtx (rvs la) k) (j+1)=s1 at *
  generalize hsk:T5 k (mtx (rvs la) k) j=sk at *
  generalize 3^j*bnd k m=B at *
  have bB:bnd k m<=3^k*bnd k m:=hb3
  generalize hQ:3^k*bnd k m=Q at *
  have ewk:B4 ((j:Int)+1)=((j+1:Nat):Int):=by rw [B6]<;>omega
  have ix:∀ a b:Nat,a<k->b<k->B4 (B4 ((a:Int)*(k:Int))+(b:Int))=((a*k+b:Nat):Int):=by
   intro a b ha hb
   have:=K9 ha hb
   rw [<- Int.natCast_mul,K8 (by omega)]
   exact K8 (n:=a*k+b) (by omega)
  have efnd:fnd (fun i=>decide (M i j≠0)) (T.rows-j) j=I4 k j sk:=by
   rw [<- frow,e1]
   unfold Kp
   rw [hlen]
   exact Es _ _ fun i h1 h2=>by rw [eM i j h1 (by omega) hjk]
  refine Xc X.t (start:=j) (col:=j) (by omega) (by omega) (fun hx=>?_) (fun hx=>⟨_,_,rfl,Yo (ill (ill' (by omega)) none 0 none 0 none 0 _ (A0 lh2 (A0 lg X.t.sep.le)) RowV.nil RowV.nil RowV.nil)⟩)
  rw [efnd] at hx ⊢
  have hr:I4 k j sk<k:=by omega
  obtain ⟨n1,n2,n3⟩:=Fn hr
  have hxn:∀ i,i<k->xch j (I4 k j sk) i<k:=fun i hi=>If hjk hr hi
  have hxg:∀ i,j<=i->j<=xch j (I4 k j sk) i:=fun i hi=>Rs f1 hi
  have hxb:∀ i,i<j->xch j (I4 k j sk) i=i:=fun i hi=>Ig f1 hi
  have xk:xch j (I4 k j sk) j=I4 k j sk:=Fw _ _
  have hRn:s1.R=Dy (fun i=>sk.R (xch j (I4 k j sk) i)) j:=by rw [hstep];rfl
  have hLn:s1.L=Ab (fun i=>sk.R (xch j (I4 k j sk) i)) (fun i=>sk.L (xch j (I4 k j sk) i)) j:=by rw [hstep];rfl
  have hPn:s1.p=fun i=>sk.p (xch j (I4 k j sk) i):=by rw [hstep];rfl
  generalize hr0:I4 k j sk=r0 at *
  refine ⟨_,_,rfl,Br.nt ?_⟩
  refine ⟨fun L hq=>L=[]/\∃ (o':Heap) (M1:Nat->Nat->Int) (S1:Nat->Rat),LuT hq g o' T M1 S1 bp bl bu k (fun i=>sk.p (xch j r0 i)) (fun i=>sk.L (xch j r0 i)) (fun a b=>if a<j then sk.R a b else 0)/\(∀ a b,j<=a->a<k->b<k->M1 a b=P.M (xch j r0 a) b)/\(∀ a,a<k->S1 a=P.S (xch j r0 a)),?_,?_⟩
  ·refine K7 (fun hne=>?_) (fun heq=>?_)
   ·have hne':j≠r0:=by omega
    refine Wc X.t (i:=j) (k:=r0) (by omega) (by omega) hne' ?_
    intro h6 o6 t6 ko6
    have X6:=X.tab t6 (B3 _) (fun b hb=>ko6 b (fun e=>hb (.inr (.inl e))) (fun e=>hb (.inr (.inr e))))
    refine ⟨rfl,_,rfl,by omega,by omega,_,X6.pat hr,_,rfl,by omega,by omega,_,X6.pat hjk,_,rfl,by omega,by omega,?_⟩
    refine X6.storeP (i:=j) hjk ?_
    intro h7 o7 X7
    refine ⟨_,rfl,by omega,by omega,?_⟩
    refine X7.storeP (i:=r0) hr ?_
    intro h8 o8 X8
    have X8':LuT h8 g o8 T (fun a=>M (xch j r0 a)) (fun a=>S (xch j r0 a)) bp bl bu k (fun i=>sk.p (xch j r0 i)) sk.L (fun a b=>if a<j then sk.R a b else 0):=by
     refine ⟨X8.t,?_,X8.l,X8.u,X8.tp,X8.tl,X8.tu,X8.pl,X8.pu,X8.lu⟩
     obtain ⟨ps,r1,r2,r3⟩:=X8.p
     refine ⟨ps,r1,r2,fun i hi=>?_⟩
     rw [r3 i hi]
     congr 2
     show (if i=r0 then sk.p j else if i=j then sk.p r0 else sk.p i)=sk.p (xch j r0 i)
     unfold xch
     by_cases e1:i=j
     ·rw [if_neg (by omega),if_pos e1,if_pos e1]
     ·rw [if_neg e1,if_neg e1]
      by_cases e2:i=r0
      ·rw [if_pos e2,if_pos e2]
      ·rw [if_neg e2,if_neg e2]
    refine ⟨fun L hq=>∃ (b:Nat) (o':Heap),b<=j/\L=[I (b:Int)]/\LuT hq g o' T (fun a=>M (xch j r0 a)) (fun a=>S (xch j r0 a)) bp bl bu k (fun i=>sk.p (xch j r0 i)) (fun a c=>if c<b then sk.L (xch j r0 a) c else sk.L a c) (fun a b=>if a<j then sk.R a b else 0),fun L _=>j-(iAt L 0).toNat,⟨0,o8,by omega,rfl,X8'.congr (fun a c _ _=>by rw [if_neg (Nat.not_lt_zero c)]) (fun _ _ _ _=>rfl)⟩,?_⟩
    rintro z h9 ⟨b,o9,hbj,eL,X9⟩
    obtain rfl:z=(b:Int):=by simpa using eL
    refine B7 (fun hlt2=>?_) (fun hge2=>?_)
    ·have hbj':b<j:=by omega
     rw [ix r0 b hr (by omega),ix j b hjk (by omega)]
     have i1:=K9 hr (show b<k by omega)
     have i2:=K9 hjk (show b<k by omega)
     obtain ⟨w1,q1,c0,c1,c2,c3⟩:=X9.l.at hr (show b<k by omega)
     obtain ⟨w2,q2,d0,d1,d2,d3⟩:=X9.l.at hjk (show b<k by omega)
     rw [if_neg (Nat.lt_irrefl b)] at q1 q2
     have sp:=X9.t.sep
     refine ⟨_,rfl,by omega,by omega,_,_,_,_,_,_,_,_,sp.cell c0,sp.cell c1,sp.cell c2,sp.cell c3,_,rfl,by omega,by omega,_,_,_,_,_,_,_,_,sp.cell d0,sp.cell d1,sp.cell d2,sp.cell d3,_,rfl,by omega,by omega,?_⟩
     refine X9.storeL hjk (show b<k by omega) (w:=w1) q1 ?_
     intro h10 o10 X10
     refine ⟨_,rfl,by omega,by omega,?_⟩
     refine X10.storeL hr (show b<k by omega) (w:=w2) q2 ?_
     intro h11 o11 X11
     rw [show B4 ((b:Int)+1)=((b+1:Nat):Int) by rw [B6]<;>omega]
     refine ⟨⟨b+1,o11,by omega,rfl,X11.congr (fun a c _ _=>?_) (fun _ _ _ _=>rfl)⟩,by simp only [Hl];omega⟩
     unfold A3w
     show (if a=r0/\c=b then sk.L j b else if a=j/\c=b then sk.L r0 b else if c<b then sk.L (xch j r0 a) c else sk.L a c)=if c<b+1 then sk.L (xch j r0 a) c else sk.L a c
     unfold xch
     grind
    ·have:b=j:=by omega
     subst this
     refine ⟨rfl,o9,_,_,X9.congr (fun a c ha _=>?_) (fun _ _ _ _=>rfl),fun a b' ha1 ha2 hb'=>eM _ b' (hxg a ha1) (hxn a ha2) hb',fun a ha=>eS _ (hxn a ha)⟩
     by_cases e:c<b
     ·rw [if_pos e]
     ·rw [if_neg e,lz a c (by omega),lz _ c (by omega)]
   ·have heq':r0=j:=by omega
    have xid:∀ i,xch j r0 i=i:=fun i=>by rw [heq'];unfold xch;grind
    refine ⟨rfl,o,M,S,?_,fun a b ha1 ha2 hb'=>by rw [xid];exact eM a b ha1 ha2 hb',fun a ha=>by rw [xid];exact eS a ha⟩
    have:=X
    simp only [xid]
    exact this
  rintro hq2 ⟨_,o5,M1,S1,X5,eM1,eS1⟩
  clear X eM eS
  have hR1z:∀ b,b<j->sk.R r0 b=0:=fun b hb=>hz r0 b hr f1 hb
  refine Y2 X5.t (i:=j) (by omega) ?_
  rw [e2]
  refine ⟨_,_,_,rfl,?_⟩
  have sS:∀ a,a<k->Sz Q (P.S a):=fun a ha=>(hBS a ha).mono bB
  have zM:∀ a b,a<k->b<k->ZB Q (P.M a b):=fun a b ha hb=>(hB a b ha hb).mono pB
  have zL:ZB Q P.last:=hBl.mono pB
  have Q1:1<=Q:=Nat.le_trans pB1 pB
  have hpv:=hval r0 j hr f1 hjk
  have hpne:P.M r0 j≠0:=by
   intro e
   rw [e] at hpv
   have h0:((0:Int):Rat)=0:=rfl
   rw [h0] at hpv
   rcases Rat.mul_eq_zero.1 hpv.symm with e1|e1
   ·exact J6 hlast e1
   ·rcases Rat.mul_eq_zero.1 e1 with e2|e2
    ·exact hS0 r0 hr e2
    ·exact f3 hr e2
  have lhg:=A0 lh2 lg
  refine ⟨fun L hq=>∃ (b:Nat) (g' o':Heap),j<=b/\b<=k/\L=[I (b:Int)]/\g.le g'/\LuT hq g' o' T M1 S1 bp bl bu k (fun i=>sk.p (xch j r0 i)) (fun i=>sk.L (xch j r0 i)) (fun a c=>if a<j then sk.R a c else if a=j/\c<b then sk.R r0 c else 0),fun L _=>k-(iAt L 0).toNat,⟨j,g,o5,Nat.le_refl _,by omega,rfl,B3 _,X5.congr (fun _ _ _ _=>rfl) (fun a c _ _=>?_)⟩,?_⟩
  ·by_cases e:a<j
   ·rw [if_pos e,if_pos e]
   ·rw [if_neg e,if_neg e]
    by_cases e2:a=j/\c<j
    ·rw [if_pos e2,hR1z c e2.2]
    ·rw [if_neg e2]
  rintro z h6 ⟨b,g6,o6,hb1,hb2,eL,l6,X6⟩
  obtain rfl:z=(b:Int):=by simpa using eL
  refine B7 (fun hlt3=>?_) (fun hge3=>?_)
  ·have hbk:b<k:=by omega
   obtain ⟨wv,zv,c0,c1⟩:=X6.t.at (i:=j) (j:=b) (by omega) (by omega)
   rw [e2] at c0 c1
   obtain ⟨ws,is,d0,d1,d2,d3⟩:=X6.t.sat (i:=j) (by omega)
   have em:=eM1 j b (Nat.le_refl _) hjk hbk
   have es:=eS1 j hjk
   rw [xk] at em es
   rw [em] at zv
   rw [es] at is
   refine ⟨_,rfl,by omega,by omega,_,_,_,_,c0,c1,_,rfl,_,_,_,X6.t.c2,_,rfl,by omega,by omega,_,_,_,_,_,_,_,_,d0,d1,d2,d3,?_⟩
   refine X6.t.sep.call (L6 (m:=Q) (gl.mono (A0 lhg l6)).tz zv (Dz _ _ _ _ l6 iwb) (zM r0 b hr hbk) zL (by omega) ?_)
   intro w7 g7 l7 i7 h7 s7
   refine ⟨_,_,_,_,_,_,_,_,rfl,X6.t.sep.le_le s7 l7,?_⟩
   refine s7.call (Kq (m:=Q) (gl.mono (A0 lhg (A0 l6 l7))).tz i7 (K3 _ _ _ _ l7 is) (S2 hlast (zM r0 b hr hbk) zL) (sS r0 hr) Q1 (by omega) ?_)
   intro w8 g8 l8 i8 h8 s8
   have ev:Rat.divInt (P.M r0 b) P.last/P.S r0=sk.R r0 b:=by
    rw [Rat.divInt_eq_div,hval r0 b hr f1 hbk]
    exact fr1 (J6 hlast) (hS0 r0 hr)
   rw [ev] at i8
   have i1:=K9 hjk hbk
   refine ⟨_,_,_,_,_,_,_,_,rfl,s7.le_le s8 l8,?_⟩
   rw [ix j b hjk hbk]
   refine ⟨_,rfl,by omega,by omega,?_⟩
   refine (X6.next s8 (A0 l7 l8)).storeU hjk hbk i8 ?_
   intro h9 o9 X9
   rw [show B4 ((b:Int)+1)=((b+1:Nat):Int) by rw [B6]<;>omega]
   refine ⟨⟨b+1,g8,o9,by omega,by omega,rfl,A0 l6 (A0 l7 l8),X9.congr (fun _ _ _ _=>rfl) (fun a c _ _=>?_)⟩,by simp only [Hl];omega⟩
   unfold A3w
   show (if a=j/\c=b then sk.R r0 b else if a<j then sk.R a c else if a=j/\c<b then sk.R r0 c else 0)=if a<j then sk.R a c else if a=j/\c<b+1 then sk.R r0 c else 0
   by_cases e:a=j/\c=b
   ·rw [if_pos e,if_neg (by omega),if_pos (by omega),e.2]
   ·rw [if_neg e]
    by_cases e2:a<j
    ·rw [if_pos e2,if_pos e2]
    ·rw [if_neg e2,if_neg e2]
     by_cases e3:a=j/\c<b
     ·rw [if_pos e3,if_pos (by omega)]
     ·rw [if_neg e3,if_neg (by omega)]
  have hbk:b=k:=by omega
  subst hbk
  refine X6.t.sep.call (Oi ⟨by omega,by omega⟩ ?_)
  intro w7 g7 l7 i7 h7 s7
  have one:((1:Int):Rat)=1:=rfl
  rw [one] at i7
  have i0:=K9 hjk hjk
  refine ⟨_,_,_,_,_,_,_,_,rfl,?_⟩
  rw [ix j j hjk hjk]
  refine ⟨_,rfl,by omega,by omega,?_⟩
  refine (X6.next s7 l7).storeL hjk hjk i7 ?_
  intro h8 o8 X8
  have l67:=A0 l6 l7
  have X8':=X8.congr (L':=Qz (fun i=>sk.R (xch j r0 i)) (fun i=>sk.L (xch j r0 i)) j (j+1)) (fun a c _ _=>Zj (fun i=>sk.R (xch j r0 i)) (fun i=>sk.L (xch j r0 i)) j (a:=a) (b:=c)) (fun _ _ _ _=>rfl)
  refine ⟨fun L hq=>∃ (i:Nat) (g' o':Heap) (M2:Nat->Nat->Int),j+1<=i/\i<=b/\L=[I (i:Int)]/\g7.le g'/\LuT hq g' o' T M2 S1 bp bl bu b (fun i=>sk.p (xch j r0 i)) (Qz (fun i=>sk.R (xch j r0 i)) (fun i=>sk.L (xch j r0 i)) j i) (fun a c=>if a<j then sk.R a c else if a=j/\c<b then sk.R r0 c else 0)/\(∀ a c,j<=a->a<b->c<b->M2 a c=if j<a/\a<i then P1.M a c else P.M (xch j r0 a) c),fun L _=>b-(iAt L 0).toNat,⟨j+1,g7,o8,M1,Nat.le_refl _,by omega,by rw [ewk],B3 _,X8',fun a c ha1 ha2 hc=>by rw [if_neg (by omega)];exact eM1 a c ha1 ha2 hc⟩,?_⟩
  clear X8 X8' X6 X5
  rintro z h10 ⟨i,g10,o10,M2,hi1,hi2,eL,l10,X10,eM2⟩
  obtain rfl:z=(i:Int):=by simpa using eL
  have lgg:=A0 l67 l10
  obtain ⟨wk,zk,k0,k1⟩:=X10.t.at (i:=j) (j:=j) (by omega) (by omega)
  rw [e2] at k0 k1
  have emj:∀ c,c<b->M2 j c=P.M r0 c:=fun c hc=>by
   have:=eM2 j c (Nat.le_refl _) hjk hc
   rw [if_neg (by omega),xk] at this
   exact this
  rw [emj j hjk] at zk
  refine B7 (fun hlt4=>?_) (fun hge4=>?_)
  ·have hib:i<b:=by omega
   have hxi:=hxn i hib
   have emi:∀ c,c<b->M2 i c=P.M (xch j r0 i) c:=fun c hc=>by
    have:=eM2 i c (by omega) hib hc
    rw [if_neg (by omega)] at this
    exact this
   obtain ⟨wi,zi,m0,m1⟩:=X10.t.at (i:=i) (j:=j) (by omega) (by omega)
   rw [e2] at m0 m1
   rw [emi j hjk] at zi
   refine ⟨_,rfl,by omega,by omega,_,_,_,_,k0,k1,?_⟩
   refine Y2 X10.t (i:=i) (by omega) ?_
   rw [e2]
   refine ⟨_,_,_,rfl,B3 _,_,rfl,by omega,by omega,_,_,_,_,m0,m1,?_⟩
   refine X10.t.sep.call (L6 (m:=Q) (gl.mono (A0 lhg lgg)).tz zi zk (zM _ j hxi hjk) (zM r0 j hr hjk) (by omega) ?_)
   intro w11 g11 l11 i11 h11 s11
   have X11:=X10.next s11 l11
   obtain ⟨wa,ia,a0,a1,a2,a3⟩:=X11.t.sat (i:=j) (by omega)
   obtain ⟨wc,ic,c0,c1,c2,c3⟩:=X11.t.sat (i:=i) (by omega)
   rw [eS1 j hjk,xk] at ia
   rw [eS1 i hib] at ic
   refine ⟨_,_,_,_,_,_,_,_,rfl,X10.t.sep.le_le s11 l11,_,rfl,_,_,_,X11.t.c2,_,rfl,by omega,by omega,_,_,_,_,_,_,_,_,a0,a1,a2,a3,_,rfl,_,_,_,X11.t.c2,_,rfl,by omega,by omega,_,_,_,_,_,_,_,_,c0,c1,c2,c3,?_⟩
   have sr:Sz Q (Rat.divInt (P.M (xch j r0 i) j) (P.M r0 j)):=S2 hpne (zM _ j hxi hjk) (zM r0 j hr hjk)
   have lh11:=A0 lhg (A0 lgg l11)
   refine s11.call (Rz (m:=Q) (gl.mono lh11).tz i11 ia sr (sS r0 hr) (by omega) ?_)
   intro w12 g12 l12 i12 h12 s12
   refine ⟨_,_,_,_,_,_,_,_,rfl,s11.le_le s12 l12,?_⟩
   refine s12.call (Kq (m:=Q+Q) (gl.mono (A0 lh11 l12)).tz i12 (K3 _ _ _ _ l12 ic) (sr.mul (sS r0 hr)) ((sS _ hxi).mono (by omega)) (by omega) (by omega) ?_)
   intro w13 g13 l13 i13 h13 s13
   have ev:Rat.divInt (P.M (xch j r0 i) j) (P.M r0 j)*P.S r0/P.S (xch j r0 i)=sk.R (xch j r0 i) j/sk.R (xch j r0 j) j:=by
    rw [Rat.divInt_eq_div,hval _ j hxi (hxg i (by omega)) hjk,hpv,xk]
    exact fr2 (J6 hlast) (hS0 _ hxi) (hS0 r0 hr)
   rw [ev] at i13
   have i1:=K9 hib hjk
   refine ⟨_,_,_,_,_,_,_,_,rfl,s12.le_le s13 l13,?_⟩
   rw [ix i j hib hjk]
   refine ⟨_,rfl,by omega,by omega,?_⟩
   have l1013:=A0 l11 (A0 l12 l13)
   refine (X11.next s13 (A0 l12 l13)).storeL hib hjk i13 ?_
   intro h14 o14 X14
   refine Sl (m:=Q) X14.t (i:=i) (p:=j) (c:=j) (wb:=wb) (d:=P.last) (by omega) (by omega) (by omega) (by omega) (Dz _ _ _ _ (A0 lgg l1013) iwb) hlast Q1 (by omega) (fun c hc=>by rw [emi c (by omega)];exact zM _ c hxi (by omega)) (fun c hc=>by rw [emj c (by omega)];exact zM r0 c hr (by omega)) zL ?_
   intro h15 g15 o15 l15 t15 ko15
   have X15:=X14.tab t15 l15 (fun y hy=>ko15 y (fun e=>hy (.inr (.inl e))))
   rw [show B4 ((i:Int)+1)=((i+1:Nat):Int) by rw [B6]<;>omega]
   refine ⟨rfl,⟨i+1,g15,o15,_,by omega,by omega,rfl,A0 l10 (A0 l1013 l15),X15.congr (fun a c _ _=>A2d (fun i=>sk.R (xch j r0 i)) (fun i=>sk.L (xch j r0 i)) (a:=a) (b:=c) (show j<i by omega)) (fun _ _ _ _=>rfl),fun a c ha1 ha2 hc=>?_⟩,by simp only [Hl];omega⟩
   show (if a=i then (M2 j j*M2 i c-M2 i j*M2 j c).tdiv P.last else M2 a c)=_
   by_cases e:a=i
   ·subst e
    rw [if_pos rfl,if_pos ⟨by omega,by omega⟩,emj j hjk,emj c hc,emi j hjk,emi c hc,n1]
    unfold clr
    rw [if_neg (by omega)]
    simp only [xk]
   ·rw [if_neg e,eM2 a c ha1 ha2 hc]
    by_cases e3:j<a/\a<i
    ·rw [if_pos e3,if_pos ⟨e3.1,by omega⟩]
    ·rw [if_neg e3,if_neg (by omega)]
  ·have:i=b:=by omega
   subst this
   refine ⟨_,rfl,by omega,by omega,_,_,_,_,k0,k1,?_⟩
   rw [ewk]
   refine ⟨⟨j+1,g10,o10,M2,S1,wk,by omega,rfl,A0 lg lgg,?_,fun a c ha1 ha2 hc=>?_,fun a ha=>?_,?_,fun c' hc'=>?_⟩,by simp only [Hl];omega⟩
   ·rw [hs1,hPn,hLn,hRn]
    refine X10.congr (fun a c ha _=>?_) (fun a c ha hc=>?_)
    ·by_cases e:c=j
     ·rw [e];exact A4i (fun i=>sk.R (xch j r0 i)) (fun i=>sk.L (xch j r0 i)) ha (fun i hi=>lz _ j (Nat.le_refl j))
     ·unfold Qz Ab
      rw [if_neg (fun x=>e x.1),if_neg e]
    ·unfold Dy
     by_cases e:a<j
     ·rw [if_pos e,if_pos (by omega),if_pos (.inl (by omega))]
      show sk.R a c=sk.R (xch j r0 a) c
      rw [hxb a e]
     ·rw [if_neg e]
      by_cases e2:a=j/\c<i
      ·rw [if_pos e2,if_pos (by omega),if_pos (.inl (by omega))]
       show sk.R r0 c=sk.R (xch j r0 a) c
       rw [e2.1,xk]
      ·rw [if_neg e2,if_neg (by omega)]
   ·rw [hP1,eM2 a c (by omega) ha2 hc,if_pos ⟨by omega,ha2⟩]
   ·rw [hP1,n2,eS1 a ha]
   ·rw [hP1,n3]
    exact zk
   ·by_cases e:c'=j
    ·rw [e,hsk,hr0];exact hr
    ·exact hrow c' (by omega)
 ·have:j=k:=by omega
  subst this
  have lhq:=A0 lh2 (A0 lg X.t.sep.le)
  have good':=good hrow
  have rvl:RowV RQr hq1 (some ⟨bl,0,none⟩) (j*j) (fun t=>(T5 j (mtx (rvs la) j) j).L (t/j) (t%j)):=X.l.row X.t.sep (by omega)
  have rvu0:=X.u.row X.t.sep (by omega)
  have rvu:RowV RQr hq1 (some ⟨bu,0,none⟩) (j*j) (fun t=>(T5 j (mtx (rvs la) j) j).R (t/j) (t%j)):=rvu0.congr fun t ht=>if_pos (Nat.div_lt_of_lt_mul ht)
  have rvp:RowV IIr hq1 (some ⟨bp,0,none⟩) j (fun i=>(((T5 j (mtx (rvs la) j) j).p i:Nat):Int)):=by
   obtain ⟨ps,r1,r2,r3⟩:=X.p
   exact ⟨ps,r1.slF X.t.sep.ole,r2,fun i hi=>⟨_,r3 i hi,rfl⟩⟩
  have dm:∀ t,t<j*j->t/j<j/\t%j<j:=fun t ht=>⟨Nat.div_lt_of_lt_mul ht,Nat.mod_lt t (by omega)⟩
  refine Ae (m:=7^j*m) (gl.mono lhq) rvl (by omega) (fun t ht=>inv.szL _ _ (dm t ht).1 (dm t ht).2) (by omega) ?_
  intro b5 h5 own5
  refine ⟨_,_,_,_,_,rfl,?_⟩
  have l5:=own5.le
  refine Ae (m:=7^j*m) (gl.mono (A0 lhq l5)) (rvu.mono K3 l5) (by omega) (fun t ht=>inv.szR _ _ (dm t ht).1 (dm t ht).2) (by omega) ?_
  intro b6 h6 own6
  exact ⟨_,_,_,_,_,rfl,good' (some ⟨bp,0,none⟩) _ _ _ _ _ h6 (A0 lhq (A0 l5 own6.le)) (rvp.mono B3m (A0 l5 own6.le)) ((own5.vis Bh).mono Bh own6.le) (own6.vis Bh)⟩
end
structure VV where
 A:Option Addr
 n:Nat
 c:Nat
 s:Bool
 B:Option Addr
 bn:Nat
 bc:Nat
abbrev VV.v(w:VV):Value:=.agg #[.slice w.A w.n w.c,.bool w.s,.slice w.B w.bn w.bc]
instance:Enc VV:=⟨⟨fun w=>[.slice w.A w.n w.c,.bool w.s,.slice w.B w.bn w.bc],3,fun _=>rfl,fun w v hv=>by
 simp only [List.mem_cons,List.not_mem_nil,or_false] at hv
 rcases hv with rfl|rfl|rfl<;>rfl⟩⟩
def VQr(w:Nat):Heap->VV->(Nat->Rat)->Prop:=fun h v f=>v.n=w/\ZI h v.s v.B v.bn v.bc (W8 f w:Int)/\RowV ZIr h v.A w (fun j=>scl (f j) (W8 f w:Int))
theorem A2n(w:Nat):Mon (VQr w):=fun _ _ _ _ l i=>⟨i.1,i.2.1.mono l,i.2.2.mono Dz l⟩
section
variable {h:Heap} {K:Value->Heap->Prop} {A B:Option Addr} {n cap m w:Nat} {f f2:Nat->Rat}
theorem Zw(gl:Gl h)(r:RowV RQr h A n f)(hn:n<=10000)(hs:∀ i,i<n->Sz m (f i))(hm:1+n*m+m<=6400000000)
 (hK:∀ v h',h.le h'->VQr n h' v f->K v.v h'):FCall Tryz.prog Ez #[.slice A n cap] h K:=by
 refine Vm _ _ _ ?_
 unfold Sy
 have hd:=Hj (f:=f) n hs
 refine ⟨?_,?_⟩
 ·refine N3 tZs (zx:=(⟨false,none,0,0⟩:IV)) rfl (by omega) (by omega) (by omega) (by omega) ?_
  intro b hb
  simp only [Int.toNat_natCast]
  have s0:=(Sep.refl h).new hb (.cells ((List.replicate n (⟨false,none,0,0⟩:IV)).flatMap enc).toArray Cn)
  refine ⟨_,_,_,rfl,s0.le,s0.call (Bj gl r (by omega) hs hm ?_)⟩
  intro sd Bd bn bc g1 l1 id h1 s1
  refine ⟨_,_,_,_,rfl,s0.le_le s1 l1,?_⟩
  refine ⟨fun L hp=>∃ (k:Nat) (g o:Heap) (ys:List IV),k<=n/\L=[I (k:Int)]/\g1.le g/\Sep hp g o/\RowX o b ys/\ys.length=n/\Row ZIr g ys k (fun j=>scl (f j) (W8 f n:Int)),fun L _=>n-(iAt L 0).toNat,⟨0,g1,_,List.replicate n ⟨false,none,0,0⟩,by omega,rfl,B3 _,s1,RowX.mk,List.length_replicate,Row.nil⟩,?_⟩
  rintro z hp ⟨k,g,o,ys,hk,eL,lg,s,rx,hy,rr⟩
  obtain rfl:z=(k:Int):=by simpa using eL
  refine B7 (fun hlt=>?_) (fun hge=>?_)
  ·have hkn:k<n:=by omega
   obtain ⟨a,w,ea,iw,c0,c1,c2,c3⟩:=(r.mono K3 (A0 l1 lg)).qat hkn
   refine ⟨a,ea,by omega,by omega,_,_,_,_,_,_,_,_,C0 s.le c0,C0 s.le c1,C0 s.le c2,C0 s.le c3,?_⟩
   refine s.call (He (m:=1+n*m+m) iw (id.mono lg) ((hs k hkn).mono (by omega)) (hd.mono (by omega)) hm ?_)
   intro s2 A2 n2 c2 g2 l2 i2 h2 sp2
   refine ⟨_,_,_,_,rfl,s.le_le sp2 l2,_,rfl,by omega,by omega,?_⟩
   refine Z8 Ti (y:=(⟨s2,A2,n2,c2⟩:IV)) rfl sp2 rx (i:=k) (by omega) ?_
   intro h7 o7 x7 eo s7 rx7
   rw [show B4 ((k:Int)+1)=((k+1:Nat):Int) by rw [B6]<;>omega]
   exact ⟨⟨k+1,g2,o7,_,by omega,rfl,A0 lg l2,s7,rx7,by rw [List.length_set];exact hy,(rr.mono Dz l2).set (by omega) i2⟩,by simp only [Hl];omega⟩
  ·have:k=n:=by omega
   subst this
   exact hK ⟨some ⟨b,0,none⟩,k,k,sd,Bd,bn,bc⟩ hp (A0 l1 (A0 lg s.le)) ⟨rfl,id.mono (A0 lg s.le),ys,rx.rowB.slF s.ole,hy,rr.mono Dz s.le⟩
 ·refine Bj gl r (by omega) hs hm ?_
  intro sd Bd bn bc g1 l1 id
  refine ⟨_,_,_,_,rfl,l1,N3 tZs (zx:=(⟨false,none,0,0⟩:IV)) rfl (by omega) (by omega) (by omega) (by omega) ?_⟩
  intro b hb
  simp only [Int.toNat_natCast]
  have s1:=(Sep.refl g1).new hb (.cells ((List.replicate n (⟨false,none,0,0⟩:IV)).flatMap enc).toArray Cn)
  refine ⟨_,_,_,rfl,s1.le,?_⟩
  refine ⟨fun L hp=>∃ (k:Nat) (g o:Heap) (ys:List IV),k<=n/\L=[I (k:Int)]/\g1.le g/\Sep hp g o/\RowX o b ys/\ys.length=n/\Row ZIr g ys k (fun j=>scl (f j) (W8 f n:Int)),fun L _=>n-(iAt L 0).toNat,⟨0,g1,_,List.replicate n ⟨false,none,0,0⟩,by omega,rfl,B3 _,s1,RowX.mk,List.length_replicate,Row.nil⟩,?_⟩
  rintro z hp ⟨k,g,o,ys,hk,eL,lg,s,rx,hy,rr⟩
  obtain rfl:z=(k:Int):=by simpa using eL
  refine B7 (fun hlt=>?_) (fun hge=>?_)
  ·have hkn:k<n:=by omega
   obtain ⟨a,w,ea,iw,c0,c1,c2,c3⟩:=(r.mono K3 (A0 l1 lg)).qat hkn
   refine ⟨a,ea,by omega,by omega,_,_,_,_,_,_,_,_,C0 s.le c0,C0 s.le c1,C0 s.le c2,C0 s.le c3,?_⟩
   refine s.call (He (m:=1+n*m+m) iw (id.mono lg) ((hs k hkn).mono (by omega)) (hd.mono (by omega)) hm ?_)
   intro s2 A2 n2 c2 g2 l2 i2 h2 sp2
   refine ⟨_,_,_,_,rfl,s.le_le sp2 l2,_,rfl,by omega,by omega,?_⟩
   refine Z8 Ti (y:=(⟨s2,A2,n2,c2⟩:IV)) rfl sp2 rx (i:=k) (by omega) ?_
   intro h7 o7 x7 eo s7 rx7
   rw [show B4 ((k:Int)+1)=((k+1:Nat):Int) by rw [B6]<;>omega]
   exact ⟨⟨k+1,g2,o7,_,by omega,rfl,A0 lg l2,s7,rx7,by rw [List.length_set];exact hy,(rr.mono Dz l2).set (by omega) i2⟩,by simp only [Hl];omega⟩
  ·have:k=n:=by omega
   subst this
   exact hK ⟨some ⟨b,0,none⟩,k,k,sd,Bd,bn,bc⟩ hp (A0 l1 (A0 lg s.le)) ⟨rfl,id.mono (A0 lg s.le),ys,rx.rowB.slF s.ole,hy,rr.mono Dz s.le⟩
def smZ(x y:Nat->Int):Nat->Int
 | 0=>0
 | k+1=>smZ x y k+x k*y k
def smA(x y:Nat->Int):Nat->Int
 | 0=>0
 | k+1=>smA x y k+(x k*y k).natAbs
theorem A9k{x y:Nat->Int}{m w:Nat}(hx:∀ j,j<w->ZB m (x j))(hy:∀ j,j<w->ZB m (y j)):∀ k,k<=w->smA x y k<=k*2^(2*m):=by
 intro k
 induction k with
 | zero=>intro _;simp [smA]
 | succ k ih=>
  intro hk
  have h1:=ih (by omega)
  have h2:=Zr (hx k (by omega)) (hy k (by omega))
  have h3:((k+1:Nat):Int)*2^(2*m)=(k:Int)*2^(2*m)+2^(2*m):=by rw [Int.natCast_add,Int.add_mul];simp
  show smA x y k+((x k*y k).natAbs:Int)<=_
  rw [h3]
  omega
theorem B1a(x y:Nat->Int):∀ k,((smZ x y k).natAbs:Int)<=smA x y k:=by
 intro k
 induction k with
 | zero=>exact Int.le_refl _
 | succ k ih=>
  show ((smZ x y k+x k*y k).natAbs:Int)<=smA x y k+((x k*y k).natAbs:Int)
  omega
theorem B3f{x y:Nat->Int}{m w:Nat}(hx:∀ j,j<w->ZB m (x j))(hy:∀ j,j<w->ZB m (y j))(hw:w<=10000):ZB (2*m+14) (smZ x y w):=by
 have h1:=A9k hx hy w (Nat.le_refl _)
 have h2:=B1a x y w
 have e:(2:Int)^(2*m)=((2^(2*m):Nat):Int):=by simp
 rw [e,<- Int.natCast_mul] at h1
 have h3:w*2^(2*m)<=10000*2^(2*m):=Nat.mul_le_mul_right _ hw
 have h4:2^(2*m+14)=2^(2*m)*16384:=by rw [Nat.pow_add]
 have h5:0<2^(2*m):=Nat.pow_pos (by decide)
 unfold ZB
 rw [h4]
 omega
theorem B3g{p q:Nat->Rat}{x y:Nat->Int}{d e:Int}{w:Nat}(hx:∀ j,j<w->(x j:Rat)=p j*d)(hy:∀ j,j<w->(y j:Rat)=q j*e):∀ k,k<=w->(smZ x y k:Rat)=sm k (fun j=>p j*q j)*((d*e:Int):Rat):=by
 intro k
 induction k with
 | zero=>intro _;show ((0:Int):Rat)=0*_;rw [Rat.zero_mul];rfl
 | succ k ih=>
  intro hk
  show ((smZ x y k+x k*y k:Int):Rat)=(sm k (fun j=>p j*q j)+p k*q k)*((d*e:Int):Rat)
  rw [Rat.intCast_add,ih (by omega),Rat.intCast_mul d e,Rat.intCast_mul (x k) (y k),hx k (by omega),hy k (by omega)]
  grind
theorem A27{v u:VV}(gl:Gl h)(iv:VQr w h v f)(iu:VQr w h u f2)(hw:w<=10000)(hs:∀ i,i<w->Sz m (f i))(hs2:∀ i,i<w->Sz m (f2 i))(hm1:1<=m)(hm:2*(1+w*m+m)+14<=100000000)
 (hK:∀ q h',h.le h'->RQ h' q (sm w (fun j=>f j*f2 j))->K q.v h'):FCall Tryz.prog Um #[v.v,u.v] h K:=by
 refine A6z _ _ _ _ _ _ _ _ _ _ _ _ _ _ ?_
 unfold B0p
 obtain ⟨en1,id1,rz1⟩:=iv
 obtain ⟨en2,id2,rz2⟩:=iu
 have hd1:=Hj (f:=f) w hs
 have hd2:=Hj (f:=f2) w hs2
 have hx:∀ j,j<w->ZB (1+w*m+m) (scl (f j) (W8 f w:Int)):=fun j hj=>(A4f (hs j hj) hd1).mono (by omega)
 have hy:∀ j,j<w->ZB (1+w*m+m) (scl (f2 j) (W8 f2 w:Int)):=fun j hj=>(A4f (hs2 j hj) hd2).mono (by omega)
 refine Dk A12 ?_
 intro bs hbs
 have Z0:SumS (h.put bs (.cells #[.slice none 0 0,.slice none 0 0] Hb)) h bs Hb 200000001 0 0:=SumS.zero hbs
 refine ⟨_,rfl,fun L hp=>∃ (k:Nat) (g:Heap),k<=w/\L=[I (k:Int)]/\h.le g/\SumS hp g bs Hb 200000001 (smA (fun j=>scl (f j) (W8 f w:Int)) (fun j=>scl (f2 j) (W8 f2 w:Int)) k) (smZ (fun j=>scl (f j) (W8 f w:Int)) (fun j=>scl (f2 j) (W8 f2 w:Int)) k),fun L _=>w-(iAt L 0).toNat,⟨0,h,by omega,rfl,B3 _,Z0⟩,?_⟩
 rintro z hp ⟨k,g,hk,eL,lg,Z⟩
 obtain rfl:z=(k:Int):=by simpa using eL
 refine B7 (fun hlt=>?_) (fun hge=>?_)
 ·have hkw:k<w:=by omega
  obtain ⟨a,x1,ea,zx,c0,c1⟩:=(rz1.mono Dz lg).zat hkw
  obtain ⟨a2,y1,ea2,zy,d0,d1⟩:=(rz2.mono Dz lg).zat hkw
  refine ⟨a,ea,by omega,by omega,_,_,_,_,C0 Z.le c0,C0 Z.le c1,a2,ea2,by omega,by omega,_,_,_,_,C0 Z.le d0,C0 Z.le d1,?_⟩
  have lx:x1.n<=100000000:=ZI.len zx (hx k hkw) (by omega)
  have ly:y1.n<=100000000:=ZI.len zy (hy k hkw) (by omega)
  have hA:=A9k hx hy (k+1) hkw
  have hbig:=A4m (m:=1+w*m+m) (k:=k+1) (by omega) (by omega)
  refine V4 Z zx zy (by omega) (by omega) (N1:=1+w*m+m) (by show smA _ _ (k+1)<_;omega) (by omega) ?_
  intro h3 g3 l3 Z3
  rw [show B4 ((k:Int)+1)=((k+1:Nat):Int) by rw [B6]<;>omega]
  exact ⟨rfl,⟨k+1,g3,by omega,rfl,A0 lg l3,Z3⟩,by simp only [Hl];omega⟩
 ·have:k=w:=by omega
  subst this
  refine Ir Z (by omega) ?_
  intro sv Av nv cv h5 l5 z5
  have l05:=A0 lg (A0 Z.le l5)
  refine ⟨_,_,_,_,rfl,l5,?_⟩
  refine Bo (m:=1+k*m+m) (id1.mono l05) (id2.mono l05) (hd1.mono (by omega)) (hd2.mono (by omega)) (by omega) ?_
  intro s6 A6 n6 c6 h6 l6 z6
  refine ⟨_,_,_,_,rfl,l6,?_⟩
  have l06:=A0 l05 l6
  have e1:∀ j,j<k->(scl (f j) (W8 f k:Int):Rat)=f j*((W8 f k:Int):Rat):=fun j hj=>A4g (Int.natCast_dvd_natCast.2 (Tz f k j hj))
  have e2:∀ j,j<k->(scl (f2 j) (W8 f2 k:Int):Rat)=f2 j*((W8 f2 k:Int):Rat):=fun j hj=>A4g (Int.natCast_dvd_natCast.2 (Tz f2 k j hj))
  have es:=B3g e1 e2 k (Nat.le_refl _)
  have hp1:=Ty f k
  have hp2:=Ty f2 k
  have hne:((W8 f k:Int)*(W8 f2 k:Int))≠0:=Int.mul_ne_zero (by omega) (by omega)
  have zb:ZB (2*(1+k*m+m)+14) (smZ (fun j=>scl (f j) (W8 f k:Int)) (fun j=>scl (f2 j) (W8 f2 k:Int)) k):=B3f hx hy (by omega)
  refine L6 (m:=2*(1+k*m+m)+14) (gl.mono l06).tz (z5.mono l6) z6 zb ((hd1.mul hd2).mono (by omega)) (by omega) ?_
  intro q h7 l7 i7
  refine ⟨_,_,_,_,_,_,_,_,rfl,l7,hK q h7 (A0 l06 l7) ?_⟩
  have:Rat.divInt (smZ (fun j=>scl (f j) (W8 f k:Int)) (fun j=>scl (f2 j) (W8 f2 k:Int)) k) ((W8 f k:Int)*(W8 f2 k:Int))=sm k (fun j=>f j*f2 j):=by
   rw [Rat.divInt_eq_div,es]
   exact Rat.mul_div_cancel (J6 hne)
  rw [this] at i7
  exact i7
end
theorem A81:Tryz.prog.cellsOf Im=1/\(Tryz.prog.info? Im).isSome=true:=by constructor<;>kernel_rfl
section
variable {h:Heap} {K:Value->Heap->Prop} {A:Option Addr} {cap m rows cols:Nat} {E:Nat->Rat}
theorem Lp(gl:Gl h)(r:RowV RQr h A (rows*cols) E)(hcap:rows*cols<=cap)(hr2:rows<=10000)(hc:1<=cols)(hc2:cols<=10000)(hs:∀ i,i<rows*cols->Sz m (E i))(hm:1+cols*m+m<=6400000000)
 (hK:∀ A' c' h',h.le h'->RowV (VQr cols) h' A' rows (Wg E cols)->K (.slice A' rows c') h'):FCall Tryz.prog Gi #[.slice A (rows*cols) cap,I (cols:Int)] h K:=by
 refine A0p _ _ _ _ ?_
 unfold A1z
 have hrc:rows*cols<=100000000:=by
  have:rows*cols<=10000*10000:=Nat.mul_le_mul hr2 hc2
  omega
 refine Dk (z:=.slice none 0 0) (by kernel_rfl) ?_
 intro bp hbp
 refine ⟨_,rfl,?_⟩
 have s0:=(Sep.refl h).new hbp (.cells #[.slice none 0 0] Im)
 refine s0.call (Sm hc ?_)
 intro v g0 l0 ic hp3 s3
 have bound:∀ k,k<rows->∀ j,j<cols->Sz m (E (k*cols+j)):=fun k hk j hj=>hs _ (K9 hk hj)
 refine ⟨_,rfl,Om ic hc (by omega) hcap (fun k hp=>∃ (g1 o1:Heap) (vs:List VV) (A1:Option Addr) (c1:Nat),g0.le g1/\Sep hp g1 o1/\(∃ e,o1 bp=some (.cells #[.slice A1 k c1] e))/\OwnSl o1 Rv A1 c1 vs/\A1≠some ⟨bp,0,none⟩/\vs.length=k/\Row (VQr cols) g1 vs k (Wg E cols)) ?_ ?_ ?_ ?_⟩
 ·exact ⟨g0,_,[],none,0,B3 _,s3,⟨_,B9 _ _ _⟩,OwnSl.nil,by simp,rfl,Row.nil⟩
 ·rintro k hp ⟨g1,o1,vs,A1,c1,lg,s1,_⟩
  exact A0 lg s1.le
 ·rintro k hp4 hkr ⟨g1,o1,vs,A1,c1,lg1,s4,⟨e,hbo⟩,ow,ha,hvl,rr⟩
  have bk:=bound k hkr
  have hkc:(k+1)*cols<=rows*cols:=Nat.mul_le_mul_right _ hkr
  have hk1:(k+1)*cols=k*cols+cols:=by rw [Nat.add_mul,Nat.one_mul]
  have lh1:=A0 l0 lg1
  have row0:RowV RQr h A ((k+1)*cols) E:=by
   have:=r.cut (c:=cap) (l:=0) (k:=(k+1)*cols) (by omega) hcap
   rw [J2] at this
   exact this.congr fun i _=>by rw [Nat.zero_add]
  have row1:RowV RQr h (J4 A ((k+1)*cols) (k*cols) 4) cols (Wg E cols k):=row0.cut (c:=(k+1)*cols) (l:=k*cols) (k:=cols) (by omega) (Nat.le_refl _)
  have cp:hp4.cell? ⟨bp,0,none⟩=some (.slice A1 k c1):=s4.cell (by unfold Heap.cell?;simp only [hbo];rfl)
  refine ⟨_,_,_,rfl,_,_,_,cp,s4.call (Zw (gl.mono lh1) (row1.mono K3 lh1) (by omega) bk hm ?_)⟩
  intro w g2 l2 iw hp5 s5
  refine ⟨_,_,_,_,_,_,_,rfl,s4.le_le s5 l2,?_⟩
  subst hvl
  refine OwnSl.push (ty:=Im) B5r s5 ow (y:=w) (v:=w.v) rfl (by decide) (by omega) (by omega) (K1:=fun hq=>hp5.le hq) (fun _ l=>l) ?_
  intro A3 c3 h6 g6 o6 l6 s6 ow6 kp
  have k2:=kp bp _ hbo ha
  show wpH _ (Instr.storeAt _ (.pointer (some (Addr.add ⟨bp,0,none⟩ 0))) _) _ _
  refine Oc A81 rfl rfl s6 k2.1 (by simp) ?_
  intro h7 o7 s7 eo
  exact ⟨g6,o7,vs++[w],A3,c3,A0 lg1 (A0 l2 l6),s7,⟨e,by rw [eo,B9];simp⟩,ow6.keep fun b y hb he=>by rw [eo,B5 _ _ (fun e=>k2.2 (by rw [<- e];exact hb))];exact he,k2.2,by simp,by
   have:=(Row.push (rr.mono (A2n cols) (A0 l2 l6)) (A2n cols _ _ _ _ l6 iw))
   simpa using this⟩
 ·rintro hp4 ⟨g1,o1,vs,A1,c1,lg1,s4,⟨e,hbo⟩,ow,ha,hvl,rr⟩
  have cp:hp4.cell? ⟨bp,0,none⟩=some (.slice A1 rows c1):=s4.cell (by unfold Heap.cell?;simp only [hbo];rfl)
  exact ⟨_,_,_,cp,hK A1 c1 hp4 (A0 l0 (A0 lg1 s4.le)) ⟨vs,ow.slF s4.ole,hvl,rr.mono (A2n cols) s4.le⟩⟩
end
section
variable {h:Heap} {K:Value->Heap->Prop} {A B:Option Addr} {n w cap cap2 m:Nat} {f f2:Nat->Rat} {R:Nat->Nat->Rat}
theorem B3d(hs:∀ i,i<w->Sz m (f i))(hs2:∀ i,i<w->Sz m (f2 i)):∀ k,k<=w->Sz (1+k*(2*m+1)) (sm k (fun j=>f j*f2 j)):=by
 intro k
 induction k with
 | zero=>intro _;exact Sz.zero (by omega)
 | succ k ih=>
  intro hk
  have h1:=ih (by omega)
  have h2:=(hs k (by omega)).mul (hs2 k (by omega))
  have e:1+(k+1)*(2*m+1)=1+k*(2*m+1)+(m+m)+1:=by rw [Nat.add_mul];omega
  rw [e]
  exact h1.add h2
end
structure VOut where
 n:Nat
 f:Nat->List UInt8
 e:Int
def noV(e:Int):VOut:=⟨0,fun _=>[],e⟩
def ApplO(r c:Int)(n:Nat)(la:Nat->List UInt8)(n2:Nat)(lx:Nat->List UInt8)(o:VOut):Prop:=
 (¬ (Mx r c n la/\∀ i,i<n2->IsNum (lx i))/\o=noV 1)\/(Mx r c n la/\(∀ i,i<n2->IsNum (lx i))/\(n2:Int)≠c/\o=noV 4)\/(∃ rows cols,MOk r c n la rows cols/\(∀ i,i<n2->IsNum (lx i))/\(n2:Int)=c/\o=⟨rows,fun i=>N2 (sm cols (fun j=>mtx (rvs la) cols i j*rv (lx j))),0⟩)
theorem ApplO.eq{r c:Int}{n n2:Nat}{la lx:Nat->List UInt8}{o p:VOut}(x:ApplO r c n la n2 lx o)(y:ApplO r c n la n2 lx p):o=p:=by
 rcases x with ⟨h1,rfl⟩|⟨h1,h2,h3,rfl⟩|⟨r1,c1,h1,h2,h3,rfl⟩<;>rcases y with ⟨g1,rfl⟩|⟨g1,g2,g3,rfl⟩|⟨r2,c2,g1,g2,g3,rfl⟩
 ·rfl
 ·exact absurd ⟨g1,g2⟩ h1
 ·exact absurd ⟨⟨_,_,g1⟩,g2⟩ h1
 ·exact absurd ⟨h1,h2⟩ g1
 ·rfl
 ·exact absurd g3 h3
 ·exact absurd ⟨⟨_,_,h1⟩,h2⟩ g1
 ·exact absurd h3 g3
 ·obtain rfl:r2=r1:=by have:=h1.er;have:=g1.er;omega
  obtain rfl:c2=c1:=by have:=h1.ec;have:=g1.ec;omega
  rfl
section
variable {h:Heap} {K:Value->Heap->Prop} {A B:Option Addr} {n n2 cap cap2 m:Nat} {r c:Int} {la lx:Nat->List UInt8}
end
section
variable {h:Heap} {K:Value->Heap->Prop} {A B:Option Addr} {n n2 cap cap2 m:Nat} {r c:Int} {la lx:Nat->List UInt8}
theorem RowV.vat{w n:Nat}{f:Nat->Nat->Rat}(r:RowV (VQr w) h A n f){i:Nat}(hi:i<n):∃ a v,A=some a/\VQr w h v (f i)/\h.cell? (Addr.add (Addr.add a (i*3)) 0)=some (.slice v.A v.n v.c)/\h.cell? (Addr.add (Addr.add a (i*3)) 1)=some (.bool v.s)/\h.cell? (Addr.add (Addr.add a (i*3)) 2)=some (.slice v.B v.bn v.bc):=by
 obtain ⟨a,v,e,q,hc⟩:=RowV.at (by decide) r hi
 exact ⟨a,v,e,q,hc 0 _ rfl,hc 1 _ rfl,hc 2 _ rfl⟩
end
def MulO(r c:Int)(n:Nat)(la:Nat->List UInt8)(r2 c2:Int)(n2:Nat)(lb:Nat->List UInt8)(o:MOut):Prop:=
 (¬ (Mx r c n la/\Mx r2 c2 n2 lb)/\o=noM 1)\/(Mx r c n la/\Mx r2 c2 n2 lb/\c≠r2/\o=noM 4)\/(∃ rows mid cols,MOk r c n la rows mid/\MOk r2 c2 n2 lb mid cols/\o=⟨r,c2,rows*cols,fun k=>N2 (sm mid (fun j=>mtx (rvs la) mid (k/cols) j*mtx (rvs lb) cols j (k%cols))),0⟩)
theorem A2p{f f':Nat->Rat}: ∀ n,(∀ i,i<n->f i=f' i)->W8 f n=W8 f' n:=by
 intro n
 induction n with
 | zero=>intro _;rfl
 | succ n ih=>
  intro e
  show Nat.lcm (W8 f n) (f n).den=Nat.lcm (W8 f' n) (f' n).den
  rw [ih fun i hi=>e i (by omega),e n (by omega)]
theorem VQr.congr{h:Heap}{w:Nat}{v:VV}{f f':Nat->Rat}(x:VQr w h v f)(e:∀ i,i<w->f i=f' i):VQr w h v f':=by
 have hd:W8 f w=W8 f' w:=A2p w e
 obtain ⟨a,b,c⟩:=x
 rw [hd] at b c
 exact ⟨a,b,c.congr fun j hj=>by rw [e j hj]⟩
section
variable {h:Heap} {K:Value->Heap->Prop} {A B:Option Addr} {n n2 cap cap2 m:Nat} {r c r2 c2:Int} {la lb:Nat->List UInt8} {E:Nat->Rat}
theorem Tu{rows cols:Nat}(rv':RowV RQr h A (rows*cols) E)(hr:rows<=10000)(hc:cols<=10000)
 (hK:∀ A' c' h' g' o' xs,h.le g'->Sep h' g' o'->OwnSl o' E6 A' c' xs->xs.length=rows*cols->Row RQr g' xs (rows*cols) (fun k=>E (k%rows*cols+k/rows))->K (.slice A' (rows*cols) c') h'):FCall Tryz.prog Y8 #[.slice A (rows*cols) cap,I (rows:Int),I (cols:Int)] h K:=by
 refine Ro _ _ _ _ _ ?_
 unfold Qr
 have hrc:rows*cols<=10000*10000:=Nat.mul_le_mul hr hc
 refine N3 Zf (zx:=At) rfl (by omega) (by omega) (by omega) (by omega) ?_
 intro b hb
 simp only [Int.toNat_natCast]
 refine ⟨_,_,_,rfl,fun L hp=>∃ (j:Nat) (g o:Heap) (xs:List QV) (A':Option Addr) (c':Nat),j<=cols/\L=[.slice A' (j*rows) c',I (j:Int)]/\h.le g/\Sep hp g o/\OwnSl o E6 A' c' xs/\xs.length=j*rows/\Row RQr g xs (j*rows) (fun k=>E (k%rows*cols+k/rows)),fun L _=>cols-(iAt L 1).toNat,
  ⟨0,h,Jc.put b _,[],some ⟨b,0,none⟩,rows*cols,by omega,by rw [Nat.zero_mul];rfl,B3 _,Gq hb,Lm,by simp,by rw [Nat.zero_mul];exact Row.nil⟩,?_⟩
 rintro rA rn rc z hp ⟨j,g,o,xs,A',c',hj,eL,lg,s,ow,hxl,rr⟩
 simp only [List.cons.injEq,Value.int.injEq,Value.slice.injEq,true_and,and_true] at eL
 obtain ⟨⟨rfl,rfl,rfl⟩,rfl⟩:=eL
 refine B7 (fun hlt=>?_) (fun hge=>?_)
 ·have hjc:j<cols:=by omega
  have hj1:(j+1)*rows=j*rows+rows:=by rw [Nat.add_mul,Nat.one_mul]
  have hjr:(j+1)*rows<=cols*rows:=Nat.mul_le_mul_right _ hjc
  rw [Nat.mul_comm cols rows] at hjr
  refine ⟨fun L hp=>∃ (i:Nat) (g o:Heap) (xs:List QV) (A':Option Addr) (c':Nat),i<=rows/\L=[.slice A' (j*rows+i) c',I (i:Int)]/\h.le g/\Sep hp g o/\OwnSl o E6 A' c' xs/\xs.length=j*rows+i/\Row RQr g xs (j*rows+i) (fun k=>E (k%rows*cols+k/rows)),fun L _=>rows-(iAt L 1).toNat,
   ⟨0,g,o,xs,rA,rc,by omega,rfl,lg,s,ow,hxl,rr⟩,?_⟩
  rintro qA qn qc z hp2 ⟨i,g2,o2,ys,A2,c2,hi,eL,lg2,s2,ow2,hyl,rr2⟩
  simp only [List.cons.injEq,Value.int.injEq,Value.slice.injEq,true_and,and_true] at eL
  obtain ⟨⟨rfl,rfl,rfl⟩,rfl⟩:=eL
  refine B7 (fun hlt2=>?_) (fun hge2=>?_)
  ·have hir:i<rows:=by omega
   have hidx:=K9 hir hjc
   have ew:B4 (B4 ((i:Int)*(cols:Int))+(j:Int))=((i*cols+j:Nat):Int):=by
    rw [<- Int.natCast_mul,K8 (by omega)]
    exact K8 (n:=i*cols+j) (by omega)
   rw [ew]
   obtain ⟨a,w,ea,iw,c0,c1,c2',c3⟩:=(rv'.mono K3 lg2).qat hidx
   refine ⟨a,ea,by omega,by omega,_,_,_,_,_,_,_,_,C0 s2.le c0,C0 s2.le c1,C0 s2.le c2',C0 s2.le c3,?_⟩
   refine Dn (ty:=S3) Zf s2 ow2 hyl.symm (y:=w) rfl (by decide) (by rw [hyl];omega) (by rw [hyl];omega) ?_
   intro A3 c3 h3 g3 o3 l3 s3 ow3 _
   rw [hyl,show B4 ((i:Int)+1)=((i+1:Nat):Int) by rw [B6]<;>omega]
   refine ⟨⟨i+1,g3,o3,_,A3,c3,by omega,by rw [Nat.add_assoc],A0 lg2 l3,s3,ow3,by rw [List.length_append,hyl];rfl,?_⟩,?_⟩
   ·have rB:=Row.push (R:=RQr) (g:=g3) (xs:=ys) (f:=fun k=>E (k%rows*cols+k/rows)) (by rw [hyl];exact rr2.mono K3 l3) (w:=w) (by
     show RQ g3 w (E (ys.length%rows*cols+ys.length/rows))
     rw [hyl,Nat.add_comm (j*rows) i,Nat.add_mul_mod_self_right,Nat.mod_eq_of_lt hir,Nat.add_mul_div_right _ _ (by omega),Nat.div_eq_of_lt hir,Nat.zero_add]
     exact K3 _ _ _ _ l3 iw)
    rw [List.length_append,hyl] at rB
    exact rB
   ·show rows-((i+1:Nat):Int).toNat<rows-(i:Int).toNat
    omega
  ·have:i=rows:=by omega
   subst this
   rw [show B4 ((j:Int)+1)=((j+1:Nat):Int) by rw [B6]<;>omega,<- hj1]
   rw [<- hj1] at hyl rr2
   refine ⟨⟨j+1,g2,o2,ys,qA,qc,by omega,rfl,lg2,s2,ow2,hyl,rr2⟩,?_⟩
   show cols-((j+1:Nat):Int).toNat<cols-(j:Int).toNat
   omega
 ·have:j=cols:=by omega
  subst this
  rw [Nat.mul_comm j rows] at hxl rr ⊢
  exact hK rA rc hp g o xs lg s ow hxl rr
theorem Wn{rows cols:Nat}(rv':RowV RQr h A (rows*cols) E)(hr:rows<=10000)(hc:cols<=10000)
 (hK:∀ A' c' h',h.le h'->rows*cols<=c'->RowV RQr h' A' (rows*cols) (fun k=>E (k%rows*cols+k/rows))->K (.slice A' (rows*cols) c') h'):FCall Tryz.prog Y8 #[.slice A (rows*cols) cap,I (rows:Int),I (cols:Int)] h K:=
 Tu rv' hr hc fun A' c' h' _ _ xs lg s ow hxl rr=>hK A' c' h' (A0 lg s.le) (by have:=ow.1;omega) ⟨xs,ow.slF s.ole,hxl,rr.mono K3 s.le⟩
theorem Sg{d:Nat}(gl:Gl h)(ra:RowV SSr h A n la)(rb:RowV SSr h B n2 lb)(hn:n<=1000000)(hn2:n2<=1000000)(hl:∀ i,i<n->(la i).length<=100000000)(hl2:∀ i,i<n2->(lb i).length<=100000000)(hs:∀ i,i<n->Sz m (rv (la i)))(hs2:∀ i,i<n2->Sz m (rv (lb i)))(hm1:1<=m)(hd:∀ rows mid,MOk r c n la rows mid->mid<=d)(hm:2*(1+d*(2*m+1)+2*m)+14<=40000000)
 (hK:∀ o,MulO r c n la r2 c2 n2 lb o->∀ A' cap' h',h.le h'->RowV SSr h' A' o.n o.f->K (.tuple #[No o.r o.c A' o.n cap',I o.e]) h'):FCall Tryz.prog A1i #[No r c A n cap,No r2 c2 B n2 cap2] h K:=by
 refine B2o _ _ _ _ _ _ _ _ _ _ ?_
 unfold B7m
 have bad:¬ (Mx r c n la/\Mx r2 c2 n2 lb)->∀ h',h.le h'->K (.tuple #[No 0 0 none 0 0,I 1]) h':=fun hx h' l=>hK (noM 1) (.inl ⟨hx,rfl⟩) none 0 h' l RowV.nil
 refine S8 gl ra hn hl (fun rows mid mk b1 h1 own=>?_) (fun hno h1 l1=>⟨_,_,_,_,rfl,?_⟩)
 ·have l1:=own.le
  refine ⟨_,_,_,_,rfl,S8 (gl.mono l1) (rb.mono Bh l1) hn2 hl2 (fun mid2 cols mk2 b2 h2 own2=>⟨_,_,_,_,rfl,Br.nt (Br.nt ?_)⟩) (fun hno h2 l2=>⟨_,_,_,_,rfl,Br.nt (Yo (bad (fun x=>hno x.2) h2 (A0 l1 l2)))⟩)⟩
  have l2:=own2.le
  have lh2:=A0 l1 l2
  refine K7 (fun e=>hK (noM 4) (.inr (.inl ⟨⟨_,_,mk⟩,⟨_,_,mk2⟩,e,rfl⟩)) none 0 h2 lh2 RowV.nil) (fun e=>?_)
  obtain rfl:mid2=mid:=by have:=mk.ec;have:=mk2.er;omega
  have good:=hK _ (.inr (.inr ⟨rows,mid2,cols,mk,mk2,rfl⟩))
  have:=mk.r1;have:=mk.r2;have:=mk.c1;have:=mk.c2;have:=mk2.c1;have:=mk2.c2
  obtain ⟨rfl,rfl,_,_,_,_,rfl,_⟩:=id mk
  obtain ⟨rfl,rfl,_,_,_,_,rfl,_⟩:=id mk2
  clear e
  have ms:=Ov hs
  have ms2:=Ov hs2
  have hdm:=hd _ _ mk
  have hkm:mid2*(2*m+1)<=d*(2*m+1):=Nat.mul_le_mul_right _ hdm
  have hkm2:mid2*m<=d*m:=Nat.mul_le_mul_right _ hdm
  have hkm3:d*(2*m+1)=2*(d*m)+d:=by rw [Nat.mul_add,Nat.mul_one,Nat.mul_left_comm]
  have hrc:rows*cols<=64*64:=Nat.mul_le_mul (by omega) (by omega)
  refine Lp (m:=m) (gl.mono lh2) ((own.vis K3).mono K3 l2) (Nat.le_refl _) (by omega) (by omega) (by omega) hs (by omega) ?_
  intro A3 c3 h3 l3 rv3
  refine ⟨_,_,_,rfl,?_⟩
  refine Wn ((own2.vis K3).mono K3 l3) (by omega) (by omega) ?_
  intro A4 c4 h4 l4 hc4 rv4
  refine ⟨_,_,_,rfl,l4,?_⟩
  have lh4:=A0 lh2 (A0 l3 l4)
  rw [Nat.mul_comm mid2 cols] at rv4 hc4 ⊢
  refine Lp (m:=m) (gl.mono lh4) rv4 hc4 (by omega) (by omega) (by omega) (fun i hi=>?_) (by omega) ?_
  ·have hi2:i/mid2<cols:=Nat.div_lt_of_lt_mul (by rw [Nat.mul_comm];exact hi)
   exact hs2 _ (K9 (Nat.mod_lt i (show 0<mid2 by omega)) hi2)
  intro A5 c5 h5 l5 rv5'
  have rv5:RowV (VQr mid2) h5 A5 cols (fun j i=>mtx (rvs lb) cols i j):=by
   obtain ⟨vs,sv,el,rr⟩:=rv5'
   refine ⟨vs,sv,el,fun j hj=>?_⟩
   obtain ⟨w,e1,hw⟩:=rr j hj
   refine ⟨w,e1,?_⟩
   have:=VQr.congr (f':=fun i=>mtx (rvs lb) cols i j) hw fun i hi=>?_
   ·exact this
   ·show rvs lb ((j*mid2+i)%mid2*cols+(j*mid2+i)/mid2)=rvs lb (i*cols+j)
    rw [Nat.add_comm (j*mid2) i,Nat.add_mul_mod_self_right,Nat.mod_eq_of_lt hi,Nat.add_mul_div_right _ _ (by omega),Nat.div_eq_of_lt hi,Nat.zero_add]
  clear rv5'
  refine ⟨_,_,_,rfl,l5,?_⟩
  have lh5:=A0 lh4 l5
  have l35:=A0 l4 l5
  have ewm:B4 ((rows:Int)*(cols:Int))=((rows*cols:Nat):Int):=by rw [<- Int.natCast_mul];exact K8 (by omega)
  rw [ewm]
  refine N3 Zf (zx:=At) rfl (by omega) (by omega) (by omega) (by omega) ?_
  intro b hb
  simp only [Int.toNat_natCast]
  have sz:∀ i j,i<rows->j<cols->Sz (1+d*(2*m+1)) (sm mid2 (fun t=>mtx (rvs la) mid2 i t*mtx (rvs lb) cols t j)):=fun i j hi hj=>(B3d (f:=fun t=>mtx (rvs la) mid2 i t) (f2:=fun t=>mtx (rvs lb) cols t j) (fun t ht=>ms i t hi ht) (fun t ht=>ms2 t j ht hj) mid2 (Nat.le_refl _)).mono (by omega)
  refine ⟨_,_,_,rfl,fun L hp=>∃ (k:Nat) (g o:Heap) (xs:List QV) (A':Option Addr) (c':Nat),k<=rows/\L=[.slice A' (k*cols) c',I (k:Int)]/\h5.le g/\Sep hp g o/\OwnSl o E6 A' c' xs/\xs.length=k*cols/\Row RQr g xs (k*cols) (fun k=>sm mid2 (fun j=>mtx (rvs la) mid2 (k/cols) j*mtx (rvs lb) cols j (k%cols))),fun L _=>rows-(iAt L 1).toNat,
   ⟨0,h5,Jc.put b _,[],some ⟨b,0,none⟩,rows*cols,by omega,by rw [Nat.zero_mul];rfl,B3 _,Gq hb,Lm,by simp,by rw [Nat.zero_mul];exact Row.nil⟩,?_⟩
  rintro rA rn rc z hp ⟨k,g,o,xs,A',c',hk,eL,lg,s,ow,hxl,rr⟩
  simp only [List.cons.injEq,Value.int.injEq,Value.slice.injEq,true_and,and_true] at eL
  obtain ⟨⟨rfl,rfl,rfl⟩,rfl⟩:=eL
  refine B7 (fun hlt=>?_) (fun hge=>?_)
  ·have hkr:k<rows:=by omega
   have hj1:(k+1)*cols=k*cols+cols:=by rw [Nat.add_mul,Nat.one_mul]
   have hjr:(k+1)*cols<=rows*cols:=Nat.mul_le_mul_right _ hkr
   obtain ⟨a,v,ea,iv,c0,c1,c2'⟩:=(rv3.mono (A2n mid2) (A0 l35 lg)).vat hkr
   refine ⟨a,ea,by omega,by omega,_,_,_,_,_,_,_,C0 s.le c0,C0 s.le c1,C0 s.le c2',?_⟩
   refine ⟨fun L hp=>∃ (j:Nat) (g' o:Heap) (xs:List QV) (A':Option Addr) (c':Nat),j<=cols/\L=[.slice A' (k*cols+j) c',I (j:Int)]/\g.le g'/\Sep hp g' o/\OwnSl o E6 A' c' xs/\xs.length=k*cols+j/\Row RQr g' xs (k*cols+j) (fun k=>sm mid2 (fun j=>mtx (rvs la) mid2 (k/cols) j*mtx (rvs lb) cols j (k%cols))),fun L _=>cols-(iAt L 1).toNat,
    ⟨0,g,o,xs,rA,rc,by omega,rfl,B3 _,s,ow,hxl,rr⟩,?_⟩
   rintro qA qn qc z hp2 ⟨j,g2,o2,ys,A2,c2,hj,eL,lg2,s2,ow2,hyl,rr2⟩
   simp only [List.cons.injEq,Value.int.injEq,Value.slice.injEq,true_and,and_true] at eL
   obtain ⟨⟨rfl,rfl,rfl⟩,rfl⟩:=eL
   refine B7 (fun hlt2=>?_) (fun hge2=>?_)
   ·have hjc:j<cols:=by omega
    obtain ⟨a6,u,ea6,iu,d0,d1,d2⟩:=(rv5.mono (A2n mid2) (A0 lg lg2)).vat hjc
    refine ⟨a6,ea6,by omega,by omega,_,_,_,_,_,_,_,C0 s2.le d0,C0 s2.le d1,C0 s2.le d2,?_⟩
    refine s2.call (A27 (m:=m) (v:=v) (u:=u) (gl.mono (A0 lh5 (A0 lg lg2))) (A2n mid2 _ _ _ _ lg2 iv) iu (by omega) (fun t ht=>ms k t hkr ht) (fun t ht=>ms2 t j ht hjc) hm1 (by omega) ?_)
    intro q g7 l7 iq h7 s7
    refine ⟨_,_,_,_,_,_,_,_,rfl,?_⟩
    refine Dn (ty:=S3) Zf s7 ow2 hyl.symm (y:=q) rfl (by decide) (by rw [hyl];omega) (by rw [hyl];omega) ?_
    intro A8 c8 h8 g8 o8 l8 s8 ow8 _
    rw [hyl,show B4 ((j:Int)+1)=((j+1:Nat):Int) by rw [B6]<;>omega]
    refine ⟨⟨j+1,g8,o8,_,A8,c8,by omega,by rw [Nat.add_assoc],A0 lg2 (A0 l7 l8),s8,ow8,by rw [List.length_append,hyl];rfl,?_⟩,?_⟩
    ·have rB:=Row.push (R:=RQr) (g:=g8) (xs:=ys) (f:=fun k=>sm mid2 (fun j=>mtx (rvs la) mid2 (k/cols) j*mtx (rvs lb) cols j (k%cols))) (by rw [hyl];exact rr2.mono K3 (A0 l7 l8)) (w:=q) (by
      show RQ g8 q (sm mid2 (fun t=>mtx (rvs la) mid2 (ys.length/cols) t*mtx (rvs lb) cols t (ys.length%cols)))
      rw [hyl,Nat.add_comm (k*cols) j,Nat.add_mul_mod_self_right,Nat.mod_eq_of_lt hjc,Nat.add_mul_div_right _ _ (by omega),Nat.div_eq_of_lt hjc,Nat.zero_add]
      exact K3 _ _ _ _ l8 iq)
     rw [List.length_append,hyl] at rB
     exact rB
    ·show cols-((j+1:Nat):Int).toNat<cols-(j:Int).toNat
     omega
   ·have:j=cols:=by omega
    subst this
    rw [show B4 ((k:Int)+1)=((k+1:Nat):Int) by rw [B6]<;>omega,<- hj1]
    rw [<- hj1] at hyl rr2
    refine ⟨⟨k+1,g2,o2,ys,qA,qc,by omega,rfl,A0 lg lg2,s2,ow2,hyl,rr2⟩,?_⟩
    show rows-((k+1:Nat):Int).toNat<rows-(k:Int).toNat
    omega
  ·have:k=rows:=by omega
   subst this
   have lh6:=A0 lh5 (A0 lg s.le)
   have rq:RowV RQr hp rA (k*cols) (fun t=>sm mid2 (fun j=>mtx (rvs la) mid2 (t/cols) j*mtx (rvs lb) cols j (t%cols))):=⟨xs,ow.slF s.ole,hxl,rr.mono K3 s.le⟩
   refine Ae (m:=1+d*(2*m+1)) (gl.mono lh6) rq (by omega) (fun t ht=>?_) (by omega) ?_
   ·exact sz _ _ (Nat.div_lt_of_lt_mul (by rw [Nat.mul_comm];exact ht)) (Nat.mod_lt t (show 0<cols by omega))
   intro b9 h9 own9
   exact ⟨_,_,_,_,_,rfl,good _ _ h9 (A0 lh6 own9.le) (own9.vis Bh)⟩
 ·refine S8 (gl.mono l1) (rb.mono Bh l1) hn2 hl2 (fun mid2 cols mk2 b2 h2 own2=>⟨_,_,_,_,rfl,Yo (bad (fun x=>hno x.1) h2 (A0 l1 own2.le))⟩) (fun _ h2 l2=>⟨_,_,_,_,rfl,Yo (bad (fun x=>hno x.1) h2 (A0 l1 l2))⟩)
end
theorem B6n{X Y:Prop}(x:X):Br true X Y:=x
section
variable {h:Heap} {K:Value->Heap->Prop} {A B:Option Addr} {n n2 cap cap2 m:Nat} {r c r2 c2:Int} {la lb:Nat->List UInt8}
def TransO(r c:Int)(n:Nat)(ls:Nat->List UInt8)(o:MOut):Prop:=
 (∃ rows cols,MOk r c n ls rows cols/\o=⟨c,r,n,fun k=>ls (k%rows*cols+k/rows),0⟩)\/(¬ Mx r c n ls/\o=noM 1)
theorem TransO.eq{o p:MOut}(x:TransO r c n la o)(y:TransO r c n la p):o=p:=by
 rcases x with ⟨r1,c1,m1,rfl⟩|⟨h1,rfl⟩<;>rcases y with ⟨r2,c2,m2,rfl⟩|⟨g1,rfl⟩
 ·obtain rfl:r2=r1:=by have:=m1.er;have:=m2.er;omega
  obtain rfl:c2=c1:=by have:=m1.ec;have:=m2.ec;omega
  rfl
 ·exact absurd ⟨_,_,m1⟩ g1
 ·exact absurd ⟨_,_,m2⟩ h1
 ·rfl
end
def A2i(la:Nat->List UInt8)(mid:Nat)(lb:Nat->List UInt8)(cols:Nat):Nat->List UInt8:=fun k=>N2 (sm mid (fun j=>mtx (rvs la) mid (k/cols) j*mtx (rvs lb) cols j (k%cols)))
def B3c(la:Nat->List UInt8)(rows cols:Nat):Nat->List UInt8:=fun k=>la (k%rows*cols+k/rows)
theorem Xh{i j c:Nat}(hj:j<c):(i*c+j)/c=i/\(i*c+j)%c=j:=by
 rw [Nat.add_comm,Nat.add_mul_mod_self_right,Nat.mod_eq_of_lt hj,Nat.add_mul_div_right _ _ (by omega),Nat.div_eq_of_lt hj,Nat.zero_add]
 exact ⟨rfl,rfl⟩
section
variable {r c r2 c2:Int} {n n2 m rows mid mid2 cols:Nat} {la lb:Nat->List UInt8} {o:MOut}
theorem MOk.prod(ma:MOk r c n la rows mid)(mb:MOk r2 c2 n2 lb mid cols):MOk r c2 (rows*cols) (A2i la mid lb cols) rows cols:=⟨ma.er,mb.ec,ma.r1,ma.r2,mb.c1,mb.c2,rfl,fun _ _=>⟨_,rfl⟩⟩
theorem MOk.turn(ma:MOk r c n la rows cols):MOk c r n (B3c la rows cols) cols rows:=by
 refine ⟨ma.ec,ma.er,ma.c1,ma.c2,ma.r1,ma.r2,by rw [ma.len,Nat.mul_comm],fun i hi=>ma.num _ ?_⟩
 have e:=ma.len
 have hr:=ma.r1
 rw [e] at hi ⊢
 exact K9 (Nat.mod_lt i (by omega)) (Nat.div_lt_of_lt_mul hi)
theorem MOk.uniq{rows2 cols2:Nat}(ma:MOk r c n la rows cols)(mb:MOk r c n la rows2 cols2):rows2=rows/\cols2=cols:=by
 have:=ma.er;have:=ma.ec;have:=mb.er;have:=mb.ec
 omega
theorem MulO.ok(ma:MOk r c n la rows mid)(mb:MOk r2 c2 n2 lb mid2 cols)(ho:MulO r c n la r2 c2 n2 lb o):(mid=mid2/\c=r2/\o=⟨r,c2,rows*cols,A2i la mid lb cols,0⟩)\/(mid≠mid2/\c≠r2/\o=noM 4):=by
 rcases ho with ⟨h1,_⟩|⟨_,_,h3,rfl⟩|⟨a1,b1,c1,h1,h2,rfl⟩
 ·exact absurd ⟨⟨_,_,ma⟩,⟨_,_,mb⟩⟩ h1
 ·exact .inr ⟨by rintro rfl;exact h3 (by rw [ma.ec,mb.er]),h3,rfl⟩
 ·obtain ⟨rfl,rfl⟩:=ma.uniq h1
  obtain ⟨rfl,rfl⟩:=mb.uniq h2
  exact .inl ⟨rfl,by rw [h1.ec,h2.er],rfl⟩
theorem TransO.ok(ma:MOk r c n la rows cols)(ho:TransO r c n la o):o=⟨c,r,n,B3c la rows cols,0⟩:=by
 rcases ho with ⟨r1,c1,m1,rfl⟩|⟨h1,_⟩
 ·obtain ⟨rfl,rfl⟩:=ma.uniq m1
  rfl
 ·exact absurd ⟨_,_,ma⟩ h1
theorem A8a(ma:MOk r c n la rows mid)(mb:MOk r2 c2 n2 lb mid cols)(hs:∀ i,i<n->Sz m (rv (la i)))(hs2:∀ i,i<n2->Sz m (rv (lb i))):∀ i,i<rows*cols->Sz (1+mid*(2*m+1)) (rv (A2i la mid lb cols i)):=by
 intro i hi
 have hc:=mb.c1
 have hr:=ma.r1
 have e1:=ma.len
 have e2:=mb.len
 have h1:i/cols<rows:=Nat.div_lt_of_lt_mul (by rw [Nat.mul_comm];exact hi)
 have h2:=Nat.mod_lt i (show 0<cols by omega)
 show Sz _ (rv (N2 _))
 rw [It]
 exact B3d (fun j hj=>hs _ (by rw [e1];exact K9 h1 hj)) (fun j hj=>hs2 _ (by rw [e2];exact K9 hj h2)) mid (Nat.le_refl _)
theorem A4l(ma:MOk r c n la rows mid)(mb:MOk r2 c2 n2 lb mid cols)(hs:∀ i,i<n->Sz m (rv (la i)))(hs2:∀ i,i<n2->Sz m (rv (lb i))):∀ i,i<rows*cols->(A2i la mid lb cols i).length<=2*(1+mid*(2*m+1))+4:=by
 intro i hi
 have:=A8a ma mb hs hs2 i hi
 refine Tf ?_
 rw [<- It (sm mid (fun j=>mtx (rvs la) mid (i/cols) j*mtx (rvs lb) cols j (i%cols)))]
 exact this
end
def N5(E:Nat->Rat)(n:Nat):Nat->Rat:=fun k=>if k%(n+n)<n then E (k/(n+n)*n+k%(n+n)) else if k%(n+n)=n+k/(n+n) then 1 else 0
theorem Ih(E:Nat->Rat){n i j:Nat}(hj:j<n+n):N5 E n (i*(n+n)+j)=if j<n then E (i*n+j) else if j=n+i then 1 else 0:=by
 have e1:(i*(n+n)+j)/(n+n)=i:=by rw [Nat.add_comm,Nat.add_mul_div_right _ _ (by omega),Nat.div_eq_of_lt hj,Nat.zero_add]
 have e2:(i*(n+n)+j)%(n+n)=j:=by rw [Nat.add_comm,Nat.add_mul_mod_self_right,Nat.mod_eq_of_lt hj]
 unfold N5
 rw [e1,e2]
theorem A0v{E:Nat->Rat}{n m:Nat}(hm:1<=m)(hs:∀ i,i<n*n->Sz m (E i)):∀ i,i<n*(n+n)->Sz m (N5 E n i):=by
 intro i hi
 have h1:i/(n+n)<n:=Nat.div_lt_of_lt_mul (by rw [Nat.mul_comm];exact hi)
 unfold N5
 split
 ·rename_i h;exact hs _ (K9 h1 h)
 ·split
  ·exact ⟨ZB.one hm,ZB.one hm⟩
  ·exact Sz.zero hm
def Yl(E:Nat->Rat)(n:Nat):Prop:=(elE (N5 E n) n (n+n) n).cs.length=n
def A1e(E:Nat->Rat)(n:Nat):Nat->Nat->Rat:=fun i j=>(elE (N5 E n) n (n+n) n).R i (n+j)
def InvO(r c:Int)(n:Nat)(la:Nat->List UInt8)(o:MOut):Prop:=
 (¬ Mx r c n la/\o=noM 1)\/(Mx r c n la/\r≠c/\o=noM 4)\/(∃ q,MOk r c n la q q/\((Yl (rvs la) q/\o=⟨r,r,q*q,U4 (A1e (rvs la) q) q,0⟩)\/(¬ Yl (rvs la) q/\o=noM 7)))
theorem InvO.eq{r c:Int}{n:Nat}{la:Nat->List UInt8}{o p:MOut}(x:InvO r c n la o)(y:InvO r c n la p):o=p:=by
 rcases x with ⟨h1,rfl⟩|⟨h1,h2,rfl⟩|⟨q1,h1,h4⟩<;>rcases y with ⟨g1,rfl⟩|⟨g1,g2,rfl⟩|⟨q2,g1,g4⟩
 ·rfl
 ·exact absurd g1 h1
 ·exact absurd ⟨_,_,g1⟩ h1
 ·exact absurd h1 g1
 ·rfl
 ·exact absurd (by rw [g1.er,g1.ec]) h2
 ·exact absurd ⟨_,_,h1⟩ g1
 ·exact absurd (by rw [h1.er,h1.ec]) g2
 ·obtain rfl:q2=q1:=by have:=h1.er;have:=g1.er;omega
  rcases h4 with ⟨a,rfl⟩|⟨a,rfl⟩<;>rcases g4 with ⟨b,rfl⟩|⟨b,rfl⟩
  ·rfl
  ·exact absurd a b
  ·exact absurd b a
  ·rfl
section
variable {h:Heap} {K:Value->Heap->Prop} {A:Option Addr} {n cap m:Nat} {r c:Int} {la:Nat->List UInt8}
theorem Tv(gl:Gl h)(ra:RowV SSr h A n la)(hn:n<=1000000)(hl:∀ i,i<n->(la i).length<=100000000)(hs:∀ i,i<n->Sz m (rv (la i)))(hm1:1<=m)(hb:∀ q,MOk r c n la q q->2*(3^q*bnd (q+q) m)+1<=40000000)
 (hK:∀ o,InvO r c n la o->∀ A' cap' h',h.le h'->RowV SSr h' A' o.n o.f->K (.tuple #[No o.r o.c A' o.n cap',I o.e]) h'):FCall Tryz.prog Ld #[No r c A n cap] h K:=by
 refine A0q _ _ _ _ _ ?_
 unfold A20
 refine S8 gl ra hn hl (fun rows cols mk b1 h1 own=>?_) (fun hno h1 l1=>⟨_,_,_,_,rfl,Yo (hK (noM 1) (.inl ⟨hno,rfl⟩) none 0 h1 l1 RowV.nil)⟩)
 have l1:=own.le
 refine ⟨_,_,_,_,rfl,Br.nt (K7 (fun e=>hK (noM 4) (.inr (.inl ⟨⟨_,_,mk⟩,e,rfl⟩)) none 0 h1 l1 RowV.nil) (fun e=>?_))⟩
 obtain rfl:rows=cols:=by have:=mk.er;have:=mk.ec;omega
 have good:=fun x=>hK ⟨r,r,rows*rows,U4 (A1e (rvs la) rows) rows,0⟩ (.inr (.inr ⟨rows,mk,.inl ⟨x,rfl⟩⟩))
 have ill:=fun x=>hK (noM 7) (.inr (.inr ⟨rows,mk,.inr ⟨x,rfl⟩⟩))
 have hb':=hb rows mk
 have:=mk.r1;have:=mk.r2
 obtain ⟨rfl,rfl,_,_,_,_,rfl,_⟩:=id mk
 clear e
 have ra1:=own.vis K3
 have hqq:rows*rows<=64*64:=Nat.mul_le_mul (by omega) (by omega)
 have hqw:rows*(rows+rows)<=64*128:=Nat.mul_le_mul (by omega) (by omega)
 refine ⟨fun L hp=>∃ (k:Nat) (g o:Heap) (xs:List QV) (A':Option Addr) (c':Nat),k<=rows/\L=[.slice A' (k*(rows+rows)) c',I (k:Int)]/\h1.le g/\Sep hp g o/\OwnSl o E6 A' c' xs/\xs.length=k*(rows+rows)/\Row RQr g xs (k*(rows+rows)) (N5 (rvs la) rows),fun L _=>rows-(iAt L 1).toNat,
  ⟨0,h1,Jc,[],none,0,by omega,by rw [Nat.zero_mul];rfl,B3 _,Sep.refl h1,OwnSl.nil,by simp,by rw [Nat.zero_mul];exact Row.nil⟩,?_⟩
 rintro wA wn wc z hp ⟨k,g,o,xs,A',c',hk,eL,lg,s,ow,hxl,rr⟩
 simp only [List.cons.injEq,Value.int.injEq,Value.slice.injEq,true_and,and_true] at eL
 obtain ⟨⟨rfl,rfl,rfl⟩,rfl⟩:=eL
 refine B7 (fun hlt=>?_) (fun hge=>?_)
 ·have hkr:k<rows:=by omega
  have h2:(k+1)*rows<=rows*rows:=Nat.mul_le_mul_right _ hkr
  have h3:(k+1)*rows=k*rows+rows:=by rw [Nat.add_mul,Nat.one_mul]
  have h4:(k+1)*(rows+rows)=k*(rows+rows)+rows+rows:=by rw [Nat.add_mul,Nat.one_mul];omega
  have h5:(k+1)*(rows+rows)<=rows*(rows+rows):=Nat.mul_le_mul_right _ hkr
  have e0:B4 ((k:Int)+1)=((k+1:Nat):Int):=B6 (by omega) (by omega)
  have e1:B4 ((k:Int)*(rows:Int))=((k*rows:Nat):Int):=by rw [<- Int.natCast_mul];exact K8 (by omega)
  have e2:B4 (B4 ((k:Int)+1)*(rows:Int))=(((k+1)*rows:Nat):Int):=by rw [e0,<- Int.natCast_mul];exact K8 (by omega)
  rw [e1,e2,e0]
  refine ⟨⟨by omega,by omega⟩,⟨by omega,by simp only [Int.toNat_natCast];omega⟩,?_⟩
  simp only [Int.toNat_natCast]
  have e5:(k+1)*rows-k*rows=rows:=by omega
  rw [e5]
  have row:RowV RQr h1 (J4 (some ⟨b1,0,none⟩) (rows*rows) (k*rows) 4) rows (fun j=>rvs la (k*rows+j)):=ra1.cut (c:=rows*rows) (l:=k*rows) (k:=rows) (by omega) (Nat.le_refl _)
  obtain ⟨ys,sy,hyl,qy⟩:=row
  refine OwnSl.app (ty:=S3) Zf s ow hxl.symm hyl.symm (by rintro rfl;simp at hyl;omega) (sy.mono (A0 lg s.le)) (by rw [hxl,hyl];omega) (by rw [hxl,hyl];omega) ?_
  intro A2 c2 h2' g2 o2 l2 s2 ow2 _
  have lh2:=A0 lg l2
  have hl2:(xs++ys).length=k*(rows+rows)+rows:=by rw [List.length_append,hxl,hyl]
  have r1:Row RQr g2 (xs++ys) (k*(rows+rows)+rows) (N5 (rvs la) rows):=by
   refine Row.app hxl (rr.mono K3 l2) ((qy.mono K3 lh2).congr fun j hj=>?_)
   rw [Ih (rvs la) (by omega),if_pos hj]
  refine ⟨_,_,_,rfl,?_⟩
  rw [hxl]
  refine N3 Zf (zx:=At) rfl (by omega) (by omega) (by omega) (by omega) ?_
  intro b3 hb3
  simp only [Int.toNat_natCast]
  have ob:∀ q x,o2 q=some x->q≠b3:=by
   rintro q x e rfl
   rw [s2.own q x e] at hb3;cases hb3
  refine ⟨_,_,_,rfl,Sep.call (s2.new hb3 _) (Oi ⟨by omega,by omega⟩ ?_)⟩
  intro wd g4 l4 id4 h4' s4
  have one:((1:Int):Rat)=1:=rfl
  rw [one] at id4
  refine ⟨_,_,_,_,_,_,_,_,rfl,_,rfl,by omega,by omega,?_⟩
  refine Z8 Iq (y:=wd) rfl s4 RowX.mk (i:=k) (by rw [List.length_replicate];exact hkr) ?_
  intro h5' o5 x5 eo5 s5 rx5
  have keep5:∀ k,k≠b3->o5 k=o2 k:=fun k hk=>by rw [eo5,B5 _ _ hk,B5 _ _ hk]
  have r0:Row RQr g4 (List.replicate rows At) rows (fun _=>0):=fun i hi=>⟨At,by rw [List.getElem?_replicate,if_pos hi],RQ.zero⟩
  have ru:Row RQr g4 ((List.replicate rows At).set k wd) rows (fun i=>if i=k then 1 else 0):=r0.upd (by rw [List.length_replicate];exact hkr) id4
  obtain ⟨g8,l8,s8⟩:=s5.give (o2:=o2) (fun k x e=>by rw [keep5 k (ob k x e)];exact e)
  have ob0:o2 b3=none:=by
   cases hx:o2 b3 with
   | none=>rfl
   | some y=>exact absurd rfl (ob b3 y hx)
  have rx8:RowX g8 b3 ((List.replicate rows At).set k wd):=rx5.keep fun x e=>by rw [<- s8.rest b3 ob0];exact s5.own b3 x e
  have hul:((List.replicate rows At).set k wd).length=rows:=by rw [List.length_set,List.length_replicate]
  generalize (List.replicate rows At).set k wd=us at *
  refine OwnSl.app (ty:=S3) Zf s8 ow2 hl2.symm hul.symm (by rintro rfl;simp at hul;omega) ((rx8.rowB.slF (B3 _)).mono s8.le) (by rw [hl2,hul];omega) (by rw [hl2,hul];omega) ?_
  intro A9 c9 h9 g9 o9 l9 s9 ow9 _
  rw [hl2]
  have l29:=A0 l4 (A0 l8 l9)
  refine ⟨_,_,_,rfl,⟨k+1,g9,o9,_,A9,c9,by omega,by rw [h4],A0 lh2 l29,s9,ow9,by rw [List.length_append,hl2,hul,h4],?_⟩,?_⟩
  ·rw [h4]
   refine Row.app hl2 (r1.mono K3 l29) ((ru.mono K3 (A0 l8 l9)).congr fun j hj=>?_)
   have ej:k*(rows+rows)+rows+j=k*(rows+rows)+(rows+j):=by omega
   rw [ej,Ih (rvs la) (i:=k) (j:=rows+j) (by omega),if_neg (show ¬ rows+j<rows by omega)]
   by_cases e:j=k
   ·rw [if_pos e,if_pos (by omega)]
   ·rw [if_neg e,if_neg (by omega)]
  ·show rows-((k+1:Nat):Int).toNat<rows-(k:Int).toNat
   omega
 have hkr:k=rows:=by omega
 subst hkr
 have ew:B4 (2*(k:Int))=((k+k:Nat):Int):=by rw [B6]<;>omega
 rw [ew]
 have lhp:=A0 l1 (A0 lg s.le)
 have rq:RowV RQr hp wA (k*(k+k)) (N5 (rvs la) k):=⟨xs,ow.slF s.ole,hxl,rr.mono K3 s.le⟩
 have hsw:=A0v hm1 hs
 refine Hd (E:=N5 (rvs la) k) (cc:=k) (m:=m) (gl.mono lhp) rq (by have:=ow.1;omega) (by omega) (by omega) (by omega) (by omega) (by omega) hsw (by omega) ?_
 intro T h2 hred l2 e1 e2
 refine ⟨_,rfl,FCall.mono hred ?_⟩
 rintro r3 h3 ⟨g3,o3,A3,cap3,w,l3,t3,ow3,ap3,iw3,rfl⟩
 refine ⟨_,_,_,_,_,_,_,_,rfl,?_⟩
 have hzb:=Xe (E:=N5 (rvs la) k) (rows:=k) (cols:=k+k) (c:=k) hsw (by omega)
 have hbd:=Ny (N5 (rvs la) k) k (k+k) k (bnd (k+k) m)
 have hlast:=A07 (N5 (rvs la) k) k (k+k) k
 have hdiv:(elE (N5 (rvs la) k) k (k+k) k).cs.length=k->∀ i j,i<k->j<k->Rat.divInt ((elP (N5 (rvs la) k) k (k+k) k).M i (k+j)) (elP (N5 (rvs la) k) k (k+k) k).last=A1e (rvs la) k i j:=fun hlen i j hi hj=>A5l (N5 (rvs la) k) (by omega) hi (by omega) (.inl (by omega))
 have hlen:(elE (N5 (rvs la) k) k (k+k) k).cs.length<=k/\(elE (N5 (rvs la) k) k (k+k) k).cs.length<=k:=A5n _ k k
 rw [A8t _ (by omega)]
 have lh3:h.le h3:=A0 lhp (A0 l3 t3.sep.le)
 refine B7 (fun hlt=>ill (fun hx=>by unfold Yl at hx;omega) none 0 h3 lh3 RowV.nil) (fun hge=>?_)
 have hfull:(elE (N5 (rvs la) k) k (k+k) k).cs.length=k:=by omega
 have hdv:=hdiv hfull
 have good':=good hfull
 clear hdiv
 generalize elP (N5 (rvs la) k) k (k+k) k=st at *
 have hzM:=hzb.M
 have hzL:=hzb.last
 clear hzb
 generalize 3^st.cs.length*bnd (k+k) m=bb at hzM hzL hbd
 have iw:ZIr h3 w st.last:=Dz _ _ _ _ t3.sep.le iw3
 have tabIn:∀ g',h3.le g'->∃ gT,Tab g' gT o3 T st.M st.S:=fun g' l=>by
  obtain ⟨gT,l',s'⟩:=t3.sep.after l
  exact ⟨gT,t3.next s' l'⟩
 clear t3 ow3 ap3 iw3 hred
 have ewm:B4 ((k:Int)*(k:Int))=((k*k:Nat):Int):=by rw [<- Int.natCast_mul];exact K8 (by omega)
 rw [ewm]
 refine N3 Zf (zx:=At) rfl (by omega) (by omega) (by omega) (by omega) ?_
 intro b4 hb4
 simp only [Int.toNat_natCast]
 refine ⟨_,_,_,rfl,fun L hp=>∃ (i:Nat) (g o:Heap) (xs:List QV) (A':Option Addr) (c':Nat),i<=k/\L=[.slice A' (i*k) c',I (i:Int)]/\h3.le g/\Sep hp g o/\OwnSl o E6 A' c' xs/\xs.length=i*k/\Row RQr g xs (i*k) (fun t=>A1e (rvs la) k (t/k) (t%k)),fun L _=>k-(iAt L 1).toNat,
  ⟨0,h3,Jc.put b4 _,[],some ⟨b4,0,none⟩,k*k,by omega,by rw [Nat.zero_mul];rfl,B3 _,Gq hb4,Lm,by simp,by rw [Nat.zero_mul];exact Row.nil⟩,?_⟩
 rintro vA vn vc z hp5 ⟨i,g5,o5,xs5,A5,c5,hi,eL,lg5,s5,ow5,hxl5,rr5⟩
 simp only [List.cons.injEq,Value.int.injEq,Value.slice.injEq,true_and,and_true] at eL
 obtain ⟨⟨rfl,rfl,rfl⟩,rfl⟩:=eL
 refine B7 (fun hlt=>?_) (fun hge2=>?_)
 ·have hik:i<k:=by omega
  have hi1:(i+1)*k=i*k+k:=by rw [Nat.add_mul,Nat.one_mul]
  have hi2:(i+1)*k<=k*k:=Nat.mul_le_mul_right _ hik
  obtain ⟨gT,tT⟩:=tabIn g5 lg5
  refine s5.call (Y2 tT (i:=i) (by omega) ?_)
  intro h6 s6
  have l63:=A0 lg5 s6.le
  rw [e2]
  refine ⟨_,_,_,rfl,⟨by omega,by omega⟩,?_⟩
  simp only [Int.toNat_natCast,Nat.add_sub_cancel]
  refine ⟨fun L hp=>∃ (j:Nat) (g o:Heap) (xs:List QV) (A':Option Addr) (c':Nat),j<=k/\L=[.slice A' (i*k+j) c',I (j:Int)]/\g5.le g/\Sep hp g o/\OwnSl o E6 A' c' xs/\xs.length=i*k+j/\Row RQr g xs (i*k+j) (fun t=>A1e (rvs la) k (t/k) (t%k)),fun L _=>k-(iAt L 1).toNat,
   ⟨0,g5,o5,xs5,_,_,by omega,rfl,B3 _,s6,ow5,hxl5,rr5⟩,?_⟩
  rintro qA qn qc z hp7 ⟨j,g7,o7,ys,A7,c7,hj,eL,lg7,s7,ow7,hyl,rr7⟩
  simp only [List.cons.injEq,Value.int.injEq,Value.slice.injEq,true_and,and_true] at eL
  obtain ⟨⟨rfl,rfl,rfl⟩,rfl⟩:=eL
  refine B7 (fun hlt2=>?_) (fun hge2=>?_)
  ·have hjk:j<k:=by omega
   obtain ⟨gT7,tT7⟩:=tabIn g7 (A0 lg5 lg7)
   obtain ⟨wv,zv,c0,c1⟩:=tT7.at (i:=i) (j:=k+j) (by omega) (by omega)
   rw [D3,D3,e2] at c0 c1
   have hcE:k<T.cE-i*(k+k):=by
    have h1:=tT7.cE
    rw [e1,e2] at h1
    have h2:(i+1)*(k+k)<=k*(k+k):=Nat.mul_le_mul_right _ hik
    rw [Nat.add_mul,Nat.one_mul] at h2
    omega
   rw [Ju hcE]
   have ead:∀ x,Addr.add (Addr.add (Addr.add ⟨T.bE,i*(k+k)*2,none⟩ (k*2)) (j*2)) x=⟨T.bE,i*(k+k)*2+(k+j)*2+x,none⟩:=fun x=>by rw [D3,D3,D3];congr 1;omega
   refine ⟨_,rfl,by omega,by omega,_,_,_,_,by simp only [Int.toNat_natCast];rw [ead];exact C0 s7.le c0,by simp only [Int.toNat_natCast];rw [ead];exact C0 s7.le c1,?_⟩
   refine s7.call (L6 (gl.mono (A0 lh3 (A0 lg5 lg7))).tz (Dz _ _ _ _ tT7.sep.le zv) (Dz _ _ _ _ (A0 lg5 lg7) iw) (hzM _ _ (by omega) (by omega)) hzL (by omega) ?_)
   intro w9 g9 l9 i9 h9 s9
   rw [hdv i j hik hjk] at i9
   refine ⟨_,_,_,_,_,_,_,_,rfl,?_⟩
   refine Dn (ty:=S3) Zf s9 ow7 hyl.symm (y:=w9) rfl (by decide) (by rw [hyl];omega) (by rw [hyl];omega) ?_
   intro A8 c8 h8 g8 o8 l8 s8 ow8 _
   rw [hyl,show B4 ((j:Int)+1)=((j+1:Nat):Int) by rw [B6]<;>omega]
   refine ⟨⟨j+1,g8,o8,_,A8,c8,by omega,by rw [Nat.add_assoc],A0 lg7 (A0 l9 l8),s8,ow8,by rw [List.length_append,hyl];rfl,?_⟩,?_⟩
   ·have rB:=Row.push (R:=RQr) (g:=g8) (xs:=ys) (f:=fun t=>A1e (rvs la) k (t/k) (t%k)) (by rw [hyl];exact rr7.mono K3 (A0 l9 l8)) (w:=w9) (by
     show RQ g8 w9 (A1e (rvs la) k (ys.length/k) (ys.length%k))
     rw [hyl,Nat.add_comm (i*k) j,Nat.add_mul_mod_self_right,Nat.mod_eq_of_lt hjk,Nat.add_mul_div_right _ _ (by omega),Nat.div_eq_of_lt hjk,Nat.zero_add]
     exact K3 _ _ _ _ l8 i9)
    rw [List.length_append,hyl] at rB
    exact rB
   ·show k-((j+1:Nat):Int).toNat<k-(j:Int).toNat
    omega
  ·have:j=k:=by omega
   subst this
   rw [show B4 ((i:Int)+1)=((i+1:Nat):Int) by rw [B6]<;>omega,<- hi1]
   rw [<- hi1] at hyl rr7
   refine ⟨⟨i+1,g7,o7,ys,qA,qc,by omega,rfl,A0 lg5 lg7,s7,ow7,hyl,rr7⟩,?_⟩
   show j-((i+1:Nat):Int).toNat<j-(i:Int).toNat
   omega
 ·have:i=k:=by omega
  subst this
  have lh6:=A0 lh3 (A0 lg5 s5.le)
  have rq6:RowV RQr hp5 vA (i*i) (fun t=>A1e (rvs la) i (t/i) (t%i)):=⟨xs5,ow5.slF s5.ole,hxl5,rr5.mono K3 s5.le⟩
  refine Ae (m:=bb) (gl.mono lh6) rq6 (by omega) (fun t ht=>?_) (by omega) ?_
  ·have h1:t/i<i:=Nat.div_lt_of_lt_mul ht
   have h2:=Nat.mod_lt t (show 0<i by omega)
   rw [<- hdv _ _ h1 h2]
   exact S2 hlast (hzM _ _ (by omega) (by omega)) hzL
  intro b9 h9 own9
  exact ⟨_,_,_,_,_,rfl,good' _ _ h9 (A0 lh6 own9.le) (own9.vis Bh)⟩
end
section
variable {h g o:Heap} {wA B:Option Addr} {wc be m d:Nat} {hd:List HV} {xs ys:List QV}
theorem Sep.free(s:Sep h g o){b:Nat}(hb:h b=none):g b=none:=by
 cases hx:g b with
 | none=>rfl
 | some y=>rw [s.le _ _ hx] at hb;cases hb
end
section
variable {h:Heap} {K:Value->Heap->Prop} {A B:Option Addr} {n cap m:Nat} {r c:Int} {la:Nat->List UInt8} {E:Nat->Rat}
end
theorem A5v{E:Nat->Rat}{n:Nat}:A2w E n≠0↔(elE E n n n).cs.length=n:=by
 have rel:=Pn E (rows:=n) (cols:=n) (Nat.le_refl n)
 have hl:(elE E n n n).cs.length<=n:=(A5n (mtx E n) n n).1
 unfold A2w
 by_cases h:(elE E n n n).cs.length<n
 ·rw [if_pos h]
  exact ⟨fun x=>absurd rfl x,fun x=>by omega⟩
 ·rw [if_neg h]
  have hn:(elE E n n n).cs.length=n:=by omega
  refine ⟨fun _=>hn,fun _ e=>?_⟩
  have hd:=rel.det hn
  rw [e,Rat.zero_mul] at hd
  have hne:=J6 rel.last
  rcases rel.sgn with s|s
  ·rw [s] at hd
   have:((1:Int):Rat)=1:=rfl
   rw [this,Rat.one_mul] at hd
   exact hne hd.symm
  ·rw [s] at hd
   have:((-1:Int):Rat)= -1:=by decide +kernel
   rw [this] at hd
   exact hne (by grind)
theorem A2a(n c:Nat)(s:ES):(Bf n c s).cs.length<=s.cs.length+1:=by
 unfold Bf
 split
 ·split
  ·show (s.cs++[c]).length<=_
   rw [List.length_append];exact Nat.le_refl _
  ·show s.cs.length<=_
   omega
 ·omega
theorem A4h(n:Nat)(s:ES)(c:Nat):∀ j,(Gc n s (c+j)).cs.length<=(Gc n s c).cs.length+j:=by
 intro j
 induction j with
 | zero=>exact Nat.le_refl _
 | succ j ih=>
  have h1:Gc n s (c+(j+1))=Bf n (c+j) (Gc n s (c+j)):=rfl
  rw [h1]
  have:=A2a n (c+j) (Gc n s (c+j))
  omega
theorem A2c{n w:Nat}{M M':Nat->Nat->Rat}(h:∀ i j,j<w->M i j=M' i j):∀ c,c<=w->(Gc n ⟨M,[],1⟩ c).cs=(Gc n ⟨M',[],1⟩ c).cs/\∀ i j,j<w->(Gc n ⟨M,[],1⟩ c).R i j=(Gc n ⟨M',[],1⟩ c).R i j:=by
 intro c
 induction c with
 | zero=>exact fun _=>⟨rfl,h⟩
 | succ c ih=>
  intro hc
  obtain ⟨h1,h2⟩:=ih (by omega)
  have e1:Gc n ⟨M,[],1⟩ (c+1)=Bf n c (Gc n ⟨M,[],1⟩ c):=rfl
  have e2:Gc n ⟨M',[],1⟩ (c+1)=Bf n c (Gc n ⟨M',[],1⟩ c):=rfl
  rw [e1,e2]
  generalize Gc n ⟨M,[],1⟩ c=s at *
  generalize Gc n ⟨M',[],1⟩ c=t at *
  have hr:Iw n c s=Iw n c t:=by
   unfold Iw
   rw [h1]
   exact Es _ _ fun j _ _=>by rw [h2 j c (by omega)]
  unfold Bf
  rw [hr,h1]
  by_cases a:t.cs.length<n
  ·rw [if_pos a,if_pos a]
   by_cases b:Iw n c t<n
   ·rw [if_pos b,if_pos b]
    refine ⟨rfl,fun i j hj=>?_⟩
    show V3 (fun i=>s.R (xch t.cs.length (Iw n c t) i)) t.cs.length c i j=V3 (fun i=>t.R (xch t.cs.length (Iw n c t) i)) t.cs.length c i j
    unfold V3
    simp only [h2 _ c (show c<w by omega),h2 _ j hj]
   ·rw [if_neg b,if_neg b]
    exact ⟨rfl,h2⟩
  ·rw [if_neg a,if_neg a]
   exact ⟨h1,h2⟩
theorem B1s(E:Nat->Rat)(n:Nat):Yl E n↔A2w E n≠0:=by
 rw [A5v]
 have:=(A2c (n:=n) (w:=n) (M:=mtx (N5 E n) (n+n)) (M':=mtx E n) (fun i j hj=>by
  show N5 E n (i*(n+n)+j)=_
  rw [Ih E (by omega),if_pos hj]
  rfl) n (Nat.le_refl n)).1
 show (Gc n ⟨mtx (N5 E n) (n+n),[],1⟩ n).cs.length=n↔(Gc n ⟨mtx E n,[],1⟩ n).cs.length=n
 rw [this]
theorem B3o{E:Nat->Rat}{n m:Nat}(hs:∀ i,i<n*n->Sz m (E i))(hm:1<=m):B2q n (mtx E n)↔A2w E n≠0:=by
 rw [A5v]
 have run:=LuI.run (n:=n) (Ov hs) hm
 constructor
 ·intro h
  exact (run n (Nat.le_refl n) h).len
 ·intro hl
  refine Classical.byContradiction fun hno=>?_
  have key:∀ k,k<=n->(∀ c,c<k->I4 n c (T5 n (mtx E n) c)<n)\/∃ c,c<k/\(∀ c',c'<c->I4 n c' (T5 n (mtx E n) c')<n)/\¬ I4 n c (T5 n (mtx E n) c)<n:=by
   intro k
   induction k with
   | zero=>intro _;exact .inl fun c hc=>by omega
   | succ k ih=>
    intro hk
    rcases ih (by omega) with h|⟨c,h1,h2⟩
    ·by_cases e:I4 n k (T5 n (mtx E n) k)<n
     ·refine .inl fun c hc=>?_
      by_cases e2:c=k
      ·rw [e2];exact e
      ·exact h c (by omega)
     ·exact .inr ⟨k,by omega,h,e⟩
    ·exact .inr ⟨c,by omega,h2⟩
  rcases key n (Nat.le_refl n) with h|⟨c,hc,h1,h2⟩
  ·exact hno h
  ·have inv:=run c (by omega) h1
   have hrow:=inv.row
   have hlen:=inv.len
   obtain ⟨_,f2,_,_⟩:=Gd (T5 n (mtx E n) c) (show c<=n by omega)
   have e1:(Gc n ⟨mtx E n,[],1⟩ (c+1)).cs.length=c:=by
    show (Bf n c (Gc n ⟨mtx E n,[],1⟩ c)).cs.length=c
    unfold Bf
    rw [hlen,if_pos hc,hrow,if_neg h2]
    exact hlen
   have:=A4h n ⟨mtx E n,[],1⟩ (c+1) (n-(c+1))
   rw [e1,show c+1+(n-(c+1))=n by omega] at this
   have hl':(Gc n ⟨mtx E n,[],1⟩ n).cs.length=n:=hl
   omega
theorem A91{cs:List Nat}{n:Nat}(h:Asc cs n)(hl:cs.length=n){m:Nat}(hm:m<n):cs.getD m 0=m:=by
 have step:∀ c,Id cs (c+1)<=Id cs c+1:=fun c=>by
  show (if c∈cs then Id cs c+1 else Id cs c)<=_
  split<;>omega
 have grow:∀ c j,Id cs (c+j)<=Id cs c+j:=by
  intro c j
  induction j with
  | zero=>exact Nat.le_refl _
  | succ j ih=>have:=step (c+j);rw [<- Nat.add_assoc];omega
 have all:=A8e h
 have eq:∀ c,c<=n->Id cs c=c:=fun c hc=>by
  have h1:=A2s cs c
  have h2:=grow c (n-c)
  rw [show c+(n-c)=n by omega,all,hl] at h2
  omega
 have hin:m∈cs:=by
  refine Classical.byContradiction fun hno=>?_
  have h1:=A8d hno
  rw [eq m (by omega),eq (m+1) (by omega)] at h1
  omega
 obtain ⟨hk,e⟩:=(B1n h.asc m).1 hin
 have hp:=eq m (by omega)
 rw [List.getD_eq_getElem?_getD,List.getElem?_eq_getElem (by omega)]
 simp only [hp] at e
 exact e
theorem B1r{E:Nat->Rat}{n:Nat}(h:Yl E n){i j:Nat}(hi:i<n)(hj:j<n):sm n (fun t=>mtx E n i t*A1e E n t j)=if i=j then 1 else 0:=by
 have eq:=EqA.run (n:=n) (w:=n+n) (mtx (N5 E n) (n+n)) n (by omega)
 have asc:=A88 n ⟨mtx (N5 E n) (n+n),[],1⟩ rfl n
 have hl:(Gc n ⟨mtx (N5 E n) (n+n),[],1⟩ n).cs.length=n:=h
 have hM:∀ a b,b<n->mtx (N5 E n) (n+n) a b=mtx E n a b:=fun a b hb=>by
  show N5 E n (a*(n+n)+b)=_
  rw [Ih E (by omega),if_pos hb]
  rfl
 have hM2:mtx (N5 E n) (n+n) i (n+j)=if i=j then 1 else 0:=by
  show N5 E n (i*(n+n)+(n+j))=_
  rw [Ih E (by omega),if_neg (show ¬ n+j<n by omega)]
  by_cases e:i=j
  ·rw [if_pos e,if_pos (by omega)]
  ·rw [if_neg e,if_neg (by omega)]
 obtain ⟨B,El,hB,_⟩:=eq.elim
 obtain ⟨i',hi',e⟩:=hB i hi
 have top:=El.top i' (n+j) (by rw [hl];exact hi') (by omega)
 rw [hl,e,hM2] at top
 rw [top]
 refine F0 fun t ht=>?_
 rw [A91 asc hl ht,e,hM i t ht]
 rfl
theorem B1p{n:Nat}{M:Nat->Nat->Rat}{m:Nat}(hs:∀ i j,i<n->j<n->Sz m (M i j))(hm:1<=m):∀ c,c<=n->(∀ c',c'<c->I4 n c' (T5 n M c')<n)->(∀ i,i<n->(T5 n M c).p i<n)/\∀ i j,i<n->j<n->M ((T5 n M c).p i) j=sm c (fun t=>(T5 n M c).L i t*(T5 n M c).R t j)+(if c<=i then (T5 n M c).R i j else 0):=by
 intro c
 induction c with
 | zero=>
  intro _ _
  refine ⟨fun i hi=>hi,fun i j hi hj=>?_⟩
  rw [if_pos (Nat.zero_le i)]
  show M i j=0+M i j
  exact (Rat.zero_add _).symm
 | succ c ih=>
  intro hc hrow
  obtain ⟨ih1,ih2⟩:=ih (by omega) fun c' h=>hrow c' (by omega)
  have inv:=LuI.run hs hm c (by omega) fun c' h=>hrow c' (by omega)
  have hr:=hrow c (by omega)
  obtain ⟨f1,f2,f3,f4⟩:=Gd (T5 n M c) (show c<=n by omega)
  have hst:T5 n M (c+1)=A4d n c (T5 n M c):=rfl
  have hz:=inv.zero
  rw [hst]
  generalize T5 n M c=s at *
  have hxn:∀ i,i<n->xch c (I4 n c s) i<n:=fun i hi=>If (by omega) hr hi
  have hxg:∀ i,c<=i->c<=xch c (I4 n c s) i:=fun i hi=>Rs f1 hi
  have hxb:∀ i,i<c->xch c (I4 n c s) i=i:=fun i hi=>Ig f1 hi
  have xk:xch c (I4 n c s) c=I4 n c s:=Fw _ _
  refine ⟨fun i hi=>ih1 _ (hxn i hi),fun i j hi hj=>?_⟩
  show M (s.p (xch c (I4 n c s) i)) j=sm (c+1) (fun t=>Ab (fun i=>s.R (xch c (I4 n c s) i)) (fun i=>s.L (xch c (I4 n c s) i)) c i t*Dy (fun i=>s.R (xch c (I4 n c s) i)) c t j)+(if c+1<=i then Dy (fun i=>s.R (xch c (I4 n c s) i)) c i j else 0)
  rw [ih2 _ j (hxn i hi) hj]
  have e1:sm c (fun t=>Ab (fun i=>s.R (xch c (I4 n c s) i)) (fun i=>s.L (xch c (I4 n c s) i)) c i t*Dy (fun i=>s.R (xch c (I4 n c s) i)) c t j)=sm c (fun t=>s.L (xch c (I4 n c s) i) t*s.R t j):=by
   refine F0 fun t ht=>?_
   unfold Ab Dy
   rw [if_neg (by omega),if_pos (.inl (by omega))]
   show s.L (xch c (I4 n c s) i) t*s.R (xch c (I4 n c s) t) j=_
   rw [hxb t ht]
  rw [sm,e1]
  have e2:Dy (fun i=>s.R (xch c (I4 n c s) i)) c c j=s.R (I4 n c s) j:=by
   unfold Dy
   rw [if_pos (.inl (Nat.le_refl c))]
   show s.R (xch c (I4 n c s) c) j=_
   rw [xk]
  rw [e2]
  rcases Nat.lt_trichotomy i c with h|h|h
  ·have e3:Ab (fun i=>s.R (xch c (I4 n c s) i)) (fun i=>s.L (xch c (I4 n c s) i)) c i c=0:=by
    unfold Ab
    rw [if_pos rfl,if_neg (by omega),if_neg (by omega)]
   rw [e3,hxb i h,if_neg (by omega),if_neg (by omega)]
   grind
  ·subst h
   have e3:Ab (fun a=>s.R (xch i (I4 n i s) a)) (fun a=>s.L (xch i (I4 n i s) a)) i i i=1:=by
    unfold Ab
    rw [if_pos rfl,if_pos rfl]
   rw [e3,xk,if_pos f1,if_neg (by omega)]
   grind
  ·have e3:Ab (fun i=>s.R (xch c (I4 n c s) i)) (fun i=>s.L (xch c (I4 n c s) i)) c i c=s.R (xch c (I4 n c s) i) c/s.R (I4 n c s) c:=by
    unfold Ab
    rw [if_pos rfl,if_neg (by omega),if_pos h]
    show s.R (xch c (I4 n c s) i) c/s.R (xch c (I4 n c s) c) c=_
    rw [xk]
   rw [e3,if_pos (hxg i (by omega)),if_pos (by omega)]
   unfold Dy
   by_cases hjc:j<c
   ·rw [if_pos (.inr hjc),hz (I4 n c s) j hr f1 hjc]
    show _+s.R (xch c (I4 n c s) i) j=_+_+s.R (xch c (I4 n c s) i) j
    grind
   ·rw [if_neg (by omega)]
    show _+s.R (xch c (I4 n c s) i) j=_+_+(s.R (xch c (I4 n c s) i) j-s.R (xch c (I4 n c s) i) c/s.R (xch c (I4 n c s) c) c*s.R (xch c (I4 n c s) c) j)
    rw [xk]
    grind
theorem B3n{E:Nat->Rat}{n m:Nat}(hs:∀ i,i<n*n->Sz m (E i))(hm:1<=m)(h:B2q n (mtx E n)):(∀ i,i<n->(luL E n).p i<n)/\∀ i j,i<n->j<n->mtx E n ((luL E n).p i) j=sm n (fun t=>(luL E n).L i t*(luL E n).R t j):=by
 obtain ⟨h1,h2⟩:=B1p (Ov hs) hm n (Nat.le_refl n) h
 refine ⟨h1,fun i j hi hj=>?_⟩
 have:=h2 i j hi hj
 rw [if_neg (by omega),Rat.add_zero] at this
 exact this
theorem B3p{E:Nat->Rat}{n m:Nat}(hm:1<=m)(hs:∀ i,i<n*n->Sz m (E i))(h:Yl E n):∀ i j,i<n->j<n->Sz (3^n*bnd (n+n) m) (A1e E n i j):=by
 intro i j hi hj
 have hz:=Xe (E:=N5 E n) (rows:=n) (cols:=n+n) (c:=n) (A0v hm hs) (by omega)
 have hbd:=Ny (N5 E n) n (n+n) n (bnd (n+n) m)
 have hl:(elE (N5 E n) n (n+n) n).cs.length=n:=h
 have ev:=A5l (N5 E n) (rows:=n) (cols:=n+n) (c:=n) (by omega) hi (show n+j<n+n by omega) (.inl (by omega))
 show Sz _ ((elE (N5 E n) n (n+n) n).R i (n+j))
 rw [<- ev]
 exact (S2 (A07 _ _ _ _) (hz.M i (n+j) hi (by omega)) hz.last).mono hbd
theorem B5x{E:Nat->Rat}{n m Q:Nat}(hs:∀ i,i<n*n->Sz m (E i))(hm:1<=m)(hQ:3^n*bnd n m+bnd n m<=Q):∀ c,c<=n->(∀ c',c'<c->I4 n c' (T5 n (mtx E n) c')<n)->(∀ i j,i<n->j<n->(i<c\/c<n)->Sz Q ((T5 n (mtx E n) c).R i j))/\∀ i j,i<n->j<n->Sz (Q+Q) ((T5 n (mtx E n) c).L i j):=by
 have hb1:1<=bnd n m:=by unfold bnd;omega
 have hQ1:1<=Q:=by omega
 have low:∀ c,c<n->(∀ c',c'<c->I4 n c' (T5 n (mtx E n) c')<n)->∀ i j,i<n->c<=i->j<n->Sz Q ((T5 n (mtx E n) c).R i j):=by
  intro c hc hrow i j hi hci hj
  have inv:=LuI.run (n:=n) (Ov hs) hm c (by omega) hrow
  have F:=luF (E:=E) (n:=n) (k:=c) hs (by omega) inv
  have p3:3^c*bnd n m<=3^n*bnd n m:=Nat.mul_le_mul_right _ (Nat.pow_le_pow_right (by decide) (by omega))
  have ev:Rat.divInt ((elP E n n c).M i j) (elP E n n c).last/(elP E n n c).S i=(T5 n (mtx E n) c).R i j:=by
   rw [Rat.divInt_eq_div,F.val i j hi hci hj]
   exact fr1 (J6 F.last) (F.S i hi)
  rw [<- ev]
  exact ((S2 F.last (F.zM i j hi hj) F.zl).div (F.zS i hi) hb1).mono (by omega)
 intro c
 induction c with
 | zero=>
  intro _ hrow
  refine ⟨fun i j hi hj h=>?_,fun i j _ _=>Sz.zero (by omega)⟩
  exact low 0 (by omega) hrow i j hi (Nat.zero_le i) hj
 | succ c ih=>
  intro hc hrow
  obtain ⟨ih1,ih2⟩:=ih (by omega) fun c' h=>hrow c' (by omega)
  have hr:=hrow c (by omega)
  have hst:T5 n (mtx E n) (c+1)=A4d n c (T5 n (mtx E n) c):=rfl
  have lowc:=low (c+1)
  rw [hst] at lowc ⊢
  generalize T5 n (mtx E n) c=s at *
  have hxn:∀ i,i<n->xch c (I4 n c s) i<n:=fun i hi=>If (by omega) hr hi
  have old:∀ i j,i<n->j<n->Sz Q (s.R (xch c (I4 n c s) i) j):=fun i j hi hj=>ih1 _ j (hxn i hi) hj (.inr (by omega))
  refine ⟨fun i j hi hj h=>?_,fun i j hi hj=>?_⟩
  ·by_cases hic:i<=c
   ·show Sz Q (Dy (fun i=>s.R (xch c (I4 n c s) i)) c i j)
    unfold Dy
    rw [if_pos (.inl hic)]
    exact old i j hi hj
   ·exact lowc (by omega) hrow i j hi (by omega) hj
  ·show Sz (Q+Q) (Ab (fun i=>s.R (xch c (I4 n c s) i)) (fun i=>s.L (xch c (I4 n c s) i)) c i j)
   unfold Ab
   split
   ·split
    ·exact ⟨ZB.one (by omega),ZB.one (by omega)⟩
    ·split
     ·exact (old i c hi (by omega)).div (old c c (by omega) (by omega)) hQ1
     ·exact Sz.zero (by omega)
   ·exact ih2 _ j (hxn i hi) hj
theorem B4f{P:Program}{t e' ty:TypeId}{z:Value}{bytes:Nat}(s:SliceT P t e' z 1 bytes){h g o:Heap}{b:Nat}{arr:List Value}{e:TypeId}(sp:Sep h g o)(ho:o b=some (.cells arr.toArray e)){d n c m cc:Nat}(hd:d+n<=arr.length){B:Option Addr}{ys:List Value}(sy:SlV h B ys)(hm:min m n=ys.length)(h1:∀ v∈ys,Zv v=true){K:Value->Heap->Prop}
 (x:∀ h',Sep h' g (o.put b (.cells (I7 arr d ys).toArray e))->K (I ys.length) h'):wpH P (Builtin.copy_ #[t,t] ty #[.slice (some ⟨b,d,none⟩) n c,.slice B m cc]) K h:=by
 obtain ⟨i,hi,hz,hsz,hby⟩:=s.parts
 have hle:ys.length<=n:=by omega
 unfold Builtin.copy_
 simp only [List.getElem?_toArray,List.getElem?_cons_zero,List.getElem?_cons_succ,C3,D5 s.und,J5 hi,E7,Builtin.lenOf,hsz]
 have hmin:Nat.min m n=ys.length:=hm
 rw [hmin]
 refine Gu (s:=1) (cs:=ys) (by simp) sy ?_
 simp only [C3]
 have hput:h.put b (.cells arr.toArray e)=h:=Kj (sp.own b _ ho)
 rw [<- hput]
 refine G2 ys d 0 arr (by omega) h1 ?_
 exact x _ (sp.upd ho _)
section
variable {h:Heap} {K:Value->Heap->Prop} {A:Option Addr} {n ac N cap:Nat} {r c:Int} {la:Nat->List UInt8}
theorem A4j(x:List UInt8)(n:Nat):(List.replicate n x).flatMap enc=List.replicate n (Value.string (bs x)):=by
 have h1:(List.replicate n x).flatMap enc=(List.replicate n x).flatMap fun l=>[Value.string (bs l)]:=rfl
 rw [h1,A1f,List.map_replicate]
theorem Wo{v:ByteArray}(s:SlV h A [.string v])(hN:1<=N)(hl:N<=1000000)
 (hK:∀ b h' o',Sep h' h o'->o' b=some (.cells (List.replicate N (Value.string v)).toArray E5)->K (.slice (some ⟨b,0,none⟩) N N) h'):FCall Tryz.prog Pk #[.slice A 1 ac,I (N:Int)] h K:=by
 refine A3f _ _ _ _ ?_
 unfold A70
 refine B7 (fun h1=>by omega) (fun _=>?_)
 rw [C6 (n:=((1:Nat):Int)) (by omega) (by omega),C6 (n:=(N:Int)) (by omega) (by omega)]
 refine A61 (by omega) (by omega) ⟨_,_,rfl,?_⟩
 have e1:((1:Nat):Int)*(N:Int)/18446744073709551616=0:=by omega
 have e2:((1:Nat):Int)*(N:Int)%18446744073709551616=N:=by omega
 rw [e1,e2]
 refine B7 (fun h1=>by omega) (fun _=>?_)
 refine B7 (fun h1=>by omega) (fun _=>?_)
 rw [B6 (n:=(N:Int)) (by omega) (by omega)]
 refine N3 Ax (zx:=([]:List UInt8)) rfl (by omega) (by omega) (by omega) (by omega) ?_
 intro b hb
 simp only [Int.toNat_natCast]
 refine ⟨_,_,_,rfl,?_⟩
 have s0:=(Sep.refl h).new hb (.cells ((List.replicate N ([]:List UInt8)).flatMap enc).toArray E5)
 have l0:h.le (h.put b (.cells ((List.replicate N ([]:List UInt8)).flatMap enc).toArray E5)):=Heap.le_put _ hb
 rw [A4j] at s0 l0
 show wpH _ (Builtin.copy_ _ _ _) _ (h.put b (.cells ((List.replicate N ([]:List UInt8)).flatMap enc).toArray E5))
 rw [A4j]
 refine B4f Ax s0 (B9 _ _ _) (d:=0) (by simp) (s.mono l0) (by simp;omega) (fun w hw=>by rw [List.mem_singleton.1 hw];rfl) ?_
 intro h1 s1
 refine ⟨_,rfl,?_⟩
 have cut:I7 (List.replicate N (Value.string (bs []))) 0 [Value.string v]=List.replicate 1 (Value.string v)++List.replicate (N-1) (Value.string (bs [])):=by
  unfold I7
  simp
 rw [cut] at s1
 refine ⟨fun l hp=>∃ (k:Nat) (o:Heap),l=[I (k:Int)]/\0<k/\k<=N/\Sep hp h o/\o b=some (.cells (List.replicate k (Value.string v)++List.replicate (N-k) (Value.string (bs []))).toArray E5),fun l _=>N-(iAt l 0).toNat,⟨1,_,rfl,by omega,hN,s1,B9 _ _ _⟩,?_⟩
 rintro i hp ⟨k,o,hli,hk0,hkn,w,ho⟩
 obtain rfl:i=(k:Int):=by simpa using hli
 refine B7 (fun h2=>?_) (fun h2=>?_)
 ·refine ⟨⟨by omega,by omega⟩,⟨by omega,by omega⟩,?_⟩
  simp only [Int.toNat_natCast,J2,Nat.sub_zero]
  rw [Ju (by omega),D3,Nat.zero_add,Nat.mul_one]
  have hal:(List.replicate k (Value.string v)++List.replicate (N-k) (Value.string (bs []))).length=N:=by simp;omega
  have sy:SlV hp (some ⟨b,0,none⟩) (List.replicate (min k (N-k)) (Value.string v)):=by
   right
   refine ⟨_,rfl,fun i u hu=>?_⟩
   have hi:i<min k (N-k):=by
    by_cases hi:i<min k (N-k)
    ·exact hi
    ·rw [List.getElem?_eq_none (by rw [List.length_replicate];omega)] at hu;cases hu
   rw [List.getElem?_replicate,if_pos hi] at hu
   rw [D3,Nat.zero_add]
   unfold Heap.cell?
   simp only [w.own b _ ho,Option.isSome_none,Bool.false_eq_true,if_false,List.getElem?_toArray]
   rw [List.getElem?_append_left (by rw [List.length_replicate];omega),List.getElem?_replicate,if_pos (by omega)]
   exact hu
  refine B4f Ax w ho (d:=k) (by rw [hal];omega) sy (by rw [List.length_replicate]) (fun u hu=>by rw [List.eq_of_mem_replicate hu];rfl) ?_
  intro h3 s3
  rw [List.length_replicate]
  have e4:B4 ((k:Int)+(min k (N-k):Nat))=((k+min k (N-k):Nat):Int):=by rw [B6 (by omega) (by omega)];omega
  have e5:I7 (List.replicate k (Value.string v)++List.replicate (N-k) (Value.string (bs []))) k (List.replicate (min k (N-k)) (Value.string v))=List.replicate (k+min k (N-k)) (Value.string v)++List.replicate (N-(k+min k (N-k))) (Value.string (bs [])):=by
   unfold I7
   rw [List.take_left' (by simp),List.length_replicate,List.drop_append,List.drop_of_length_le (by rw [List.length_replicate];omega),List.nil_append,List.length_replicate,List.drop_replicate,List.replicate_append_replicate]
   congr 2
   omega
  rw [e5] at s3
  refine ⟨_,rfl,?_⟩
  rw [e4]
  exact ⟨⟨k+min k (N-k),_,rfl,by omega,by omega,s3,B9 _ _ _⟩,by simp only [Hl];omega⟩
 ·have:k=N:=by omega
  subst this
  rw [Nat.sub_self,List.replicate_zero,List.append_nil] at ho
  exact hK b hp o w ho
def idT(q k:Nat):Nat->List UInt8:=fun t=>if t/q=t%q/\t/q<k then [49] else [48]
theorem Zy{q:Nat}(hq1:1<=q)(hq2:q<=64)
 (hK:∀ b h',h.le h'->RowV SSr h' (some ⟨b,0,none⟩) (q*q) (fun t=>N2 (if t/q=t%q then 1 else 0))->K (.tuple #[No (q:Int) (q:Int) (some ⟨b,0,none⟩) (q*q) (q*q),I 0]) h'):FCall Tryz.prog Hs #[I (q:Int)] h K:=by
 refine Yf _ ?_
 unfold Yg
 have hqq:q*q<=64*64:=Nat.mul_le_mul hq2 hq2
 have hqp:1<=q*q:=Nat.mul_pos hq1 hq1
 refine B7 (fun h1=>by omega) (fun _=>B7 (fun h1=>by omega) (fun _=>?_))
 refine Ag Ax rfl ?_
 intro b0 hb0
 refine ⟨_,_,_,rfl,?_⟩
 have ewm:B4 ((q:Int)*(q:Int))=((q*q:Nat):Int):=by rw [<- Int.natCast_mul];exact K8 (by omega)
 rw [ewm]
 have l0:h.le (h.put b0 (.cells #[.string ({ data:=#[48] }:ByteArray)] E5)):=Heap.le_put _ hb0
 have sv:SlV (h.put b0 (.cells #[.string ({ data:=#[48] }:ByteArray)] E5)) (some ⟨b0,0,none⟩) [.string (bs [48])]:=by
  right
  refine ⟨_,rfl,fun i v hv=>?_⟩
  rw [D3,Nat.zero_add,D4]
  have e:(#[Value.string { data:=#[48] }]:Array Value)[i]? = ([Value.string (bs [48])]:List Value)[i]? :=by
   rw [show (#[Value.string { data:=#[48] }]:Array Value)=([Value.string (bs [48])]:List Value).toArray from rfl,List.getElem?_toArray]
  rw [e]
  exact hv
 refine Wo sv hqp (by omega) ?_
 intro b h1 o1 s1 ho1
 refine ⟨_,_,_,rfl,?_⟩
 refine ⟨fun L hp=>∃ (k:Nat) (o:Heap) (arr:List Value),k<=q/\L=[I (k:Int)]/\Sep hp (h.put b0 (.cells #[.string ({ data:=#[48] }:ByteArray)] E5)) o/\o b=some (.cells arr.toArray E5)/\arr.length=q*q/\(∀ t,t<q*q->arr[t]? = some (.string (bs (idT q k t)))),fun L _=>q-(iAt L 0).toNat,⟨0,o1,_,by omega,rfl,s1,ho1,List.length_replicate,fun t ht=>by
  rw [List.getElem?_replicate,if_pos ht]
  unfold idT
  rw [if_neg (by omega)]⟩,?_⟩
 rintro z hp ⟨k,o,arr,hk,eL,s,ho,hal,harr⟩
 obtain rfl:z=(k:Int):=by simpa using eL
 refine B7 (fun hlt=>?_) (fun hge=>?_)
 ·have hkq:k<q:=by omega
  have hix:=K9 hkq hkq
  have ew:B4 (B4 ((k:Int)*(q:Int))+(k:Int))=((k*q+k:Nat):Int):=by
   rw [<- Int.natCast_mul,K8 (by omega)]
   exact K8 (n:=k*q+k) (by omega)
  rw [ew]
  refine ⟨_,rfl,by omega,by omega,?_⟩
  simp only [Int.toNat_natCast]
  rw [Nat.mul_one]
  refine Oc Ls rfl rfl s ho (by rw [List.size_toArray];omega) ?_
  intro h2 o2 s2 eo
  rw [show B4 ((k:Int)+1)=((k+1:Nat):Int) by rw [B6]<;>omega]
  refine ⟨⟨k+1,o2,arr.set (k*q+k) (.string (bs [49])),by omega,rfl,s2,?_,by rw [List.length_set];exact hal,fun t ht=>?_⟩,by simp only [Hl];omega⟩
  ·rw [eo,B9]
   simp
   rfl
  ·have hd:(k*q+k)/q=k/\(k*q+k)%q=k:=by
    rw [Nat.add_comm,Nat.add_mul_mod_self_right,Nat.mod_eq_of_lt hkq,Nat.add_mul_div_right _ _ (by omega),Nat.div_eq_of_lt hkq,Nat.zero_add]
    exact ⟨rfl,rfl⟩
   by_cases e:t=k*q+k
   ·subst e
    rw [List.getElem?_set_self (by omega)]
    unfold idT
    rw [hd.1,hd.2,if_pos ⟨rfl,by omega⟩]
   ·rw [List.getElem?_set_ne (fun x=>e x.symm),harr t ht]
    unfold idT
    by_cases e2:t/q=t%q/\t/q<k
    ·rw [if_pos e2,if_pos ⟨e2.1,by omega⟩]
    ·rw [if_neg e2,if_neg (fun x=>?_)]
     refine e2 ⟨x.1,?_⟩
     have hne:t/q≠k:=fun e3=>e (by
      have h4:=Nat.div_add_mod t q
      rw [<- x.1,e3] at h4
      rw [<- h4,Nat.mul_comm])
     omega
 ·have:k=q:=by omega
  subst this
  refine hK b hp (A0 l0 s.le) ?_
  have rl:RowV SSr hp (some ⟨b,0,none⟩) ((List.range (k*k)).map (idT k k)).length (fun i=>((List.range (k*k)).map (idT k k)).getD i []):=by
   refine Ek ?_
   right
   refine ⟨_,rfl,fun i v hv=>?_⟩
   have hi:i<k*k:=by
    by_cases hi:i<k*k
    ·exact hi
    ·rw [List.getElem?_eq_none (by simp;omega)] at hv;cases hv
   rw [D3,Nat.zero_add]
   unfold Heap.cell?
   simp only [s.own b _ ho,Option.isSome_none,Bool.false_eq_true,if_false,List.getElem?_toArray]
   rw [harr i hi]
   simpa [hi] using hv
  rw [List.length_map,List.length_range] at rl
  refine rl.congr fun t ht=>?_
  have hlt:t/k<k:=Nat.div_lt_of_lt_mul ht
  have:((List.range (k*k)).map (idT k k)).getD t []=idT k k t:=by simp [ht]
  rw [this]
  unfold idT
  by_cases e:t/k=t%k
  ·rw [if_pos ⟨e,hlt⟩,if_pos e,B2w]
  ·rw [if_neg (fun x=>e x.1),if_neg e,In]
theorem A1a{rows cols i j:Nat}(gl:Gl h)(ra:RowV SSr h A n la)(hn:n<=1000000)(hl:∀ i,i<n->(la i).length<=100000000)(mk:MOk r c n la rows cols)(hi:i<rows)(hj:j<cols)
 (hK:K (.string (bs (la (i*cols+j)))) h):FCall Tryz.prog A8p #[No r c A n cap,I (i:Int),I (j:Int)] h K:=by
 refine B4u _ _ _ _ _ _ _ ?_
 unfold MAt
 refine Ou gl ra hn hl (fun _=>⟨_,rfl,?_⟩) (fun hno=>absurd ⟨_,_,mk⟩ hno)
 have:=mk.r2;have:=mk.c2
 obtain ⟨rfl,rfl,_,_,_,_,rfl,_⟩:=id mk
 show Br (decide ((i:Int)<0)) _ _
 refine B7 (fun h1=>by omega) (fun _=>?_)
 refine B7 (fun h1=>by omega) (fun _=>?_)
 refine B7 (fun h1=>by omega) (fun _=>?_)
 refine B7 (fun h1=>by omega) (fun _=>?_)
 refine B7 (fun h1=>by omega) (fun _=>?_)
 have hix:=K9 hi hj
 have hrc:rows*cols<=64*64:=Nat.mul_le_mul (by omega) (by omega)
 have ew:B4 (B4 ((i:Int)*(cols:Int))+(j:Int))=((i*cols+j:Nat):Int):=by
  rw [<- Int.natCast_mul,K8 (by omega)]
  exact K8 (n:=i*cols+j) (by omega)
 rw [ew]
 obtain ⟨a,ea,hc1⟩:=ra.sat hix
 exact ⟨a,ea,by omega,by omega,_,hc1,hK⟩
end
theorem B7u{X Y:Prop}(x:X):Br true X Y:=x
section
variable {h:Heap} {A:Option Addr} {n cap:Nat} {r c:Int} {ls:Nat->List UInt8}
theorem A80{m:Nat}(sm:Small r c n ls 6 12)(hm:m=48):(∀ i,i<n->(ls i).length<=100000000)/\(∀ i,i<n->Sz m (rv (ls i)))/\n<=1000000/\∀ rows cols,MOk r c n ls rows cols->rows<=6/\cols<=6:=by
 subst hm
 refine ⟨fun i hi=>by have:=sm.hl i hi;omega,fun i hi=>B1c (k:=12) (by have:=sm.hl i hi;omega) (by omega),by have:=sm.hn;omega,fun rows cols mk=>⟨by have:=mk.er;have:=sm.hr;omega,by have:=mk.ec;have:=sm.hc;omega⟩⟩
theorem B1g{cols:Nat}(h:cols<=6):7^cols*48<=6000000:=Nat.le_trans (Nat.mul_le_mul_right 48 (Nat.pow_le_pow_right (show 7>0 by decide) h)) (by decide)
theorem B1h{cols:Nat}(h:cols<=6):3^cols*bnd cols 48<=300000:=by
 have h1:bnd cols 48<=337:=by unfold bnd;omega
 exact Nat.le_trans (Nat.mul_le_mul (Nat.pow_le_pow_right (show 3>0 by decide) h) h1) (by decide)
end
theorem Pd(M:Nat->Nat->Rat){w i j:Nat}(hj:j<w):mtx (rvs (U4 M w)) w i j=M i j:=by
 obtain ⟨e1,e2⟩:=Xh (i:=i) hj
 show rv (N2 (M ((i*w+j)/w) ((i*w+j)%w)))=_
 rw [It,e1,e2]
theorem Uf{M:Nat->Nat->Rat}{q:Nat}{r:Int}(hr:r=q)(h1:1<=q)(h2:q<=64):MOk r r (q*q) (U4 M q) q q:=⟨hr,hr,h1,h2,h1,h2,rfl,fun _ _=>⟨_,rfl⟩⟩
theorem Ue{M:Nat->Nat->Rat}{q m:Nat}(hq:1<=q)(hs:∀ i j,i<q->j<q->Sz m (M i j)):∀ i,i<q*q->Sz m (rv (U4 M q i)):=by
 intro i hi
 show Sz m (rv (N2 _))
 rw [It]
 exact hs _ _ (Nat.div_lt_of_lt_mul hi) (Nat.mod_lt i (by omega))
theorem Pe{M:Nat->Nat->Rat}{q m:Nat}(hq:1<=q)(hs:∀ i j,i<q->j<q->Sz m (M i j)):∀ i,i<q*q->(U4 M q i).length<=2*m+4:=by
 intro i hi
 exact Tf (hs _ _ (Nat.div_lt_of_lt_mul hi) (Nat.mod_lt i (by omega)))
theorem eq0{d:Rat}:(ByteArray.toList (bs (N2 d))==ByteArray.toList ({ data:=#[48] }:ByteArray))=decide (d=0):=by
 have h1:({ data:=#[48] }:ByteArray)=bs (N2 0):=by rw [In];rfl
 rw [h1,Pu]
 by_cases h:d=0
 ·rw [h];simp
 ·rw [decide_eq_false h]
  exact decide_eq_false fun e=>h (A7o e)
section
variable {h:Heap} {K:Value->Heap->Prop} {A:Option Addr} {n cap m:Nat} {r c:Int} {la:Nat->List UInt8}
theorem law_matrixFactors(gl:Gl h)(s0:RowV SSr h A n la):FCall Tryz.prog Dp #[No r c A n cap] h (B6l h):=by
 refine Ln _ _ _ _ _ ?_
 unfold Gz
 have aw:∀ h',h.le h'->FCall Tryz.prog Ba #[] h' (fun r hp=>∃ t,r= .bool t/\B6l h (.bool t) hp):=fun h' l=>A31 (gl.mono l) fun h'' l''=>⟨_,rfl,rfl,A0 l l''⟩
 have aw0:=aw h (B3 _)
 refine Zz s0 (fun hsml=>⟨_,rfl,Br.nt ?_⟩) (fun _=>⟨_,rfl,Yo aw0⟩)
 obtain ⟨hl,hs,hn,hrc⟩:=A80 hsml rfl
 refine Ou gl s0 hn hl (fun hx=>⟨_,rfl,Br.nt ?_⟩) (fun _=>⟨_,rfl,Yo aw0⟩)
 refine K7 (fun _=>aw0) (fun erc=>?_)
 obtain ⟨q,q',mk⟩:=hx
 obtain rfl:q=q':=by have:=mk.er;have:=mk.ec;omega
 obtain ⟨hq6,_⟩:=hrc q q mk
 have b3:=B1h hq6
 have b7:=B1g hq6
 have b6:3^q*bnd (q+q) 48<=455625:=by
  have h1:bnd (q+q) 48<=625:=by unfold bnd;omega
  exact Nat.le_trans (Nat.mul_le_mul (Nat.pow_le_pow_right (show 3>0 by decide) hq6) h1) (by decide)
 have uq:∀ {a b:Nat},MOk r c n la a b->a=q/\b=q:=fun mk'=>by
  have:=mk.er;have:=mk.ec;have:=mk'.er;have:=mk'.ec
  omega
 have:=mk.r1;have:=mk.r2
 obtain ⟨rfl,rfl,_,_,_,_,rfl,hnum⟩:=id mk
 have ms:=Ov hs
 have p7:=A18 q 48 (by omega)
 have liff:=B3o (E:=rvs la) (n:=q) (m:=48) hs (by omega)
 have iiff:=B1s (rvs la) q
 refine Wq gl s0 hn hl hs (fun rows cols mk'=>by obtain ⟨rfl,rfl⟩:=uq mk';omega) (fun qq mk' h1 l1=>⟨_,_,rfl,?_⟩) (fun _ hne=>absurd rfl hne) (fun hno=>absurd ⟨_,_,mk⟩ hno)
 obtain ⟨hqq,_⟩:=uq mk'
 subst hqq
 refine A8h (m:=48) (gl.mono l1) (s0.mono Bh l1) hn hl hs (by omega) (fun q' mk'=>by obtain ⟨rfl,_⟩:=uq mk';exact ⟨by omega,by omega⟩) ?_
 intro o5 ho5 Ap cp Al cl Au cu h2 l2 rp rl ru
 refine ⟨_,_,_,_,_,_,_,_,_,_,_,_,_,_,rfl,?_⟩
 have l02:=A0 l1 l2
 refine Tv (m:=48) (gl.mono l02) (s0.mono Bh l02) hn hl hs (by omega) (fun q' mk'=>by obtain ⟨rfl,_⟩:=uq mk';omega) ?_
 intro o1 ho1 A3 c3 h3 l3 r3
 refine ⟨_,_,_,_,_,_,rfl,?_⟩
 have l03:=A0 l02 l3
 refine K7 (fun e=>absurd rfl e) (fun _=>?_)
 rw [eq0]
 have ho5':(B2q qq (mtx (rvs la) qq)/\o5=⟨((qq:Nat):Int),qq*qq,qq,(luL (rvs la) qq).p,U4 (luL (rvs la) qq).L qq,U4 (luL (rvs la) qq).R qq,0⟩)\/(¬ B2q qq (mtx (rvs la) qq)/\o5=noL 7):=by
  rcases ho5 with ⟨h1,_⟩|⟨_,h2,_⟩|⟨a,h1,h4⟩
  ·exact absurd ⟨_,_,mk⟩ h1
  ·exact absurd rfl h2
  ·obtain ⟨rfl,_⟩:=uq h1
   exact h4
 have ho1':(Yl (rvs la) qq/\o1=⟨((qq:Nat):Int),((qq:Nat):Int),qq*qq,U4 (A1e (rvs la) qq) qq,0⟩)\/(¬ Yl (rvs la) qq/\o1=noM 7):=by
  rcases ho1 with ⟨h1,_⟩|⟨_,h2,_⟩|⟨a,h1,h4⟩
  ·exact absurd ⟨_,_,mk⟩ h1
  ·exact absurd rfl h2
  ·obtain ⟨rfl,_⟩:=uq h1
   exact h4
 by_cases hd:A2w (rvs la) qq=0
 ·rcases ho5' with ⟨a,rfl⟩|⟨a,rfl⟩
  ·exact absurd hd (liff.1 a)
  rcases ho1' with ⟨b,rfl⟩|⟨b,rfl⟩
  ·exact absurd hd (iiff.1 b)
  rw [show decide (A2w (rvs la) qq=0)=true from decide_eq_true hd]
  refine Br.of (fun e=>absurd (show (false:Bool)=true from e) (by decide)) (fun _=>?_)
  refine Br.of (fun e=>absurd (show (false:Bool)=true from e) (by decide)) (fun _=>?_)
  refine B6n (E9 (fun _=>E9 (fun _=>aw h3 l03) (fun e=>absurd rfl e)) (fun e=>absurd rfl e))
 rcases ho5' with ⟨a,rfl⟩|⟨a,_⟩
 rotate_left
 ·exact absurd (liff.2 hd) a
 rcases ho1' with ⟨b,rfl⟩|⟨b,_⟩
 rotate_left
 ·exact absurd (iiff.2 hd) b
 rw [show decide (A2w (rvs la) qq=0)=false from decide_eq_false hd]
 refine Br.of (fun e=>absurd (show (false:Bool)=true from e) (by decide)) (fun _=>?_)
 refine Br.of (fun e=>absurd (show (false:Bool)=true from e) (by decide)) (fun _=>?_)
 refine Br.of (fun e=>absurd (show (false:Bool)=true from e) (by decide)) (fun _=>?_)
 have b3':3^qq*bnd qq 48+bnd qq 48<=246010:=by
  have h1:bnd qq 48<=337:=by unfold bnd;omega
  have h2:3^qq*bnd qq 48<=3^6*337:=Nat.mul_le_mul (Nat.pow_le_pow_right (show 3>0 by decide) hq6) h1
  have h3:3^6*337=245673:=by decide
  omega
 obtain ⟨z1,z2⟩:=B5x (E:=rvs la) (n:=qq) (m:=48) (Q:=246010) hs (by omega) b3' qq (Nat.le_refl qq) a
 have usz:∀ i j,i<qq->j<qq->Sz 492020 ((luL (rvs la) qq).R i j):=fun i j hi hj=>(z1 i j hi hj (.inl hi)).mono (by omega)
 have lsz:∀ i j,i<qq->j<qq->Sz 492020 ((luL (rvs la) qq).L i j):=z2
 have isz:∀ i j,i<qq->j<qq->Sz 455625 (A1e (rvs la) qq i j):=fun i j hi hj=>(B3p (by omega) hs b i j hi hj).mono b6
 have hqn:qq*qq<=64*64:=Nat.mul_le_mul (by omega) (by omega)
 have mL:MOk (qq:Int) (qq:Int) (qq*qq) (U4 (luL (rvs la) qq).L qq) qq qq:=Uf rfl (by omega) (by omega)
 have mU:MOk (qq:Int) (qq:Int) (qq*qq) (U4 (luL (rvs la) qq).R qq) qq qq:=Uf rfl (by omega) (by omega)
 have mI:MOk (qq:Int) (qq:Int) (qq*qq) (U4 (A1e (rvs la) qq) qq) qq qq:=Uf rfl (by omega) (by omega)
 have nL:=Pe (by omega) lsz
 have nU:=Pe (by omega) usz
 have nI:=Pe (by omega) isz
 have sL:=Ue (by omega) lsz
 have sU:=Ue (by omega) usz
 have sI:=Ue (by omega) isz
 obtain ⟨pl,pm⟩:=B3n (E:=rvs la) (n:=qq) (m:=48) hs (by omega) a
 refine Sg (m:=492020) (d:=6) (gl.mono l03) (rl.mono Bh l3) (ru.mono Bh l3) (show qq*qq<=_ by omega) (show qq*qq<=_ by omega) (fun i hi=>by have:=nL i hi;show (U4 _ qq i).length<=_;omega) (fun i hi=>by have:=nU i hi;show (U4 _ qq i).length<=_;omega) sL sU (by omega) (fun rows mid mk'=>by have:=(mL.uniq mk').2;omega) (by omega) ?_
 intro o7 ho7 A7 c7 h4 l4 r7
 refine ⟨_,_,_,_,_,_,rfl,?_⟩
 rcases ho7.ok mL mU with ⟨_,_,eo7⟩|⟨hx,_,_⟩
 rotate_left
 ·exact absurd rfl hx
 subst eo7
 have l04:=A0 l03 l4
 refine Sg (m:=455625) (d:=6) (gl.mono l04) (s0.mono Bh l04) (r3.mono Bh l4) hn (show qq*qq<=_ by omega) hl (fun i hi=>by have:=nI i hi;show (U4 _ qq i).length<=_;omega) (fun i hi=>(hs i hi).mono (by omega)) sI (by omega) (fun rows mid mk'=>by have:=(mk.uniq mk').2;omega) (by omega) ?_
 intro o8 ho8 A8 c8 h5 l5 r8
 refine ⟨_,_,_,_,_,_,rfl,?_⟩
 rcases ho8.ok mk mI with ⟨_,_,eo8⟩|⟨hx,_,_⟩
 rotate_left
 ·exact absurd rfl hx
 subst eo8
 have l05:=A0 l04 l5
 refine Zy (by omega) (by omega) ?_
 intro b9 h6 l6 r9
 refine ⟨_,_,_,_,_,_,rfl,?_⟩
 have l06:=A0 l05 l6
 refine K7 (fun e=>absurd rfl e) (fun _=>K7 (fun e=>absurd rfl e) (fun _=>K7 (fun e=>absurd rfl e) (fun _=>?_)))
 have dm:∀ t,t<qq*qq->t/qq<qq/\t%qq<qq:=fun t ht=>⟨Nat.div_lt_of_lt_mul ht,Nat.mod_lt t (by omega)⟩
 refine Rb (r8.mono Bh l6) r9 (show qq*qq<=_ by omega) (fun _ _ _ _=>⟨_,rfl,Br.nt ?_⟩) (fun hno=>absurd ⟨rfl,rfl,rfl,fun t ht=>?_⟩ hno)
 rotate_left
 ·have ht':t<qq*qq:=ht
  obtain ⟨d1,d2⟩:=dm t ht'
  show N2 (sm qq fun j=>mtx (rvs la) qq (t/qq) j*mtx (rvs (U4 (A1e (rvs la) qq) qq)) qq j (t%qq))=N2 _
  rw [<- B1r b d1 d2]
  congr 1
  exact F0 fun j _=>by rw [Pd _ d2]
 refine K7 (fun e=>absurd rfl e) (fun _=>?_)
 have mX:=mL.prod mU
 have nX:=A4l mL mU sL sU
 have l46:h4.le h6:=A0 l5 l6
 have rX:RowV SSr h6 A7 (qq*qq) (A2i (U4 (luL (rvs la) qq).L qq) qq (U4 (luL (rvs la) qq).R qq) qq):=r7.mono Bh l46
 have rp6:=rp.mono B3m (A0 l3 (A0 l4 l46))
 have pat:∀ i,i<qq->∃ x,Ap=some x/\h6.cell? (Addr.add x (i*1))=some (I (((luL (rvs la) qq).p i:Nat):Int)):=by
  intro i hi
  obtain ⟨ps,sp,hpl,hpe⟩:=rp6
  have hpl':ps.length=qq:=hpl
  obtain ⟨w,e1,hw⟩:=hpe i hi
  obtain ⟨x,ex,hc⟩:=Vg sp (i:=i) (by omega)
  rw [List.getElem?_eq_getElem (by omega)] at e1
  rw [Option.some.inj e1] at hc
  have hw':w=(((luL (rvs la) qq).p i:Nat):Int):=hw
  rw [hw'] at hc
  exact ⟨x,ex,hc⟩
 refine ⟨fun L hp=>∃ i:Nat,i<=qq/\L=[I (i:Int)]/\hp=h6,fun L _=>qq-(iAt L 0).toNat,⟨0,by omega,rfl,rfl⟩,?_⟩
 rintro z hp ⟨i,hi,eL,rfl⟩
 obtain rfl:z=(i:Int):=by simpa using eL
 refine B7 (fun hlt=>?_) (fun hge=>aw _ l06)
 have hiq:i<qq:=by omega
 refine ⟨fun L hp'=>∃ j:Nat,j<=qq/\L=[I (j:Int)]/\hp'=hp,fun L _=>qq-(iAt L 0).toNat,⟨0,by omega,rfl,rfl⟩,?_⟩
 rintro z hp' ⟨j,hj,eL,rfl⟩
 obtain rfl:z=(j:Int):=by simpa using eL
 refine B7 (fun hlt2=>?_) (fun hge2=>?_)
 ·have hjq:j<qq:=by omega
  obtain ⟨x,ex,hc⟩:=pat i hiq
  have hpi:=pl i hiq
  refine ⟨x,ex,by omega,by show (i:Int)<((qq:Nat):Int);omega,_,hc,B7 (fun e=>by omega) (fun _=>?_)⟩
  refine ⟨x,ex,by omega,by show (i:Int)<((qq:Nat):Int);omega,_,hc,B7 (fun e=>by omega) (fun _=>?_)⟩
  refine ⟨x,ex,by omega,by show (i:Int)<((qq:Nat):Int);omega,_,hc,?_⟩
  refine A1a (gl.mono l06) rX (by omega) (fun t ht=>by have:=nX t ht;omega) mX hiq hjq ?_
  refine ⟨_,rfl,B3 _,?_⟩
  refine A1a (gl.mono l06) (s0.mono Bh l06) hn hl mk hpi hjq ?_
  refine ⟨_,rfl,B3 _,?_⟩
  have ev:A2i (U4 (luL (rvs la) qq).L qq) qq (U4 (luL (rvs la) qq).R qq) qq (i*qq+j)=la ((luL (rvs la) qq).p i*qq+j):=by
   obtain ⟨d1,d2⟩:=Xh (i:=i) hjq
   rw [<- B39 (hnum _ (K9 hpi hjq))]
   show N2 (sm qq fun t=>mtx (rvs (U4 (luL (rvs la) qq).L qq)) qq ((i*qq+j)/qq) t*mtx (rvs (U4 (luL (rvs la) qq).R qq)) qq t ((i*qq+j)%qq))=_
   rw [d1,d2]
   have h1:mtx (rvs la) qq ((luL (rvs la) qq).p i) j=rv (la ((luL (rvs la) qq).p i*qq+j)):=rfl
   rw [<- h1,pm i j hiq hjq]
   congr 1
   exact F0 fun t ht=>by rw [Pd _ ht,Pd _ hjq]
  rw [ev,show (ByteArray.toList (bs (la ((luL (rvs la) qq).p i*qq+j)))==ByteArray.toList (bs (la ((luL (rvs la) qq).p i*qq+j))))=true from beq_self_eq_true _]
  refine (show Br (!true) _ _ from ?_)
  rw [show B4 ((j:Int)+1)=((j+1:Nat):Int) by rw [B6]<;>omega]
  exact ⟨⟨j+1,by omega,rfl,rfl⟩,by simp only [Hl];omega⟩
 ·rw [show B4 ((i:Int)+1)=((i+1:Nat):Int) by rw [B6]<;>omega]
  exact ⟨⟨i+1,by omega,rfl,rfl⟩,by simp only [Hl];omega⟩
end
end Go.Proofs.YthilnfgnpdeofaaGreatDoor
namespace Go.Proofs.YthilnfgnpdeofaaGreatDoor
set_option maxRecDepth 20000
open Go Go.RowKit
theorem B4h(s:ByteArray):bs s.data.toList=s:=by
 cases s;simp [bs]
theorem A4t{H:Type}{enc:TypeId × Value->H}{P:Program}{W:World}{base:Nat}{sp:Nat->Bool}{held:Bool}{t e:TypeId}{fuel:Nat}{A:Option Addr}{len cap:Nat}{x:DataW H × List MemPlace}(ht:P.underlying t=some (.slice e))(he:P.underlying e=some .string)(hc:P.cellsOf e=1)
 (hf:DataW.trod enc P W base sp held fuel t [.slice A len cap]=some x):∃ ls:Nat->List UInt8,RowV SSr (memOf W) A len ls/\len<=maxLen:=by
 rcases Deep.open_strs ht he hc hf with ⟨hcs,_⟩|⟨a,l,c,m,Sx,hcs,_,hl,hm,hmm,_,hcell⟩
 ·simp at hcs
  obtain ⟨rfl,rfl,rfl⟩:=hcs
  exact ⟨fun _=>[],RowV.nil,Nat.zero_le _⟩
 ·simp at hcs
  obtain ⟨rfl,rfl,rfl⟩:=hcs
  have hlm:len<=m:=by rw [hmm];split<;>omega
  have sl:SlV (memOf W) (some a) (((List.range len).map fun i=>(Sx i).data.toList).map fun l=>Value.string (bs l)):=by
   refine .inr ⟨a,rfl,fun i v hv=>?_⟩
   rw [List.getElem?_map,List.getElem?_map] at hv
   by_cases hi:i<len
   ·rw [List.getElem?_range hi] at hv
    simp only [Option.map_some,Option.some.injEq,B4h] at hv
    rw [<- hv]
    exact Kw (hcell i (by omega)).1
   ·rw [List.getElem?_eq_none (by simpa using hi)] at hv;cases hv
  have:=Ek sl
  rw [List.length_map,List.length_range] at this
  exact ⟨_,this,by omega⟩
theorem open_mat{H:Type}{enc:TypeId × Value->H}{P:Program}{W:World}{base:Nat}{sp:Nat->Bool}{held:Bool}{r:Reach}{b0:Nat}{t e:TypeId}{f0 f1 f2:Field}{v:Value}{d:DataW H}{ps:List MemPlace}(ht:P.underlying t=some (.struct #[f0,f1,f2]))(u0:P.underlying f0.type=some (.int .i64))(u1:P.underlying f1.type=some (.int .i64))(u2:P.underlying f2.type=some (.slice e))(ue:P.underlying e=some .string)
 (hoff:f0.offset=0/\f1.offset=1/\f2.offset=2/\P.cellsOf f0.type=1/\P.cellsOf f1.type=1/\P.cellsOf f2.type=1/\P.cellsOf t=3/\P.cellsOf e=1)
 (hval:Value.okWide P W r b0 t v) (hd:DataW.Trod enc P W base sp held t v d ps):∃ (x y:Int) (A:Option Addr) (len cap:Nat) (ls:Nat->List UInt8),v= .agg #[.int .i64 x,.int .i64 y,.slice A len cap]/\RowV SSr (memOf W) A len ls/\len<=maxLen:=by
 obtain ⟨o0,o1,o2,c0,c1,c2,ct,ce⟩:=hoff
 obtain ⟨cs,rfl,hcs⟩:=WideShapes.okWide_struct ht hval
 obtain ⟨fuel,hf⟩:=hd
 obtain ⟨y0,y1,y2,n,hx,hl,g0,g1,g2⟩:=Deep.trod_struct3 ht hf
 rw [o0,c0] at g0
 rw [o1,c1] at g1
 rw [o2,c2] at g2
 obtain ⟨s0,e0,_,_⟩:=DataW.trod_int u0 g0
 obtain ⟨s1,e1,_,_⟩:=DataW.trod_int u1 g1
 rw [ct] at hcs
 have hlen:cs.toList.length=3:=by simpa using hcs
 obtain ⟨p,q,z,hm⟩:∃ p q z,cs.toList=[p,q,z]:=by
  match h:cs.toList,hlen with
  | [p,q,z],_=>exact ⟨p,q,z,rfl⟩
 simp only [Value.cells] at e0 e1 g2
 rw [hm] at e0 e1 g2
 simp at e0 e1 g2
 have hA:∃ A len cap,z= .slice A len cap:=by
  rcases Deep.open_strs u2 ue ce g2 with ⟨hcs,_⟩|⟨a,l,c,m,Sx,hcs,_⟩
  ·simp at hcs;exact ⟨_,_,_,hcs⟩
  ·simp at hcs;exact ⟨_,_,_,hcs⟩
 obtain ⟨A,len,cap,rfl⟩:=hA
 obtain ⟨ls,hr,hml⟩:=A4t u2 ue ce g2
 have:cs=#[.int .i64 s0,.int .i64 s1,.slice A len cap]:=by rw [<- Array.toArray_toList (xs:=cs),hm,e0,e1]
 exact ⟨s0,s1,A,len,cap,ls,by rw [this],hr,hml⟩
end Go.Proofs.YthilnfgnpdeofaaGreatDoor
