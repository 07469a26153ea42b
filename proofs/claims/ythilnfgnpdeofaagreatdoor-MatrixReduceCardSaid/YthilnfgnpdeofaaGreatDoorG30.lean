/-
  Texts of this proof, merged by a program of ours: MatM, MatN, MatO, MatEc, MatU, MatV, MatW, MatX, LawMR, CardM.
-/
import Derived.Test.YthilnfgnpdeofaaGreatDoorG29
import Derived.Test.YthilnfgnpdeofaaGreatDoorG21
import Derived.Test.YthilnfgnpdeofaaGreatDoorG22
import Derived.Deep.Strs
/-
 Lists of rows: read,and one's own;the reference's Rows and Copy.
-/
namespace Go.Proofs.YthilnfgnpdeofaaGreatDoor
open Go
set_option maxRecDepth 20000
structure HV where
 A:Option Addr
 n:Nat
 c:Nat
abbrev HV.v(s:HV):Value:=.slice s.A s.n s.c
instance:Enc HV:=⟨⟨fun s=>[.slice s.A s.n s.c],1,fun _=>rfl,fun s v hv=>by rw [List.mem_singleton.1 hv];rfl⟩⟩
def RowsV(h:Heap)(A:Option Addr)(n w:Nat)(M:Nat->Nat->Rat):Prop:=∃ hd:List HV,SlF h A hd/\hd.length=n/\∀ i,i<n->∃ s,hd[i]? = some s/\s.n=w/\w<=s.c/\RowV NQr h s.A w (M i)
theorem RowsV.mono{h h':Heap}{A:Option Addr}{n w:Nat}{M:Nat->Nat->Rat}(l:h.le h')(r:RowsV h A n w M):RowsV h' A n w M:=by
 obtain ⟨hd,s,e,r⟩:=r
 refine ⟨hd,s.mono l,e,fun i hi=>?_⟩
 obtain ⟨s,e1,e2,e3,r⟩:=r i hi
 exact ⟨s,e1,e2,e3,r.mono monNQ l⟩
theorem RowsV.congr{h:Heap}{A:Option Addr}{n w:Nat}{M M':Nat->Nat->Rat}(r:RowsV h A n w M)(e:∀ i j,i<n->j<w->M i j=M' i j):RowsV h A n w M':=by
 obtain ⟨hd,s,e1,r⟩:=r
 refine ⟨hd,s,e1,fun i hi=>?_⟩
 obtain ⟨s,e1,e2,e3,r⟩:=r i hi
 exact ⟨s,e1,e2,e3,r.congr fun j hj=>e i j hi hj⟩
theorem RowsV.at{h:Heap}{A:Option Addr}{n w:Nat}{M:Nat->Nat->Rat}(r:RowsV h A n w M){i:Nat}(hi:i<n):∃ (a:Addr) (s:HV),A=some a/\s.n=w/\w<=s.c/\h.cell? (Addr.add a (i*1))=some (.slice s.A s.n s.c)/\RowV NQr h s.A w (M i):=by
 obtain ⟨hd,s,e,r⟩:=r
 obtain ⟨u,e1,e2,e3,r⟩:=r i hi
 obtain ⟨a,ha,hc⟩:=SlF.at (by decide) s (i:=i) (by omega)
 have hu:hd[i]=u:=by
  rw [List.getElem?_eq_getElem (by omega)] at e1;exact Option.some.inj e1
 have:=hc 0 _ (by rw [hu];rfl)
 rw [add_zero'] at this
 exact ⟨a,u,ha,e2,e3,this,r⟩
structure Mt (h g o:Heap) (bo:Nat) (rb:Nat->Nat) (n w:Nat) (M:Nat->Nat->Rat):Prop where
 sep:Sep h g o
 hd:∃ hd:List HV,RowB o bo hd/\hd.length=n/\∀ i,i<n->∃ c,hd[i]? = some ⟨some ⟨rb i,0,none⟩,w,c⟩/\w<=c
 nb:∀ i,i<n->rb i≠bo
 inj:∀ i j,i<n->j<n->rb i=rb j->i=j
 row:∀ i,i<n->∃ xs:List QV,RowB o (rb i) xs/\xs.length=w/\Row NQr g xs w (M i)
section
variable {h g o:Heap} {bo n w:Nat} {rb:Nat->Nat} {M:Nat->Nat->Rat}
theorem Mt.next(t:Mt h g o bo rb n w M){h' g':Heap}(s:Sep h' g' o)(l:g.le g'):Mt h' g' o bo rb n w M:=by
 refine ⟨s,t.hd,t.nb,t.inj,fun i hi=>?_⟩
 obtain ⟨xs,r,e,q⟩:=t.row i hi
 exact ⟨xs,r,e,q.mono monNQ l⟩
theorem Mt.congr(t:Mt h g o bo rb n w M){M':Nat->Nat->Rat}(e:∀ i j,i<n->j<w->M i j=M' i j):Mt h g o bo rb n w M':=by
 refine ⟨t.sep,t.hd,t.nb,t.inj,fun i hi=>?_⟩
 obtain ⟨xs,r,e1,q⟩:=t.row i hi
 exact ⟨xs,r,e1,q.congr fun j hj=>e i j hi hj⟩
theorem Mt.keep(t:Mt h g o bo rb n w M){h' g' o':Heap}(s:Sep h' g' o')(l:g.le g')(hk:∀ k x,o k=some x->(k=bo\/∃ i,i<n/\k=rb i)->o' k=some x):Mt h' g' o' bo rb n w M:=by
 refine ⟨s,?_,t.nb,t.inj,fun i hi=>?_⟩
 ·obtain ⟨hd,⟨e,ex,hb⟩,h1,h2⟩:=t.hd
  exact ⟨hd,⟨e,ex,hk _ _ hb (.inl rfl)⟩,h1,h2⟩
 ·obtain ⟨xs,⟨e,ex,hb⟩,h1,h2⟩:=t.row i hi
  exact ⟨xs,⟨e,ex,hk _ _ hb (.inr ⟨i,hi,rfl⟩)⟩,h1,h2.mono monNQ l⟩
theorem Mt.own(t:Mt h g o bo rb n w M):(∃ x,o bo=some x)/\∀ i,i<n->∃ x,o (rb i)=some x:=by
 obtain ⟨hd,⟨e,ex,hb⟩,_⟩:=t.hd
 refine ⟨⟨_,hb⟩,fun i hi=>?_⟩
 obtain ⟨xs,⟨e,ex,hb⟩,_⟩:=t.row i hi
 exact ⟨_,hb⟩
theorem Mt.rowsV(t:Mt h g o bo rb n w M):RowsV h (some ⟨bo,0,none⟩) n w M:=by
 obtain ⟨hd,r,e,q⟩:=t.hd
 refine ⟨hd,r.slF t.sep.ole,e,fun i hi=>?_⟩
 obtain ⟨c,e1,hc⟩:=q i hi
 obtain ⟨xs,rx,e2,qx⟩:=t.row i hi
 exact ⟨_,e1,rfl,hc,xs,rx.slF t.sep.ole,e2,qx.mono monNQ t.sep.le⟩
theorem Mt.head(t:Mt h g o bo rb n w M){i:Nat}(hi:i<n):∃ c,w<=c/\o.cell? (Addr.add ⟨bo,0,none⟩ (i*1))=some (.slice (some ⟨rb i,0,none⟩) w c):=by
 obtain ⟨hd,r,e,q⟩:=t.hd
 obtain ⟨c,e1,hc⟩:=q i hi
 refine ⟨c,hc,?_⟩
 have hu:hd[i]=⟨some ⟨rb i,0,none⟩,w,c⟩:=by
  rw [List.getElem?_eq_getElem (by omega)] at e1;exact Option.some.inj e1
 rw [add_at,Nat.zero_add]
 exact r.cell (i:=i) (by omega) (j:=0) (by rw [hu];rfl)
theorem Mt.elem(t:Mt h g o bo rb n w M){i j:Nat}(hi:i<n)(hj:j<w):∃ x:QV,NQ g x (M i j)/\o.cell? (Addr.add (Addr.add ⟨rb i,0,none⟩ (j*4)) 0)=some (.bool x.s)/\o.cell? (Addr.add (Addr.add ⟨rb i,0,none⟩ (j*4)) 1)=some (.slice x.A x.n x.c)/\o.cell? (Addr.add (Addr.add ⟨rb i,0,none⟩ (j*4)) 2)=some (.bool x.s2)/\o.cell? (Addr.add (Addr.add ⟨rb i,0,none⟩ (j*4)) 3)=some (.slice x.A2 x.n2 x.c2):=by
 obtain ⟨xs,r,e,q⟩:=t.row i hi
 obtain ⟨x,e1,hx⟩:=q j hj
 have hu:xs[j]=x:=by
  rw [List.getElem?_eq_getElem (by omega)] at e1;exact Option.some.inj e1
 have cell:∀ k v,(enc x)[k]? = some v->o.cell? (Addr.add (Addr.add ⟨rb i,0,none⟩ (j*4)) k)=some v:=by
  intro k v hk
  rw [add_at,add_at,Nat.zero_add]
  exact r.cell (i:=j) (by omega) (j:=k) (by rw [hu];exact hk)
 exact ⟨x,hx,cell 0 _ rfl,cell 1 _ rfl,cell 2 _ rfl,cell 3 _ rfl⟩
def updQ(M:Nat->Nat->Rat)(i j:Nat)(q:Rat):Nat->Nat->Rat:=fun a b=>if a=i/\b=j then q else M a b
theorem Mt.store(t:Mt h g o bo rb n w M){i j:Nat}(hi:i<n)(hj:j<w){x:QV}{q:Rat}(hx:NQ g x q){K:Unit->Heap->Prop}
 (k:∀ h' o',Mt h' g o' bo rb n w (updQ M i j q)->(∀ k,k≠rb i->o' k=o k)->K () h'):wpH Tryz.prog (Instr.storeAt ty_tRats_e (.pointer (some (Addr.add ⟨rb i,0,none⟩ (j*4)))) x.v) K h:=by
 obtain ⟨xs,r,e,q'⟩:=t.row i hi
 rw [add_at,Nat.zero_add]
 refine Sep.store (E:=inferInstanceAs (Enc QV)) tRats_one (v:=x.v) (y:=x) rfl t.sep r (i:=j) (by omega) rfl ?_
 intro h' o' x' eo s' r'
 refine k h' o' ⟨s',?_,t.nb,t.inj,fun a ha=>?_⟩ (fun k hk=>by rw [eo,Heap.put_other _ _ hk])
 ·obtain ⟨hd,rh,h1,h2⟩:=t.hd
  exact ⟨hd,by rw [eo];exact rh.other (t.nb i hi).symm _,h1,h2⟩
 ·by_cases ea:a=i
  ·subst ea
   refine ⟨_,r',by simpa using e,?_⟩
   refine (Row.upd q' (k:=j) (by omega) hx).congr fun b _=>?_
   unfold updQ
   by_cases eb:b=j
   ·rw [if_pos eb,if_pos ⟨rfl,eb⟩]
   ·rw [if_neg eb,if_neg (fun x=>eb x.2)]
  ·obtain ⟨ys,ry,ey,qy⟩:=t.row a ha
   refine ⟨ys,by rw [eo];exact ry.other (fun e=>ea (t.inj a i ha hi e)) _,ey,qy.congr fun b _=>?_⟩
   unfold updQ
   rw [if_neg (fun x=>ea x.1)]
theorem Mt.swap{P:Program}(t:Mt h g o bo rb n w M){i k:Nat}(hi:i<n)(hk:k<n){t':TypeId}(one:P.cellsOf t'=1/\(P.info? t').isSome=true){ci ck:Nat}(hci:o.cell? (Addr.add ⟨bo,0,none⟩ (i*1))=some (.slice (some ⟨rb i,0,none⟩) w ci))(hck:o.cell? (Addr.add ⟨bo,0,none⟩ (k*1))=some (.slice (some ⟨rb k,0,none⟩) w ck))(hcw:w<=ci)(hcw2:w<=ck){X:Unit->Heap->Prop}
 (xx:∀ h1,(∀ {K:Unit->Heap->Prop},(∀ h' o',Mt h' g o' bo (fun a=>rb (xch i k a)) n w (fun a=>M (xch i k a))->(∀ k,k≠bo->o' k=o k)->K () h')->wpH P (Instr.storeAt t' (.pointer (some (Addr.add ⟨bo,0,none⟩ (i*1)))) (.slice (some ⟨rb k,0,none⟩) w ck)) K h1)->X () h1):
 wpH P (Instr.storeAt t' (.pointer (some (Addr.add ⟨bo,0,none⟩ (k*1)))) (.slice (some ⟨rb i,0,none⟩) w ci)) X h:=by
 obtain ⟨hd,r,e,q⟩:=t.hd
 rw [add_at,Nat.zero_add]
 refine Sep.store (E:=inferInstanceAs (Enc HV)) one (v:=.slice (some ⟨rb i,0,none⟩) w ci) (y:=(⟨some ⟨rb i,0,none⟩,w,ci⟩:HV)) rfl t.sep r (i:=k) (by omega) rfl ?_
 intro h1 o1 x1 eo1 s1 r1
 refine xx h1 (fun {K} kk=>?_)
 rw [add_at,Nat.zero_add]
 refine Sep.store (E:=inferInstanceAs (Enc HV)) one (v:=.slice (some ⟨rb k,0,none⟩) w ck) (y:=(⟨some ⟨rb k,0,none⟩,w,ck⟩:HV)) rfl s1 r1 (i:=i) (by simpa using (by omega:i<hd.length)) rfl ?_
 intro h2 o2 x2 eo2 s2 r2
 have ko:∀ b,b≠bo->o2 b=o b:=fun b hb=>by rw [eo2,Heap.put_other _ _ hb,eo1,Heap.put_other _ _ hb]
 have hx:∀ a,a<n->xch i k a<n:=fun a ha=>xch_lt hi hk ha
 have hinj:∀ a b,xch i k a=xch i k b->a=b:=fun a b h=>by rw [<- xch_xch (k:=i) (l:=k) (i:=a),h,xch_xch]
 refine kk h2 o2 ⟨s2,⟨_,r2,by simpa using e,fun a ha=>?_⟩,fun a ha=>t.nb _ (hx a ha),fun a b ha hb h=>hinj a b (t.inj _ _ (hx a ha) (hx b hb) h),fun a ha=>?_⟩ ko
 ·by_cases e1:a=i
  ·subst e1
   exact ⟨ck,by rw [List.getElem?_set_self (by simp;omega)];unfold xch;rw [if_pos rfl],hcw2⟩
  ·rw [List.getElem?_set_ne (fun x=>e1 x.symm)]
   by_cases e2:a=k
   ·subst e2
    exact ⟨ci,by rw [List.getElem?_set_self (by omega)];unfold xch;rw [if_neg e1,if_pos rfl],hcw⟩
   ·rw [List.getElem?_set_ne (fun x=>e2 x.symm)]
    obtain ⟨c,h1,h2⟩:=q a ha
    exact ⟨c,by rw [h1];unfold xch;rw [if_neg e1,if_neg e2],h2⟩
 ·obtain ⟨xs,rx,ex,qx⟩:=t.row _ (hx a ha)
  obtain ⟨e,ex',hb⟩:=rx
  exact ⟨xs,⟨e,ex',by rw [ko _ (t.nb _ (hx a ha))];exact hb⟩,ex,qx⟩
end
end Go.Proofs.YthilnfgnpdeofaaGreatDoor
/-
 The reference's Rows,Copy and Pack.
-/
namespace Go.Proofs.YthilnfgnpdeofaaGreatDoor
open Go
set_option maxRecDepth 20000
def RWr(w:Nat):Heap->HV->(Nat->Rat)->Prop:=fun h s f=>s.n=w/\w<=s.c/\RowV NQr h s.A w f
theorem monRW(w:Nat):Mon (RWr w):=fun _ _ _ _ l i=>⟨i.1,i.2.1,i.2.2.mono monNQ l⟩
theorem RowsV.of{h:Heap}{A:Option Addr}{n w:Nat}{M:Nat->Nat->Rat}(r:RowV (RWr w) h A n M):RowsV h A n w M:=r
theorem appendFresh{α:Type}[E:Enc α]{P:Program}{t e ty:TypeId}{z:Value}{bytes:Nat}(st:SliceT P t e z E.default.size bytes){h g o:Heap}(s:Sep h g o){A:Option Addr}{B:Option Addr}{d m:Nat}{ys:List α}(hm:m=ys.length)(hne:ys≠[])(sy:SlF h B ys)
 (hb:(2*ys.length+192)*bytes<=281474976710656) (hn:ys.length<=9223372036854775807) {K:Value->Heap->Prop}
 (x:∀ b c' h' g' o' y,o'=o.put b y->h b=none->g.le g'->Sep h' g' o'->ys.length<=c'->RowB o' b ys->K (.slice (some ⟨b,0,none⟩) m c') h'):wpH P (Builtin.append_ #[t,t] ty #[.slice A 0 0,.slice B m d]) K h:=by
 have p:PrivF h h e A 0 ([]:List α):=PrivF.nil h e A
 refine appendF_ok st p hm sy (by simpa using hb) (by simpa using hn) ?_
 intro A' c' h' g' hg hp
 rw [List.nil_append] at hp
 obtain ⟨b,y,hA,hgb,hh,_,rb⟩:=Sep.privF hp hne
 obtain ⟨g2,lg2,s2⟩:=s.after hg
 have hlc:=hp.2.1
 have hbn:h b=none:=by
  cases hx:h b with
  | none=>rfl
  | some u=>rw [hg b u hx] at hgb;cases hgb
 subst hh
 obtain ⟨e',ex,hb'⟩:=rb
 rw [Heap.put_same] at hb'
 have:=x b c' _ g2 (o.put b y) y rfl hbn lg2 (s2.new hgb y) hlc ⟨e',ex,by rw [Heap.put_same];exact hb'⟩
 rw [hA,List.nil_append,<- hm]
 exact this
section
variable {h:Heap} {K:Value->Heap->Prop} {A:Option Addr} {n cap m w:Nat} {r c:Int} {ls:Nat->List UInt8} {M:Nat->Nat->Rat}
theorem frows_spec(rv':RowV SSr h A n ls)(hn:n<=1000000)(hl:∀ i,i<n->(ls i).length<=100000000)
 (hK1:∀ rows cols,MOk r c n ls rows cols->∀ b h',h.le h'->RowsV h' (some ⟨b,0,none⟩) rows cols (mtx (rvs ls) cols)->K (.tuple #[.slice (some ⟨b,0,none⟩) rows rows,.bool true]) h')
 (hK0:¬ Mx r c n ls->∀ h',h.le h'->K (.tuple #[.slice none 0 0,.bool false]) h'):FCall Tryz.prog f_FRows #[matV r c A n cap] h K:=by
 refine FRows_ok _ _ _ _ _ ?_
 unfold FRows
 have no:∀ (_:¬ Shape r c n),K (.tuple #[.slice none 0 0,.bool false]) h:=fun hs=>hK0 (fun x=>hs (Mx.iff.1 x).1) h (Heap.le_refl _)
 refine Br.dec (fun e=>no fun s=>by have:=s.1;omega) (fun h1=>Br.dec (fun e=>no fun s=>by have:=s.2.1;omega) (fun h2=>Br.dec (fun e=>no fun s=>by have:=s.2.2.1;omega) (fun h3=>Br.dec (fun e=>no fun s=>by have:=s.2.2.2.1;omega) (fun h4=>?_))))
 have hrc:r*c<=64*64:=Int.mul_le_mul (by omega) (by omega) (by omega) (by omega)
 have hrc0:0<=r*c:=Int.mul_nonneg (by omega) (by omega)
 have ew:wi64 (r*c)=r*c:=wi64_id (by omega) (by omega)
 rw [ew]
 refine Br.bne (fun e=>no fun s=>e s.2.2.2.2) (fun h5=>?_)
 have sh:Shape r c n:=⟨by omega,by omega,by omega,by omega,h5⟩
 refine nums_spec rv' hn hl (fun hnum b h1' own=>?_) (fun hno h' l=>⟨_,_,_,_,rfl,hK0 (fun x=>hno (Mx.iff.1 x).2) h' l⟩)
 have mk:=MOk.of sh hnum
 generalize r.toNat=rows at mk
 generalize c.toNat=cols at mk
 have:=mk.r1;have:=mk.r2;have:=mk.c1;have:=mk.c2
 obtain ⟨rfl,rfl,_,_,_,_,rfl,_⟩:=id mk
 have ov:=own.vis monNQ
 refine ⟨_,_,_,_,rfl,makeF_ok tQss (zx:=(⟨none,0,0⟩:HV)) rfl (by omega) (by omega) (by omega) (by omega) ?_⟩
 intro b2 hb2
 refine ⟨_,_,_,rfl,fun L hp=>∃ k:Nat,k<=rows/\L=[I (k:Int)]/\OwnK (RWr cols) h1' hp b2 rows k (mtx (rvs ls) cols),fun L _=>rows-(iAt L 0).toNat,⟨0,by omega,rfl,OwnK.zero hb2⟩,?_⟩
 rintro z hp ⟨k,hk,eL,g,o,xs,lg,s,rb,hx,rr⟩
 obtain rfl:z=(k:Int):=by simpa using eL
 refine Br.dec (fun hlt=>?_) (fun hge=>?_)
 ·have hkr:k<rows:=by omega
  have h2:(k+1)*cols<=rows*cols:=Nat.mul_le_mul_right _ hkr
  have h3:(k+1)*cols=k*cols+cols:=by rw [Nat.add_mul,Nat.one_mul]
  have hrc':rows*cols<=64*64:=Nat.mul_le_mul (by omega) (by omega)
  have e0:wi64 ((k:Int)+1)=((k+1:Nat):Int):=wi64_id (by omega) (by omega)
  have e1:wi64 ((k:Int)*(cols:Int))=((k*cols:Nat):Int):=by rw [<- Int.natCast_mul];exact wi64_nat (by omega)
  have e2:wi64 (wi64 ((k:Int)+1)*(cols:Int))=(((k+1)*cols:Nat):Int):=by rw [e0,<- Int.natCast_mul];exact wi64_nat (by omega)
  rw [e1,e2,e0]
  refine ⟨⟨by omega,by omega⟩,⟨by omega,by simp only [Int.toNat_natCast];omega⟩,_,rfl,by omega,by omega,?_⟩
  simp only [Int.toNat_natCast]
  have e5:(k+1)*cols-k*cols=cols:=by omega
  rw [e5]
  have row:RowV NQr h1' (cutA (some ⟨b,0,none⟩) (rows*cols) (k*cols) 4) cols (mtx (rvs ls) cols k):=ov.cut (c:=rows*cols) (l:=k*cols) (k:=cols) (by omega) (Nat.le_refl _)
  refine OwnK.store (monRW cols) tQss_one (y:=(⟨cutA (some ⟨b,0,none⟩) (rows*cols) (k*cols) 4,cols,rows*cols-k*cols⟩:HV)) lg (Heap.le_refl _) s rb (by simpa using hx) rr hkr rfl ⟨rfl,by show cols<=rows*cols-k*cols;omega,row.mono monNQ lg⟩ ?_
  intro h4 ow
  exact ⟨⟨k+1,by omega,rfl,ow⟩,by simp only [iAt0];omega⟩
 ·have:k=rows:=by omega
  subst this
  have own2:Own (RWr cols) h1' hp b2 k (mtx (rvs ls) cols):=⟨g,o,xs,lg,s,rb,hx,rr⟩
  exact hK1 _ _ mk b2 hp (Heap.le_trans own.le own2.le) (RowsV.of (own2.vis (monRW cols)))
theorem fcopy_spec{rcap:Nat}(rs:RowsV h A n w M)(hn:n<=1000000)(hw1:1<=w)(hw:w<=1000000)(hn1:1<=n)
 (hK:∀ h' g' o' bo rb c',h.le g'->Mt h' g' o' bo rb n w M->K (.slice (some ⟨bo,0,none⟩) n c') h'):FCall Tryz.prog f_FCopy #[.slice A n rcap] h K:=by
 refine FCopy_ok _ _ _ ?_
 unfold FCopy
 refine ⟨fun L hp=>∃ (k:Nat) (g o:Heap) (hd:List HV) (rb:Nat->Nat) (A':Option Addr) (c':Nat),k<=n/\L=[.slice A' k c',I (k:Int)]/\h.le g/\Sep hp g o/\OwnSl o ty_tQss_e A' c' hd/\hd.length=k/\(∀ i,i<k->∃ c,hd[i]? = some ⟨some ⟨rb i,0,none⟩,w,c⟩/\w<=c)/\(∀ i,i<k->A'≠some ⟨rb i,0,none⟩)/\(∀ i j,i<k->j<k->rb i=rb j->i=j)/\∀ i,i<k->∃ xs:List QV,RowB o (rb i) xs/\xs.length=w/\Row NQr g xs w (M i),fun L _=>n-(iAt L 1).toNat,
  ⟨0,h,noHeap,[],fun _=>0,none,0,by omega,rfl,Heap.le_refl _,Sep.refl h,OwnSl.nil,rfl,fun i hi=>by omega,fun i hi=>by omega,fun i j hi=>by omega,fun i hi=>by omega⟩,?_⟩
 rintro oA on oc z hp ⟨k,g,o,hd,rb,A',c',hk,eL,lg,s,ow,hhd,hhd2,hap,hinj,hrow⟩
 simp only [List.cons.injEq,Value.int.injEq,Value.slice.injEq,true_and,and_true] at eL
 obtain ⟨⟨rfl,rfl,rfl⟩,rfl⟩:=eL
 refine Br.dec (fun hlt=>?_) (fun hge=>?_)
 ·have hkn:on<n:=by omega
  refine lit0_ok tRats ?_
  intro be hbe
  have s1:=s.vis hbe (.cells #[] ty_tRats_e)
  have lgb:g.le (g.put be (.cells #[] ty_tRats_e)):=Heap.le_put _ (by
   cases hx:g be with
   | none=>rfl
   | some y=>rw [s.le _ _ hx] at hbe;cases hbe)
  have lh1:=Heap.le_trans lg lgb
  obtain ⟨a,sv,ea,e1,e2,hc,xs,sx,hxl,qx⟩:=rs.at hkn
  refine ⟨_,_,_,rfl,a,ea,by omega,by omega,_,_,_,Heap.cell?_le (Heap.le_trans lh1 s1.le) hc,?_⟩
  refine appendFresh tRats s1 (ys:=xs) (by omega) (by rintro rfl;simp at hxl;omega) (sx.mono (Heap.le_trans lh1 s1.le)) (by omega) (by omega) ?_
  intro b2 c2 h2 g2 o2 y eo hb2 l2 s2 hc2 rb2
  refine ⟨_,_,_,rfl,?_⟩
  have ob2:∀ q x,o q=some x->q≠b2:=by
   rintro q x e rfl
   have:=s1.ole q x e
   rw [this] at hb2;cases hb2
  have ow2:OwnSl o2 ty_tQss_e oA oc hd:=ow.keep fun q x _ e=>by rw [eo,Heap.put_other _ _ (ob2 q x e)];exact e
  have hA2:oA≠some ⟨b2,0,none⟩:=by
   intro hA
   rcases ow.2 with ⟨_,h0⟩|⟨b',arr,hA',hbo,_⟩
   ·rw [hA] at h0;cases h0
   ·rw [hA] at hA'
    simp only [Option.some.injEq,Addr.mk.injEq,and_true] at hA'
    exact ob2 _ _ hbo hA'.symm
  refine OwnSl.push' (ty:=ty_tQss) tQss s2 ow2 hhd.symm (y:=(⟨some ⟨b2,0,none⟩,sv.n,c2⟩:HV)) rfl (by decide) (by rw [hhd];omega) (by rw [hhd];omega) ?_
  intro A3 c3 h3 g3 o3 l3 s3 ow3 kp
  have kq:∀ i,i<on->∃ x,o (rb i)=some x:=fun i hi=>by
   obtain ⟨xs,⟨e,ex,hb⟩,_⟩:=hrow i hi;exact ⟨_,hb⟩
  obtain ⟨e5,ex5,hb5⟩:=id rb2
  have k2:=kp b2 _ hb5 hA2
  rw [hhd,show wi64 ((on:Int)+1)=((on+1:Nat):Int) by rw [wi64_id]<;>omega]
  have gall:=Heap.le_trans lgb (Heap.le_trans l2 l3)
  refine ⟨⟨on+1,g3,o3,_,fun i=>if i=on then b2 else rb i,A3,c3,by omega,rfl,Heap.le_trans lg gall,s3,ow3,by rw [List.length_append,hhd];rfl,fun i hi=>?_,fun i hi=>?_,fun i j hi hj h=>?_,fun i hi=>?_⟩,?_⟩
  ·show ∃ c,(hd++[(⟨some ⟨b2,0,none⟩,sv.n,c2⟩:HV)])[i]? = some ⟨some ⟨if i=on then b2 else rb i,0,none⟩,w,c⟩/\w<=c
   by_cases e:i=on
   ·subst e
    exact ⟨c2,by rw [List.getElem?_append_right (by omega),hhd,if_pos rfl,e1];simp,by omega⟩
   ·obtain ⟨c,h1,h2⟩:=hhd2 i (by omega)
    exact ⟨c,by rw [List.getElem?_append_left (by omega),if_neg e];exact h1,h2⟩
  ·show A3≠some ⟨if i=on then b2 else rb i,0,none⟩
   by_cases e:i=on
   ·rw [if_pos e];exact k2.2
   ·rw [if_neg e]
    obtain ⟨x,hx⟩:=kq i (by omega)
    exact (kp (rb i) x (by rw [eo,Heap.put_other _ _ (ob2 _ _ hx)];exact hx) (hap i (by omega))).2
  ·have h':(if i=on then b2 else rb i)=(if j=on then b2 else rb j):=h
   by_cases e1:i=on
   ·by_cases e2:j=on
    ·omega
    ·rw [if_pos e1,if_neg e2] at h'
     obtain ⟨x,hx⟩:=kq j (by omega)
     exact absurd h'.symm (ob2 _ _ hx)
   ·by_cases e2:j=on
    ·rw [if_neg e1,if_pos e2] at h'
     obtain ⟨x,hx⟩:=kq i (by omega)
     exact absurd h' (ob2 _ _ hx)
    ·rw [if_neg e1,if_neg e2] at h'
     exact hinj i j (by omega) (by omega) h'
  ·show ∃ xs:List QV,RowB o3 (if i=on then b2 else rb i) xs/\_
   by_cases e:i=on
   ·subst e
    rw [if_pos rfl]
    exact ⟨xs,⟨e5,ex5,k2.1⟩,hxl,qx.mono monNQ (Heap.le_trans lg gall)⟩
   ·rw [if_neg e]
    obtain ⟨ys,⟨ey,exy,hby⟩,hyl,qy⟩:=hrow i (by omega)
    refine ⟨ys,⟨ey,exy,?_⟩,hyl,qy.mono monNQ gall⟩
    exact (kp (rb i) _ (by rw [eo,Heap.put_other _ _ (ob2 _ _ hby)];exact hby) (hap i (by omega))).1
  ·show n-((on+1:Nat):Int).toNat<n-((on:Nat):Int).toNat
   omega
 ·have hke:on=n:=by omega
  subst hke
  obtain ⟨bo,rfl,rbo⟩:=ow.rowB (by rintro rfl;simp at hhd;omega)
  exact hK hp g o bo rb oc lg ⟨s,⟨hd,rbo,hhd,hhd2⟩,fun i hi e=>hap i hi (by rw [e]),hinj,hrow⟩
end
end Go.Proofs.YthilnfgnpdeofaaGreatDoor
/-
 The reference's Pack and Echelon.
-/
namespace Go.Proofs.YthilnfgnpdeofaaGreatDoor
open Go
set_option maxRecDepth 20000
section
variable {α:Type} [E:Enc α]
theorem OwnSl.app{P:Program}{t e ty:TypeId}{z:Value}{bytes:Nat}(st:SliceT P t e z E.default.size bytes){h g o:Heap}{A:Option Addr}{c:Nat}{xs:List α}(s:Sep h g o)(w:OwnSl o e A c xs){B:Option Addr}{d m n:Nat}{ys:List α}(hxn:n=xs.length)(hm:m=ys.length)(hne:ys≠[])(sy:SlF h B ys)(hb:(2*(xs.length+ys.length)+192)*bytes<=281474976710656)(hn:xs.length+ys.length<=9223372036854775807){K:Value->Heap->Prop}
 (x:∀ A' c' h' g' o',g.le g'->Sep h' g' o'->OwnSl o' e A' c' (xs++ys)->(∀ k u,o k=some u->A≠some ⟨k,0,none⟩->o' k=some u/\A'≠some ⟨k,0,none⟩)->K (.slice A' (xs.length+m) c') h'):
 wpH P (Builtin.append_ #[t,t] ty #[.slice A n c,.slice B m d]) K h:=by
 subst hxn
 obtain ⟨gb,p,hkeep⟩:=w.priv s
 refine appendF_ok st p hm sy hb hn ?_
 intro A' c' h' g' hg hp
 rw [List.length_append,<- hm]
 have hgk:∀ k u,h k=some u->A≠some ⟨k,0,none⟩->g' k=some u:=by
  intro k u e1 hne
  exact hg k u (hkeep k u e1 hne)
 have hnA:∀ k u,g k=some u->A≠some ⟨k,0,none⟩:=by
  intro k u e1 hA
  rcases w.2 with ⟨_,h0⟩|⟨b',arr,hA',hb',_⟩
  ·rw [hA] at h0;cases h0
  ·rw [hA] at hA'
   simp only [Option.some.injEq,Addr.mk.injEq,and_true] at hA'
   subst hA'
   rw [s.dis k _ hb'] at e1;cases e1
 rcases hp.2.2 with ⟨hc0,_⟩|⟨b',arr,hA',hb',hh',ha,ht⟩
 ·exfalso
  have:=hp.2.1
  rw [List.length_append] at this
  have:ys.length≠0:=fun h=>hne (List.eq_nil_of_length_eq_zero h)
  omega
 ·subst hA'
  let o':Heap:=fun k=>if k=b' then some (.cells (List.toArray arr) e) else if A=some ⟨k,0,none⟩ then none else o k
  have ob:o' b'=some (.cells (List.toArray arr) e):=by show (if b'=b' then _ else _)=_;rw [if_pos rfl]
  have ok:∀ k,k≠b'->A≠some ⟨k,0,none⟩->o' k=o k:=fun k h1 h2=>by show (if k=b' then _ else if _ then _ else _)=_;rw [if_neg h1,if_neg h2]
  have ono:∀ k,k≠b'->A=some ⟨k,0,none⟩->o' k=none:=fun k h1 h2=>by show (if k=b' then _ else if _ then _ else _)=_;rw [if_neg h1,if_pos h2]
  let g2:Heap:=fun k=>match o' k with|some _=>none|none=>h' k
  have gs:∀ k u,o' k=some u->g2 k=none:=fun k u e1=>by show (match o' k with|some _=>none|none=>h' k)=_;rw [e1]
  have gn:∀ k,o' k=none->g2 k=h' k:=fun k e1=>by show (match o' k with|some _=>none|none=>h' k)=_;rw [e1]
  have hput:∀ k u,k≠b'->g' k=some u->h' k=some u:=fun k u h1 e1=>by rw [hh',Heap.put_other _ _ h1];exact e1
  have hown:∀ k u,o k=some u->A≠some ⟨k,0,none⟩->k≠b':=by
   rintro k u e1 h2 rfl
   have:=hgk k u (s.own k u e1) h2
   rw [hb'] at this;cases this
  refine x _ c' h' g2 o' (fun k u e1=>?_) ⟨fun k u e1=>?_,fun k e1=>(gn k e1).symm,gs⟩ ⟨hp.2.1,.inr ⟨b',arr,rfl,ob,ha,ht⟩⟩ (fun k u e1 h2=>?_)
  ·have hk0:o k=none:=by
    cases ho:o k with
    | none=>rfl
    | some y=>rw [s.dis k y ho] at e1;cases e1
   have hA:=hnA k u e1
   have e3:=hgk k u (s.le k u e1) hA
   have hkb':k≠b':=by rintro rfl;rw [hb'] at e3;cases e3
   rw [gn k (by rw [ok k hkb' hA];exact hk0)]
   exact hput k u hkb' e3
  ·by_cases hkb:k=b'
   ·subst hkb
    rw [ob] at e1;cases e1
    rw [hh',Heap.put_same]
   ·by_cases hA:A=some ⟨k,0,none⟩
    ·rw [ono k hkb hA] at e1;cases e1
    ·rw [ok k hkb hA] at e1
     exact hput k u hkb (hgk k u (s.own k u e1) hA)
  ·have hkb:=hown k u e1 h2
   refine ⟨by rw [ok k hkb h2];exact e1,fun h3=>hkb ?_⟩
   simp only [Option.some.injEq,Addr.mk.injEq,and_true] at h3
   exact h3.symm
end
def flatT(M:Nat->Nat->Rat)(w:Nat):Nat->List UInt8:=fun k=>txtQ (M (k/w) (k%w))
section
variable {h:Heap} {K:Value->Heap->Prop} {A:Option Addr} {n cap m w:Nat} {M:Nat->Nat->Rat}
theorem fpack_spec(rs:RowsV h A n w M)(hn:n<=10000)(hw1:1<=w)(hw:w<=10000)(hn1:1<=n)(hs:∀ i j,i<n->j<w->Sz m (M i j))(hm:m<=400000000)
 (hK:∀ A' c' h',h.le h'->n*w<=c'->RowV SSr h' A' (n*w) (flatT M w)->K (matV n w A' (n*w) c') h'):FCall Tryz.prog f_FPack #[.slice A n cap] h K:=by
 refine FPack_ok _ _ _ ?_
 unfold FPack
 refine Br.beq (fun e=>by omega) (fun _=>?_)
 obtain ⟨a,sv,rfl,e1,e2,hc,_⟩:=rs.at (i:=0) (by omega)
 have hnw:n*w<=10000*10000:=Nat.mul_le_mul hn hw
 refine ⟨a,rfl,by omega,by omega,_,_,_,hc,fun L hp=>∃ (k:Nat) (g o:Heap) (xs:List (List UInt8)) (A':Option Addr) (c':Nat),k<=n/\L=[I (k:Int),I (n:Int),I (w:Int),.slice A' (k*w) c']/\h.le g/\Sep hp g o/\OwnSl o ty_tStrings_e A' c' xs/\xs.length=k*w/\Row SSr g xs (k*w) (flatT M w),fun L _=>n-(iAt L 0).toNat,⟨0,h,noHeap,[],none,0,by omega,by rw [e1,Nat.zero_mul];rfl,Heap.le_refl _,Sep.refl h,OwnSl.nil,by simp,by rw [Nat.zero_mul];exact Row.nil⟩,?_⟩
 rintro z m0 m1 mA mn mc hp ⟨k,g,o,xs,A',c',hk,eL,lg,s,ow,hxl,rr⟩
 simp only [List.cons.injEq,Value.int.injEq,Value.slice.injEq,true_and,and_true] at eL
 obtain ⟨rfl,rfl,rfl,rfl,rfl,rfl⟩:=eL
 refine Br.dec (fun hlt=>?_) (fun hge=>?_)
 ·have hkn:k<n:=by omega
  obtain ⟨a1,s1,ea,f1,f2,hc1,row⟩:=rs.at hkn
  have lhp:=Heap.le_trans lg s.le
  have hk1:(k+1)*w=k*w+w:=by rw [Nat.add_mul,Nat.one_mul]
  have hkw:(k+1)*w<=n*w:=Nat.mul_le_mul_right _ hkn
  refine ⟨a1,ea,by omega,by omega,_,_,_,Heap.cell?_le lhp hc1,?_⟩
  rw [f1]
  refine s.call (texts_spec (row.mono monNQ lg) (by omega) (fun j hj=>hs k j hkn hj) (by omega) ?_)
  intro b2 g2 own h2 s2
  have lg2:=own.le
  obtain ⟨ys,sy,hyl,qy⟩:=own.vis monSS
  refine ⟨_,_,_,rfl,s.le_le s2 lg2,?_⟩
  refine OwnSl.app (ty:=ty_tStrings) tStrings s2 ow (by omega) hyl.symm (by rintro rfl;simp at hyl;omega) (sy.mono s2.le) (by omega) (by omega) ?_
  intro A3 c3 h3 g3 o3 l3 s3 ow3 _
  rw [hxl,<- hk1,show wi64 ((k:Int)+1)=((k+1:Nat):Int) by rw [wi64_id]<;>omega]
  refine ⟨_,_,_,rfl,⟨k+1,g3,o3,_,A3,c3,by omega,rfl,Heap.le_trans lg (Heap.le_trans lg2 l3),s3,ow3,by rw [List.length_append,hxl,hyl,hk1],fun i hi=>?_⟩,by simp only [iAt0];omega⟩
  by_cases e:i<k*w
  ·obtain ⟨u,e1,hu⟩:=rr i e
   exact ⟨u,by rw [List.getElem?_append_left (by omega)];exact e1,hu⟩
  ·obtain ⟨j0,rfl⟩:∃ j0,i=k*w+j0:=⟨i-k*w,by omega⟩
   have hj0:j0<w:=by omega
   obtain ⟨u,e1,hu⟩:=qy j0 hj0
   refine ⟨u,by rw [List.getElem?_append_right (by omega),hxl,Nat.add_sub_cancel_left];exact e1,?_⟩
   have hu':u=txtQ (M k j0):=hu
   have hd:(k*w+j0)/w=k:=by rw [Nat.mul_comm,Nat.mul_add_div (by omega),Nat.div_eq_of_lt hj0,Nat.add_zero]
   have hm':(k*w+j0)%w=j0:=by rw [Nat.mul_comm,Nat.mul_add_mod,Nat.mod_eq_of_lt hj0]
   show u=flatT M w (k*w+j0)
   unfold flatT
   rw [hd,hm'];exact hu'
 ·have:k=n:=by omega
  subst this
  have hcap:=ow.1
  exact hK mA mc hp (Heap.le_trans lg s.le) (by omega) ⟨xs,ow.slF s.ole,hxl,rr.mono monSS s.le⟩
end
end Go.Proofs.YthilnfgnpdeofaaGreatDoor
/-
 The reference's Echelon.
-/
namespace Go.Proofs.YthilnfgnpdeofaaGreatDoor
open Go
set_option maxRecDepth 20000
abbrev ecE(M:Nat->Nat->Rat)(n c:Nat):ES:=runE n ⟨M,[],1⟩ c
theorem runE_full{n:Nat}{s:ES}{c:Nat}(h:n<=(runE n s c).cs.length):∀ d,runE n s (c+d)=runE n s c:=by
 intro d
 induction d with
 | zero=>rfl
 | succ d ih=>
  show stepE n (c+d) (runE n s (c+d))=_
  rw [ih]
  unfold stepE
  rw [if_neg (by omega)]
theorem ecE_len(M:Nat->Nat->Rat)(n:Nat):∀ c,(ecE M n c).cs.length<=c/\(ecE M n c).cs.length<=n:=by
 intro c
 induction c with
 | zero=>exact ⟨Nat.le_refl _,Nat.zero_le _⟩
 | succ c ih=>
  show (stepE n c (ecE M n c)).cs.length<=c+1/\(stepE n c (ecE M n c)).cs.length<=n
  unfold stepE
  split
  ·split
   ·show ((ecE M n c).cs++[c]).length<=c+1/\((ecE M n c).cs++[c]).length<=n
    rw [List.length_append]
    exact ⟨Nat.succ_le_succ ih.1,by simp only [List.length_cons,List.length_nil];omega⟩
   ·show (ecE M n c).cs.length<=c+1/\_
    exact ⟨Nat.le_succ_of_le ih.1,ih.2⟩
  ·exact ⟨Nat.le_succ_of_le ih.1,ih.2⟩
def ecDet(M:Nat->Nat->Rat)(n c:Nat):Rat:=if (ecE M n c).cs.length<c then 0 else (ecE M n c).det
abbrev qc(w:QV):List Value:=[.bool w.s,.slice w.A w.n w.c,.bool w.s2,.slice w.A2 w.n2 w.c2]
theorem qc_eq{w:QV}{a b:Bool}{A B:Option Addr}{n c n' c':Nat}{l l':List Value}(h:(.bool a:Value) :: .slice A n c :: .bool b :: .slice B n' c'::l= .bool w.s :: .slice w.A w.n w.c :: .bool w.s2 :: .slice w.A2 w.n2 w.c2::l'):(⟨a,A,n,c,b,B,n',c'⟩:QV)=w/\l=l':=by
 simp only [List.cons.injEq,Value.bool.injEq,Value.slice.injEq] at h
 obtain ⟨rfl,⟨rfl,rfl,rfl⟩,rfl,⟨rfl,rfl,rfl⟩,h⟩:=h
 exact ⟨rfl,h⟩
def ApartM(bo:Nat)(rb:Nat->Nat)(n:Nat)(A:Option Addr):Prop:=A≠some ⟨bo,0,none⟩/\∀ i,i<n->A≠some ⟨rb i,0,none⟩
section
variable {g o h11 h14 h15 hp2:Heap} {bo n w r c i B:Nat} {rb:Nat->Nat} {R:Nat->Nat->Rat} {x:QV} {q:Rat} {Invv Invv3:List Value->Heap->Prop} {muv muv3:List Value->Heap->Nat}
theorem ecL28(t:Mt h15 g o bo rb n w R)(hi:i<n)(hr:r<n)(hir:i≠r)(hcw:c<=w)(hn:n<=10000)(hw:w<=10000)(ix:NQ g x q)(s1:∀ b,b<w->Sz B (R i b))(s2:∀ b,b<w->Sz (B+B) (R r b))(s3:Sz B q)(hB:B*7<=100000000)
 (fin:∀ h' g' o',g.le g'->Mt h' g' o' bo rb n w (fun a b=>if a=i/\c<=b then R i b-q*R r b else R a b)->(∀ b,(∀ i,i<n->b≠rb i)->o' b=o b)->Invv3 [I (wi64 ((i:Int)+1))] h'/\muv3 [I (wi64 ((i:Int)+1))] h'<muv3 [I (i:Int)] h14):
 FEchelonL28 Tryz.prog (some ⟨bo,0,none⟩) n r (c:Int) Invv3 muv3 (i:Int) x.s x.A x.n x.c x.s2 x.A2 x.n2 x.c2 h15 h14:=by
 unfold FEchelonL28
 refine ⟨fun L hq=>∃ (k:Nat) (g' o':Heap),c<=k/\k<=w/\L=[I (k:Int)]/\g.le g'/\Mt hq g' o' bo rb n w (fun a b=>if a=i/\c<=b/\b<k then R i b-q*R r b else R a b)/\(∀ b,(∀ i,i<n->b≠rb i)->o' b=o b),fun L _=>w-(iAt L 0).toNat,⟨c,g,o,Nat.le_refl _,hcw,rfl,Heap.le_refl _,t.congr (fun a b _ _=>by rw [if_neg (by omega)]),fun _ _=>rfl⟩,?_⟩
 rintro z h16 ⟨k,g6,o6,hck,hkj,eL6,l6,t6,ko6⟩
 obtain rfl:z=(k:Int):=by simpa using eL6
 obtain ⟨c6,hc6,kh6⟩:=t6.head hi
 have hd6:=t6.sep.cell kh6
 refine ⟨_,rfl,by omega,by omega,_,_,_,hd6,Br.dec (fun hlt=>?_) (fun hge=>?_)⟩
 ·have hkj':k<w:=by omega
  obtain ⟨c7,hc7,kh7⟩:=t6.head hr
  obtain ⟨y,iy,y0,y1,y2,y3⟩:=t6.elem hi hkj'
  obtain ⟨v,iv,v0,v1,v2,v3⟩:=t6.elem hr hkj'
  rw [if_neg (by omega)] at iy
  rw [if_neg (fun x=>hir x.1.symm)] at iv
  refine ⟨_,rfl,by omega,by omega,_,_,_,hd6,_,rfl,by omega,by omega,_,_,_,hd6,_,rfl,by omega,by omega,_,_,_,_,_,_,_,_,t6.sep.cell y0,t6.sep.cell y1,t6.sep.cell y2,t6.sep.cell y3,_,rfl,by omega,by omega,_,_,_,t6.sep.cell kh7,_,rfl,by omega,by omega,_,_,_,_,_,_,_,_,t6.sep.cell v0,t6.sep.cell v1,t6.sep.cell v2,t6.sep.cell v3,?_⟩
  refine t6.sep.call (rmul_spec (ix.mono l6) iv (s3.mono (show B<=B+B by omega)) (s2 k hkj') (by omega) ?_)
  intro w7 g7 l7 i7 h17 s17
  have t7:=t6.next s17 l7
  refine ⟨_,_,_,_,_,_,_,_,rfl,t6.sep.le_le s17 l7,?_⟩
  refine s17.call (rsub_spec (iy.mono l7) i7 ((s1 k hkj').mono (show B<=B+(B+B) by omega)) (s3.mul (s2 k hkj')) (by omega) ?_)
  intro w8 g8 l8 i8 h18 s18
  have t8:=t7.next s18 l8
  refine ⟨_,_,_,_,_,_,_,_,rfl,s17.le_le s18 l8,_,rfl,by omega,by omega,?_⟩
  refine t8.store hi hkj' (x:=w8) i8 ?_
  intro h19 o19 t19 ko19
  rw [show wi64 ((k:Int)+1)=((k+1:Nat):Int) by rw [wi64_id]<;>omega]
  refine ⟨⟨k+1,g8,o19,by omega,by omega,rfl,Heap.le_trans l6 (Heap.le_trans l7 l8),t19.congr (fun a b _ _=>?_),fun b hb=>by rw [ko19 b (hb _ hi),ko6 b hb]⟩,by simp only [iAt0];omega⟩
  show (if a=i/\b=k then R i k-q*R r k else if a=i/\c<=b/\b<k then R i b-q*R r b else R a b)=if a=i/\c<=b/\b<k+1 then R i b-q*R r b else R a b
  by_cases e1:a=i/\b=k
  ·obtain ⟨rfl,rfl⟩:=e1
   rw [if_pos ⟨rfl,rfl⟩,if_pos ⟨rfl,hck,by omega⟩]
  ·rw [if_neg e1]
   by_cases e2:a=i/\c<=b/\b<k
   ·rw [if_pos e2,if_pos ⟨e2.1,e2.2.1,by omega⟩]
   ·rw [if_neg e2,if_neg (by omega)]
 ·have hkj':k=w:=by omega
  subst hkj'
  refine fin h16 g6 o6 l6 (t6.congr (fun a b _ hb=>?_)) ko6
  by_cases e1:a=i/\c<=b
  ·rw [if_pos e1,if_pos ⟨e1.1,e1.2,hb⟩]
  ·rw [if_neg e1,if_neg (fun x=>e1 ⟨x.1,x.2.1⟩)]
theorem ecL23{pA:Option Addr}{pc:Nat}{d0 d2 e0 e2:Bool}{d1A d3A e1A e3A:Option Addr}{d1n d1c d3n d3c e1n e1c e3n e3c:Nat}(t:Mt h11 g o bo rb n w (fun a b=>if a=r then R r b/R r c else R a b))(hr:r<n)(hcw:c<w)(hn:n<=10000)(hw:w<=10000)(hB1:1<=B)(hR:∀ a b,a<n->b<w->Sz B (R a b))(hB:B*7<=100000000)
 (fin:∀ h' g' o',g.le g'->Mt h' g' o' bo rb n w (elimE R r c)->(∀ b,(∀ i,i<n->b≠rb i)->o' b=o b)->wpH Tryz.prog (Instr.buildSlice ty_tInts 1 #[(0,I (c:Int))]) (fun v hp20=>∃ (t167A:Option Addr) (t167n:Nat) (t167c:Nat),v= .slice t167A t167n t167c/\wpH Tryz.prog (Builtin.append_ #[ty_tInts,ty_tInts] ty_tInts #[.slice pA r pc,.slice t167A t167n t167c]) (fun v1 hp21=>∃ (t168A:Option Addr) (t168n:Nat) (t168c:Nat),v1= .slice t168A t168n t168c/\Invv [.slice t168A t168n t168c,I (wi64 ((c:Int)+(1:Int))),.bool e0,.slice e1A e1n e1c,.bool e2,.slice e3A e3n e3c] hp21/\muv [.slice t168A t168n t168c,I (wi64 ((c:Int)+(1:Int))),.bool e0,.slice e1A e1n e1c,.bool e2,.slice e3A e3n e3c] hp21<muv [.slice pA r pc,I (c:Int),.bool d0,.slice d1A d1n d1c,.bool d2,.slice d3A d3n d3c] hp2) hp20) h'):
 FEchelonL23 Tryz.prog (some ⟨bo,0,none⟩) n Invv muv pA r pc (c:Int) d0 d1A d1n d1c d2 d3A d3n d3c e0 e1A e1n e1c e2 e3A e3n e3c hp2 h11:=by
 unfold FEchelonL23
 refine ⟨fun L hq=>∃ (i:Nat) (g' o':Heap),i<=n/\L=[I (i:Int)]/\g.le g'/\Mt hq g' o' bo rb n w (fun a b=>if a=r then R r b/R r c else if a<i then elimE R r c a b else R a b)/\(∀ b,(∀ i,i<n->b≠rb i)->o' b=o b),fun L _=>n-(iAt L 0).toNat,⟨0,g,o,by omega,rfl,Heap.le_refl _,t.congr (fun a b _ hb=>?_),fun _ _=>rfl⟩,?_⟩
 ·by_cases ea:a=r
  ·rw [if_pos ea,if_pos ea]
  ·rw [if_neg ea,if_neg ea,if_neg (by omega)]
 rintro z h14 ⟨i,g5,o5,hi,eL5,l5,t5,ko5⟩
 obtain rfl:z=(i:Int):=by simpa using eL5
 have ewi:wi64 ((i:Int)+1)=((i+1:Nat):Int):=by rw [wi64_id]<;>omega
 refine Br.dec (fun hilt=>?_) (fun hige=>?_)
 ·have hin:i<n:=by omega
  obtain ⟨c5,hc5,kh5⟩:=t5.head hin
  obtain ⟨x,ix,x0,x1,x2,x3⟩:=t5.elem hin hcw
  refine ⟨_,rfl,by omega,by omega,_,_,_,t5.sep.cell kh5,_,rfl,by omega,by omega,_,_,_,_,_,_,_,_,t5.sep.cell x0,t5.sep.cell x1,t5.sep.cell x2,t5.sep.cell x3,?_⟩
  have same:∀ (hq:i=r\/R i c=0),(∃ (i':Nat) (g' o':Heap),i'<=n/\[I (wi64 ((i:Int)+1))]=[I (i':Int)]/\g.le g'/\Mt h14 g' o' bo rb n w (fun a b=>if a=r then R r b/R r c else if a<i' then elimE R r c a b else R a b)/\(∀ b,(∀ i,i<n->b≠rb i)->o' b=o b))/\n-(iAt [I (wi64 ((i:Int)+1))] 0).toNat<n-(iAt [I (i:Int)] 0).toNat:=by
   intro hq
   rw [ewi]
   refine ⟨⟨i+1,g5,o5,by omega,rfl,l5,t5.congr (fun a b _ _=>?_),ko5⟩,by simp only [iAt0];omega⟩
   by_cases ea:a=r
   ·rw [if_pos ea,if_pos ea]
   ·rw [if_neg ea,if_neg ea]
    by_cases h1:a<i
    ·rw [if_pos h1,if_pos (by omega)]
    ·rw [if_neg h1]
     by_cases h2:a<i+1
     ·rw [if_pos h2]
      have:a=i:=by omega
      subst this
      rcases hq with hq|hq
      ·exact absurd hq ea
      ·unfold elimE
       rw [if_neg ea,if_pos (.inl hq)]
     ·rw [if_neg h2]
  refine Br.beq (fun he=>same (.inl (by omega))) (fun he=>?_)
  have hir:i≠r:=by omega
  rw [if_neg hir,if_neg (Nat.lt_irrefl i)] at ix
  refine rsign_spec (ix.mono t5.sep.le) ⟨_,rfl,Br.beq (fun e=>?_) (fun e=>?_)⟩
  ·exact same (.inr (by rw [Int.sign_eq_zero_iff_zero] at e;exact Rat.num_eq_zero.1 e))
  have hg0:R i c≠0:=fun h=>e (by rw [h];rfl)
  refine ecL28 (B:=B) t5 hin hr hir (by omega) hn hw ix (fun b hb=>by rw [if_neg hir,if_neg (Nat.lt_irrefl i)];exact hR i b hin hb) (fun b hb=>by rw [if_pos rfl];exact (hR r b hr hb).div (hR r c hr hcw) hB1) (hR i c hin hcw) hB ?_
  intro h16 g6 o6 l6 t6 ko6
  rw [ewi]
  refine ⟨⟨i+1,g6,o6,by omega,rfl,Heap.le_trans l5 l6,t6.congr (fun a b _ hb=>?_),fun b hb=>by rw [ko6 b hb,ko5 b hb]⟩,by simp only [iAt0];omega⟩
  by_cases ea:a=i
  ·subst ea
   rw [if_neg hir,if_pos (show a<a+1 by omega)]
   unfold elimE
   rw [if_neg hir]
   by_cases hcb:c<=b
   ·have hno:¬ (R a c=0\/b<c):=by
     rintro (h|h)
     ·exact hg0 h
     ·omega
    rw [if_pos ⟨rfl,hcb⟩,if_neg hir,if_neg (Nat.lt_irrefl a),if_pos rfl,if_neg hno]
   ·rw [if_neg (fun x=>hcb x.2),if_neg hir,if_neg (Nat.lt_irrefl a),if_pos (.inr (by omega))]
  ·rw [if_neg (fun x=>ea x.1)]
   by_cases er:a=r
   ·rw [if_pos er,if_pos er]
   ·rw [if_neg er,if_neg er]
    by_cases h1:a<i
    ·rw [if_pos h1,if_pos (by omega)]
    ·rw [if_neg h1,if_neg (by omega)]
 ·have hin:i=n:=by omega
  subst hin
  exact fin h14 g5 o5 l5 (t5.congr (fun a b ha _=>by
   by_cases ea:a=r
   ·rw [if_pos ea];unfold elimE;rw [if_pos ea]
   ·rw [if_neg ea,if_pos ha])) ko5
theorem ecL19{h10:Heap}{xf:QV}{pA:Option Addr}{pc:Nat}{d0 d2 e0 e2:Bool}{d1A d3A e1A e3A:Option Addr}{d1n d1c d3n d3c e1n e1c e3n e3c:Nat}(t:Mt h10 g o bo rb n w R)(hr:r<n)(hcw:c<w)(hn:n<=10000)(hw:w<=10000)(ixf:NQ g xf (R r c))(hR:∀ b,b<w->Sz B (R r b))(hB:B*7<=100000000)
 (fin:∀ h' g' o',g.le g'->Mt h' g' o' bo rb n w (fun a b=>if a=r then R r b/R r c else R a b)->(∀ b,(∀ i,i<n->b≠rb i)->o' b=o b)->FEchelonL23 Tryz.prog (some ⟨bo,0,none⟩) n Invv muv pA r pc (c:Int) d0 d1A d1n d1c d2 d3A d3n d3c e0 e1A e1n e1c e2 e3A e3n e3c hp2 h'):
 FEchelonL19 Tryz.prog (some ⟨bo,0,none⟩) n Invv muv pA r pc (c:Int) d0 d1A d1n d1c d2 d3A d3n d3c xf.s xf.A xf.n xf.c xf.s2 xf.A2 xf.n2 xf.c2 e0 e1A e1n e1c e2 e3A e3n e3c h10 hp2:=by
 unfold FEchelonL19
 refine ⟨fun L hq=>∃ (j:Nat) (g' o':Heap),j<=w/\L=[I (j:Int)]/\g.le g'/\Mt hq g' o' bo rb n w (fun a b=>if a=r/\b<j then R r b/R r c else R a b)/\(∀ b,(∀ i,i<n->b≠rb i)->o' b=o b),fun L _=>w-(iAt L 0).toNat,⟨0,g,o,by omega,rfl,Heap.le_refl _,t.congr (fun a b _ _=>by rw [if_neg (by omega)]),fun _ _=>rfl⟩,?_⟩
 rintro z h11 ⟨j,g4,o4,hj,eL4,l4,t4,ko4⟩
 obtain rfl:z=(j:Int):=by simpa using eL4
 obtain ⟨ch4,hch4,kh4⟩:=t4.head hr
 have hd4:=t4.sep.cell kh4
 refine ⟨_,rfl,by omega,by omega,_,_,_,hd4,Br.dec (fun hlt=>?_) (fun hge=>?_)⟩
 ·have hjw:j<w:=by omega
  obtain ⟨x,ix,x0,x1,x2,x3⟩:=t4.elem hr hjw
  rw [if_neg (by omega)] at ix
  refine ⟨_,rfl,by omega,by omega,_,_,_,hd4,_,rfl,by omega,by omega,_,_,_,hd4,_,rfl,by omega,by omega,_,_,_,_,_,_,_,_,t4.sep.cell x0,t4.sep.cell x1,t4.sep.cell x2,t4.sep.cell x3,?_⟩
  refine t4.sep.call (rdiv_spec ix (ixf.mono l4) (hR _ hjw) (hR _ hcw) (by omega) ?_)
  intro w5 g5 l5 i5 h12 s12
  refine ⟨_,_,_,_,_,_,_,_,rfl,t4.sep.le_le s12 l5,_,rfl,by omega,by omega,?_⟩
  have t5:=t4.next s12 l5
  refine t5.store hr hjw (x:=w5) i5 ?_
  intro h13 o13 t13 ko13
  rw [show wi64 ((j:Int)+1)=((j+1:Nat):Int) by rw [wi64_id]<;>omega]
  refine ⟨⟨j+1,g5,o13,by omega,rfl,Heap.le_trans l4 l5,t13.congr (fun a b _ _=>?_),fun b hb=>by rw [ko13 b (hb _ hr),ko4 b hb]⟩,by simp only [iAt0];omega⟩
  show (if a=r/\b=j then R r j/R r c else if a=r/\b<j then R r b/R r c else R a b)=if a=r/\b<j+1 then R r b/R r c else R a b
  by_cases e1:a=r/\b=j
  ·obtain ⟨rfl,rfl⟩:=e1
   rw [if_pos ⟨rfl,rfl⟩,if_pos ⟨rfl,by omega⟩]
  ·rw [if_neg e1]
   by_cases e2:a=r/\b<j
   ·rw [if_pos e2,if_pos ⟨e2.1,by omega⟩]
   ·rw [if_neg e2,if_neg (by omega)]
 ·have hjw:j=w:=by omega
  subst hjw
  refine fin h11 g4 o4 l4 (t4.congr (fun a b _ hb=>?_)) ko4
  by_cases ea:a=r
  ·rw [if_pos ⟨ea,hb⟩,if_pos ea]
  ·rw [if_neg (fun x=>ea x.1),if_neg ea]
end
section
variable {g o h5 h9 hp2:Heap} {bo n w r c B k:Nat} {rb:Nat->Nat} {R:Nat->Nat->Rat} {q:Rat} {Invv:List Value->Heap->Prop} {muv:List Value->Heap->Nat} {pA:Option Addr} {pc:Nat} {wd wd0:QV} {l:List Nat}
theorem ecC16(hl:l.length=r)(t:Mt h9 g o bo rb n w R)(ow:OwnSl o ty_tInts_e pA pc (zs l))(ap:ApartM bo rb n pA)(iq:NQ g wd q)(hr:r<n)(hcw:c<w)(hn:n<=10000)(hw:w<=10000)(hB1:1<=B)(hq:Sz B q)(hR:∀ a b,a<n->b<w->Sz B (R a b))(hB:B*7<=100000000)
 (fin:∀ h' g' o' A' c' wd',g.le g'->Mt h' g' o' bo rb n w (elimE R r c)->OwnSl o' ty_tInts_e A' c' (zs (l++[c]))->ApartM bo rb n A'->NQ g' wd' (q*R r c)->Invv (.slice A' (r+1) c'::I (wi64 ((c:Int)+1))::qc wd') h'/\muv (.slice A' (r+1) c'::I (wi64 ((c:Int)+1))::qc wd') h'<muv (.slice pA r pc::I (c:Int)::qc wd0) hp2):
 FEchelonC16 Tryz.prog (some ⟨bo,0,none⟩) n Invv muv pA r pc (c:Int) wd0.s wd0.A wd0.n wd0.c wd0.s2 wd0.A2 wd0.n2 wd0.c2 wd.s wd.A wd.n wd.c wd.s2 wd.A2 wd.n2 wd.c2 hp2 h9:=by
 unfold FEchelonC16
 obtain ⟨ch,hch,kh⟩:=t.head hr
 obtain ⟨xf,ixf,xf0,xf1,xf2,xf3⟩:=t.elem hr hcw
 refine ⟨_,rfl,by omega,by omega,_,_,_,t.sep.cell kh,_,rfl,by omega,by omega,_,_,_,_,_,_,_,_,t.sep.cell xf0,t.sep.cell xf1,t.sep.cell xf2,t.sep.cell xf3,?_⟩
 refine t.sep.call (rmul_spec iq ixf hq (hR _ _ hr hcw) (by omega) ?_)
 intro wd4 g3 l3 i4 h10 s10
 refine ⟨_,_,_,_,_,_,_,_,rfl,?_⟩
 refine ecL19 (B:=B) (t.next s10 l3) hr hcw hn hw (ixf.mono l3) (fun b hb=>hR _ b hr hb) hB ?_
 intro h11 g4 o4 l4 t4 ko4
 refine ecL23 (B:=B) t4 hr hcw hn hw hB1 hR hB ?_
 intro h14 g5 o5 l5 tF ko5'
 have ko5:∀ b,(∀ i,i<n->b≠rb i)->o5 b=o b:=fun b hb=>by rw [ko5' b hb,ko4 b hb]
 have ow5:OwnSl o5 ty_tInts_e pA pc (zs l):=ow.keep fun b x hA e=>by rw [ko5 b (fun i hi e=>ap.2 i hi (by rw [<- e];exact hA))];exact e
 have hzl0:(zs l).length=r:=by simp [hl]
 refine OwnSl.push' (ty:=ty_tInts) tInts tF.sep ow5 hzl0.symm (y:=((c:Nat):Int)) rfl (by decide) (by rw [hzl0];omega) (by rw [hzl0];omega) ?_
 intro A6 c6 h16 g6 o6 l6 s6 ow6 kp6
 obtain ⟨⟨y0,hy0⟩,hyr⟩:=tF.own
 have t6:=tF.keep s6 l6 (fun k x e hk=>by
  rcases hk with rfl|⟨q,hq,rfl⟩
  ·exact (kp6 _ _ e ap.1).1
  ·exact (kp6 _ _ e (ap.2 q hq)).1)
 rw [hzl0]
 refine fin h16 g6 o6 A6 c6 wd4 (Heap.le_trans l3 (Heap.le_trans l4 (Heap.le_trans l5 l6))) t6 (by simpa [zs] using ow6) ⟨(kp6 _ _ hy0 ap.1).2,fun q hq=>?_⟩ (i4.mono (Heap.le_trans l4 (Heap.le_trans l5 l6)))
 obtain ⟨x,hx⟩:=hyr q hq
 exact (kp6 _ _ hx (ap.2 q hq)).2
theorem ecC11(hl:l.length=r)(t:Mt h5 g o bo rb n w R)(ow:OwnSl o ty_tInts_e pA pc (zs l))(ap:ApartM bo rb n pA)(iq:NQ g wd0 q)(hr:r<n)(hk:k<=n)(hcw:c<w)(hn:n<=10000)(hw:w<=10000)(hB1:1<=B)(hq:Sz B q)(hR:∀ a b,a<n->b<w->Sz B (R a b))(hB:B*7<=100000000)
 (fin0:k=n->Invv (.slice pA r pc::I (wi64 ((c:Int)+1))::qc ⟨false,none,0,0,false,none,0,0⟩) h5/\muv (.slice pA r pc::I (wi64 ((c:Int)+1))::qc ⟨false,none,0,0,false,none,0,0⟩) h5<muv (.slice pA r pc::I (c:Int)::qc wd0) hp2)
 (fin:k<n->∀ h' g' o' rb' A' c' wd',g.le g'->Mt h' g' o' bo rb' n w (elimE (fun i=>R (xch r k i)) r c)->OwnSl o' ty_tInts_e A' c' (zs (l++[c]))->ApartM bo rb' n A'->NQ g' wd' ((if k=r then q else -q)*R k c)->Invv (.slice A' (r+1) c'::I (wi64 ((c:Int)+1))::qc wd') h'/\muv (.slice A' (r+1) c'::I (wi64 ((c:Int)+1))::qc wd') h'<muv (.slice pA r pc::I (c:Int)::qc wd0) hp2):
 FEchelonC11 Tryz.prog (some ⟨bo,0,none⟩) n Invv muv pA r pc (c:Int) wd0.s wd0.A wd0.n wd0.c wd0.s2 wd0.A2 wd0.n2 wd0.c2 (k:Int) hp2 h5:=by
 unfold FEchelonC11
 refine Br.beq (fun e=>fin0 (by omega)) (fun hne=>?_)
 have hkn:k<n:=by omega
 have hxn:∀ i,i<n->xch r k i<n:=fun i hi=>xch_lt hr hkn hi
 have xk:xch r k r=k:=xch_left _ _
 refine ⟨fun L hq=>∃ (g2 o2:Heap) (rb2:Nat->Nat) (wd:QV),L=qc wd/\g.le g2/\Mt hq g2 o2 bo rb2 n w (fun i=>R (xch r k i))/\OwnSl o2 ty_tInts_e pA pc (zs l)/\ApartM bo rb2 n pA/\NQ g2 wd (if k=r then q else -q),?_,?_⟩
 ·refine Br.bne (fun hne2=>?_) (fun heq2=>?_)
  ·have hne':k≠r:=by omega
   obtain ⟨c1,hc1,k1⟩:=t.head hr
   obtain ⟨c2,hc2,k2⟩:=t.head hkn
   refine ⟨_,rfl,by omega,by omega,_,_,_,t.sep.cell k1,_,rfl,by omega,by omega,_,_,_,t.sep.cell k2,_,rfl,by omega,by omega,?_⟩
   refine t.swap hr hkn tQss_one k1 k2 hc1 hc2 (fun h6 hst=>⟨_,rfl,by omega,by omega,hst (fun h7 o7 t7 ko7=>?_)⟩)
   refine t7.sep.call (rneg_spec iq (fun wd3 i3 h8 s8=>⟨_,_,_,_,_,_,_,_,rfl,?_⟩))
   refine ⟨g,o7,_,wd3,rfl,Heap.le_refl _,t7.next s8 (Heap.le_refl _),ow.keep fun b x hA e=>?_,⟨ap.1,fun i hi=>ap.2 _ (hxn i hi)⟩,by rw [if_neg hne'];exact i3⟩
   rw [ko7 b (fun e=>ap.1 (by rw [<- e];exact hA))];exact e
  ·have heq':k=r:=by omega
   refine ⟨g,o,rb,wd0,rfl,Heap.le_refl _,t.congr (fun i j _ _=>?_),ow,ap,by rw [if_pos heq'];exact iq⟩
   rw [heq'];unfold xch;grind
 rintro e0 e1A e1n e1c e2 e3A e3n e3c h9 ⟨g2,o2,rb2,wd3,eL2,lg2,t2,ow2,ap2,iq2⟩
 obtain ⟨rfl,_⟩:=qc_eq eL2
 have hq2:Sz B (if k=r then q else -q):=by
  split
  ·exact hq
  ·exact hq.neg
 refine ecC16 (wd:=⟨e0,e1A,e1n,e1c,e2,e3A,e3n,e3c⟩) hl t2 ow2 ap2 iq2 hr hcw hn hw hB1 hq2 (fun a b ha hb=>hR _ b (hxn a ha) hb) hB ?_
 intro h' g' o' A' c' wd' lg' t' ow' ap' iq'
 rw [xk] at iq'
 exact fin hkn h' g' o' rb2 A' c' wd' (Heap.le_trans lg2 lg') t' ow' ap' iq'
end
section
variable {h:Heap} {K:Value->Heap->Prop} {A:Option Addr} {n cap m w:Nat} {M:Nat->Nat->Rat}
theorem fechelon_spec{cols:Nat}(rs:RowsV h A n w M)(hn1:1<=n)(hn:n<=10000)(hw1:1<=w)(hw:w<=10000)(hc:cols<=w)(hm1:1<=m)(hs:∀ i j,i<n->j<w->Sz m (M i j))(hm:7^cols*m<=100000000)
 (hK:∀ h' g' o' bo rb c' A' cap' wd,h.le g'->Mt h' g' o' bo rb n w (ecE M n cols).R->OwnSl o' ty_tInts_e A' cap' (zs (ecE M n cols).cs)->ApartM bo rb n A'->NQ g' wd (ecDet M n cols)->
  K (.tuple #[.slice (some ⟨bo,0,none⟩) n c',.slice A' (ecE M n cols).cs.length cap',wd.v]) h'):FCall Tryz.prog f_FEchelon #[.slice A n cap,I (cols:Int)] h K:=by
 refine FEchelon_ok _ _ _ _ ?_
 unfold FEchelon
 refine fcopy_spec rs (by omega) hw1 (by omega) hn1 ?_
 intro h1 g1 o1 bo rb0 c0 lg1 t1
 refine ⟨_,_,_,rfl,t1.sep.call (r_spec ⟨by omega,by omega⟩ ?_)⟩
 intro wd g2 l2 id h2 s2
 have one:((1:Int):Rat)=1:=rfl
 rw [one] at id
 refine ⟨_,_,_,_,_,_,_,_,rfl,fun L hp=>∃ (c:Nat) (g o:Heap) (rb:Nat->Nat) (A':Option Addr) (cap':Nat) (wd:QV),c<=cols/\L= .slice A' (ecE M n c).cs.length cap'::I (c:Int)::qc wd/\h.le g/\Mt hp g o bo rb n w (ecE M n c).R/\OwnSl o ty_tInts_e A' cap' (zs (ecE M n c).cs)/\ApartM bo rb n A'/\NQ g wd (ecE M n c).det,fun L _=>cols-(iAt L 1).toNat,
  ⟨0,g2,o1,rb0,none,0,wd,by omega,rfl,Heap.le_trans lg1 l2,t1.next s2 l2,(OwnSl.nil:OwnSl o1 ty_tInts_e none 0 ([]:List Int)),⟨by simp,fun i hi=>by simp⟩,id⟩,?_⟩
 rintro pA pn pc z d0 d1A d1n d1c d2 d3A d3n d3c hp ⟨c,g,o,rb,A',cap',wd2,hcc,eL,lg,t,ow,ap,iq⟩
 simp only [List.cons.injEq,Value.int.injEq,Value.slice.injEq,true_and] at eL
 obtain ⟨⟨rfl,rfl,rfl⟩,rfl,eL⟩:=eL
 obtain ⟨rfl,_⟩:=qc_eq (by simpa only [List.cons.injEq,Value.bool.injEq,Value.slice.injEq,and_true] using eL:(.bool d0:Value) :: .slice d1A d1n d1c :: .bool d2 :: .slice d3A d3n d3c::[]= .bool wd2.s :: .slice wd2.A wd2.n wd2.c :: .bool wd2.s2 :: .slice wd2.A2 wd2.n2 wd2.c2::[])
 have hlen:=ecE_len M n c
 have fin:∀ (he:ecE M n cols=ecE M n c),Br (decide ((((ecE M n c).cs.length:Nat):Int)<(cols:Int))) (K (.tuple #[.slice (some ⟨bo,0,none⟩) n c0,.slice pA (ecE M n c).cs.length pc,.agg #[.bool false,.slice none 0 0,.bool false,.slice none 0 0]]) hp)
  (K (.tuple #[.slice (some ⟨bo,0,none⟩) n c0,.slice pA (ecE M n c).cs.length pc,.agg #[.bool d0,.slice d1A d1n d1c,.bool d2,.slice d3A d3n d3c]]) hp):=by
  intro he
  rw [<- he] at t ow iq ⊢
  refine Br.dec (fun hlt=>?_) (fun hge=>?_)
  ·have e:ecDet M n cols=0:=by unfold ecDet;rw [if_pos (by omega)]
   exact hK hp g o bo rb c0 pA pc ⟨false,none,0,0,false,none,0,0⟩ lg t ow ap (by rw [e];exact NQ.zero)
  ·have e:ecDet M n cols=(ecE M n cols).det:=by unfold ecDet;rw [if_neg (by omega)]
   exact hK hp g o bo rb c0 pA pc ⟨d0,d1A,d1n,d1c,d2,d3A,d3n,d3c⟩ lg t ow ap (by rw [e];exact iq)
 refine Br.dec (fun hlt=>?_) (fun hge=>fin (by have:c=cols:=by omega
                                               rw [this]))
 have hccl:c<cols:=by omega
 have hcw:c<w:=by omega
 refine Br.dec (fun hfull=>?_) (fun hfull=>fin (by
  have:=runE_full (n:=n) (s:=⟨M,[],1⟩) (c:=c) (by show n<=(ecE M n c).cs.length;omega) (cols-c)
  rw [show c+(cols-c)=cols by omega] at this
  exact this))
 have hrn:(ecE M n c).cs.length<n:=by omega
 have hsz:=(SzE.run (n:=n) (w:=w) (m:=m) (s:=⟨M,[],1⟩) ⟨fun a b ha hb=>by show Sz (7^0*m) (M a b);rw [Nat.pow_zero,Nat.one_mul];exact hs a b ha hb,by show Sz (7^0*m) 1;rw [Nat.pow_zero,Nat.one_mul];exact Sz.int (z:=1) (ZB.one hm1) hm1,Nat.zero_le _⟩ hm1 c (by omega))
 have hszc:SzE n w m (ecE M n c):=hsz
 have hstep:ecE M n (c+1)=stepE n c (ecE M n c):=rfl
 have hp7:7^(ecE M n c).cs.length*m*7<=7^cols*m:=by
  have h1:7^(ecE M n c).cs.length*7<=7^cols:=by rw [<- Nat.pow_succ];exact Nat.pow_le_pow_right (by decide) (by omega)
  calc 7^(ecE M n c).cs.length*m*7=7^(ecE M n c).cs.length*7*m:=by rw [Nat.mul_assoc,Nat.mul_comm m 7,<- Nat.mul_assoc]
   _<=7^cols*m:=Nat.mul_le_mul_right _ h1
 have hB1:=pow7_pos (ecE M n c).cs.length m hm1
 obtain ⟨r1,r2,r3,r4⟩:=rowE_facts n c (ecE M n c) hszc.len
 have ewc:wi64 ((c:Int)+1)=((c+1:Nat):Int):=by rw [wi64_id]<;>omega
 generalize hst:ecE M n c=st at *
 generalize hB:7^st.cs.length*m=B at *
 refine ⟨fun L hq=>L=[I ((rowE n c st:Nat):Int)]/\hq=hp,⟨fun L hq=>∃ k:Nat,st.cs.length<=k/\k<=rowE n c st/\L=[I (k:Int)]/\hq=hp,fun L _=>n-(iAt L 0).toNat,⟨st.cs.length,Nat.le_refl _,r1,rfl,rfl⟩,?_⟩,?_⟩
 ·rintro z hq ⟨k,hk1,hk2,eL,rfl⟩
  obtain rfl:z=(k:Int):=by simpa using eL
  refine Br.dec (fun hlt=>?_) (fun hge=>⟨by have:k=rowE n c st:=by omega
                                            rw [this],rfl⟩)
  have hkn:k<n:=by omega
  obtain ⟨ch,hch,hcell⟩:=t.head hkn
  obtain ⟨x,ix,x0,x1,x2,x3⟩:=t.elem hkn hcw
  refine ⟨_,rfl,by omega,by omega,_,_,_,t.sep.cell hcell,_,rfl,by omega,by omega,_,_,_,_,_,_,_,_,t.sep.cell x0,t.sep.cell x1,t.sep.cell x2,t.sep.cell x3,?_⟩
  refine rsign_spec (ix.mono t.sep.le) ⟨_,rfl,Br.beq (fun e=>?_) (fun e=>?_)⟩
  ·have e0:st.R k c=0:=by rw [Int.sign_eq_zero_iff_zero] at e;exact Rat.num_eq_zero.1 e
   have hlt2:k<rowE n c st:=by
    by_cases hx:k<rowE n c st
    ·exact hx
    ·exfalso
     have hk3:k=rowE n c st:=by omega
     exact r3 (by omega) (by rw [<- hk3];exact e0)
   rw [show wi64 ((k:Int)+1)=((k+1:Nat):Int) by rw [wi64_id]<;>omega]
   exact ⟨⟨k+1,by omega,by omega,rfl,rfl⟩,by simp only [iAt0];omega⟩
  ·have e0:st.R k c≠0:=fun h=>e (by rw [h];rfl)
   have:k=rowE n c st:=by
    by_cases hx:k<rowE n c st
    ·exact absurd (r4 k hk1 hx) e0
    ·omega
   exact ⟨by rw [this],rfl⟩
 rintro k1 hq ⟨eL,rfl⟩
 obtain rfl:k1=((rowE n c st:Nat):Int):=by simpa using eL
 refine ecC11 (B:=B) (wd0:=⟨d0,d1A,d1n,d1c,d2,d3A,d3n,d3c⟩) rfl t ow ap iq hrn r2 hcw hn hw hB1 (by rw [<- hB];exact hszc.det) (fun a b ha hb=>by rw [<- hB];exact hszc.R a b ha hb) (by omega) (fun hno=>?_) (fun hrr=>?_)
 ·have hs':stepE n c st={ st with det:=0 }:=by unfold stepE;rw [if_pos hrn,if_neg (by omega)]
  rw [ewc]
  refine ⟨⟨c+1,g,o,rb,pA,pc,⟨false,none,0,0,false,none,0,0⟩,by omega,?_,lg,?_⟩,?_⟩
  ·rw [hstep,hs']
  ·rw [hstep,hs'];exact ⟨t,ow,ap,NQ.zero⟩
  ·show cols-((c+1:Nat):Int).toNat<cols-((c:Nat):Int).toNat
   omega
 ·intro h' g' o' rb' A6 c6 wd' lg' t' ow' ap' iq'
  have hs':stepE n c st={ R:=elimE (fun i=>st.R (xch st.cs.length (rowE n c st) i)) st.cs.length c,cs:=st.cs++[c],det:=(if rowE n c st=st.cs.length then st.det else-st.det)*st.R (rowE n c st) c }:=by unfold stepE;rw [if_pos hrn,if_pos hrr]
  have elen:(st.cs++[c]).length=st.cs.length+1:=by simp
  rw [ewc]
  refine ⟨⟨c+1,g',o',rb',A6,c6,wd',by omega,?_,Heap.le_trans lg lg',?_⟩,?_⟩
  ·rw [hstep,hs',elen]
  ·rw [hstep,hs'];exact ⟨t',ow',ap',iq'⟩
  ·show cols-((c+1:Nat):Int).toNat<cols-((c:Nat):Int).toNat
   omega
end
end Go.Proofs.YthilnfgnpdeofaaGreatDoor
/-
 The statements' helpers: lists held against each other,small matrices.
-/
namespace Go.Proofs.YthilnfgnpdeofaaGreatDoor
open Go
set_option maxRecDepth 20000
section
variable {h:Heap} {K:Value->Heap->Prop} {A B:Option Addr} {n m a b:Nat} {r c r2 c2:Int} {ls ls2:Nat->List UInt8}
theorem kshort_spec{k:Int}(r:RowV SSr h A n ls)(hn:n<=1000000000)(hK1:(∀ i,i<n->((ls i).length:Int)<=k)->K (.bool true) h)(hK0:¬ (∀ i,i<n->((ls i).length:Int)<=k)->K (.bool false) h):FCall Tryz.prog f_KShort #[I k,.slice A n a] h K:=by
 refine KShort_ok _ _ _ _ ?_
 unfold KShort
 refine ⟨fun L hp=>∃ i:Nat,i<=n/\L=[I (i:Int)]/\hp=h/\∀ j,j<i->((ls j).length:Int)<=k,fun L _=>n-(iAt L 0).toNat,⟨0,by omega,rfl,rfl,fun j hj=>by omega⟩,?_⟩
 rintro z hp ⟨i,hi,eL,rfl,hh⟩
 obtain rfl:z=(i:Int):=by simpa using eL
 refine Br.dec (fun hlt=>?_) (fun hge=>?_)
 ·have hin:i<n:=by omega
  obtain ⟨x,rfl,hc⟩:=r.sat hin
  refine ⟨x,rfl,by omega,by omega,_,hc,?_⟩
  rw [bs_size]
  refine Br.dec (fun e=>hK0 fun hx=>by have:=hx i hin;omega) (fun e=>?_)
  rw [show wi64 ((i:Int)+1)=((i+1:Nat):Int) by rw [wi64_id]<;>omega]
  refine ⟨⟨i+1,by omega,rfl,rfl,fun j hj=>?_⟩,by simp only [iAt0];omega⟩
  by_cases e2:j=i
  ·subst e2;omega
  ·exact hh j (by omega)
 ·have:i=n:=by omega
  subst this
  exact hK1 hh
theorem kstrings_spec(x:RowV SSr h A n ls)(y:RowV SSr h B m ls2)(hn:n<=1000000000)(hK1:n=m->(∀ i,i<n->ls i=ls2 i)->K (.bool true) h)(hK0:¬ (n=m/\∀ i,i<n->ls i=ls2 i)->K (.bool false) h):FCall Tryz.prog f_KStrings #[.slice A n a,.slice B m b] h K:=by
 refine KStrings_ok _ _ _ _ _ _ ?_
 unfold KStrings
 refine Br.bne (fun e=>hK0 fun hx=>e (by omega)) (fun e=>?_)
 have e:n=m:=by omega
 subst e
 refine ⟨fun L hp=>∃ i:Nat,i<=n/\L=[I (i:Int)]/\hp=h/\∀ j,j<i->ls j=ls2 j,fun L _=>n-(iAt L 0).toNat,⟨0,by omega,rfl,rfl,fun j hj=>by omega⟩,?_⟩
 rintro z hp ⟨i,hi,eL,rfl,hh⟩
 obtain rfl:z=(i:Int):=by simpa using eL
 refine Br.dec (fun hlt=>?_) (fun hge=>?_)
 ·have hin:i<n:=by omega
  obtain ⟨u,rfl,hc⟩:=x.sat hin
  obtain ⟨v,rfl,hd⟩:=y.sat hin
  refine ⟨u,rfl,by omega,by omega,_,hc,v,rfl,by omega,by omega,_,hd,?_⟩
  rw [bs_beq]
  refine Br.not (Br.dec (fun e=>?_) (fun e=>hK0 fun hx=>e (hx.2 i hin)))
  rw [show wi64 ((i:Int)+1)=((i+1:Nat):Int) by rw [wi64_id]<;>omega]
  refine ⟨⟨i+1,by omega,rfl,rfl,fun j hj=>?_⟩,by simp only [iAt0];omega⟩
  by_cases e2:j=i
  ·subst e2;exact e
  ·exact hh j (by omega)
 ·have:i=n:=by omega
  subst this
  exact hK1 rfl hh
theorem SlF.iat{xs:List Int}(s:SlF h A xs){i:Nat}(hi:i<xs.length):∃ x,A=some x/\h.cell? (Addr.add x (i*1))=some (I xs[i]):=by
 obtain ⟨x,e,hc⟩:=SlF.at (by decide) s hi
 have:=hc 0 _ rfl
 rw [add_zero'] at this
 exact ⟨x,e,this⟩
theorem kints_spec{xs ys:List Int}(x:SlF h A xs)(y:SlF h B ys)(hn:n=xs.length)(hm:m=ys.length)(hb:n<=1000000000)(hK1:xs=ys->K (.bool true) h)(hK0:xs≠ys->K (.bool false) h):FCall Tryz.prog f_KInts #[.slice A n a,.slice B m b] h K:=by
 refine KInts_ok _ _ _ _ _ _ ?_
 unfold KInts
 refine Br.bne (fun e=>hK0 fun hx=>e (by rw [hn,hm,hx])) (fun e=>?_)
 have e:n=m:=by omega
 subst e
 refine ⟨fun L hp=>∃ i:Nat,i<=n/\L=[I (i:Int)]/\hp=h/\∀ j,j<i->xs[j]? = ys[j]?,fun L _=>n-(iAt L 0).toNat,⟨0,by omega,rfl,rfl,fun j hj=>by omega⟩,?_⟩
 rintro z hp ⟨i,hi,eL,rfl,hh⟩
 obtain rfl:z=(i:Int):=by simpa using eL
 refine Br.dec (fun hlt=>?_) (fun hge=>?_)
 ·have h1:i<xs.length:=by omega
  have h2:i<ys.length:=by omega
  obtain ⟨u,rfl,hc⟩:=SlF.iat x h1
  obtain ⟨v,rfl,hd⟩:=SlF.iat y h2
  refine ⟨u,rfl,by omega,by omega,_,hc,v,rfl,by omega,by omega,_,hd,?_⟩
  refine Br.bne (fun e=>hK0 fun hx=>e (by simp only [hx])) (fun e=>?_)
  rw [show wi64 ((i:Int)+1)=((i+1:Nat):Int) by rw [wi64_id]<;>omega]
  refine ⟨⟨i+1,by omega,rfl,rfl,fun j hj=>?_⟩,by simp only [iAt0];omega⟩
  by_cases e2:j=i
  ·subst e2;rw [List.getElem?_eq_getElem h1,List.getElem?_eq_getElem h2,e]
  ·exact hh j (by omega)
 ·have:i=n:=by omega
  subst this
  refine hK1 (List.ext_getElem? fun j=>?_)
  by_cases hj:j<i
  ·exact hh j hj
  ·rw [List.getElem?_eq_none (by omega),List.getElem?_eq_none (by omega)]
theorem kmatrices_spec(x:RowV SSr h A n ls)(y:RowV SSr h B m ls2)(hn:n<=1000000000)(hK1:r=r2->c=c2->n=m->(∀ i,i<n->ls i=ls2 i)->K (.bool true) h)(hK0:¬ (r=r2/\c=c2/\n=m/\∀ i,i<n->ls i=ls2 i)->K (.bool false) h):FCall Tryz.prog f_KMatrices #[matV r c A n a,matV r2 c2 B m b] h K:=by
 refine KMatrices_ok _ _ _ _ _ _ _ _ _ _ ?_
 unfold KMatrices
 refine Br.beq (fun e1=>Br.beq (fun e2=>?_) (fun e=>hK0 fun hx=>e hx.2.1)) (fun e=>hK0 fun hx=>e hx.1)
 exact kstrings_spec x y hn (fun h1 h2=>⟨_,rfl,hK1 e1 e2 h1 h2⟩) (fun hx=>⟨_,rfl,hK0 fun hy=>hx hy.2.2⟩)
structure Small (r c:Int) (n:Nat) (ls:Nat->List UInt8) (k d:Int):Prop where
 hr:r<=k
 hc:c<=k
 hn:(n:Int)<=k*k+2
 hl:∀ i,i<n->((ls i).length:Int)<=d
theorem ksmall_spec{k d:Int}(x:RowV SSr h A n ls)(hk:0<=k/\k<=1000)(hK1:Small r c n ls k d->K (.bool true) h)(hK0:¬ Small r c n ls k d->K (.bool false) h):FCall Tryz.prog f_KSmallMatrix #[matV r c A n a,I k,I d] h K:=by
 refine KSmallMatrix_ok _ _ _ _ _ _ _ ?_
 unfold KSmallMatrix
 have hkk:k*k<=1000*1000:=Int.mul_le_mul hk.2 hk.2 hk.1 (by omega)
 have hkk0:0<=k*k:=Int.mul_nonneg hk.1 hk.1
 have e1:wi64 (k*k)=k*k:=wi64_id (by omega) (by omega)
 have e2:wi64 (k*k+2)=k*k+2:=wi64_id (by omega) (by omega)
 rw [e1,e2]
 refine Br.dec (fun h1=>Br.dec (fun h2=>Br.dec (fun h3=>?_) (fun e=>hK0 fun x=>e x.hn)) (fun e=>hK0 fun x=>e x.hc)) (fun e=>hK0 fun x=>e x.hr)
 exact kshort_spec x (by omega) (fun hx=>⟨_,rfl,hK1 ⟨h1,h2,h3,hx⟩⟩) (fun hx=>⟨_,rfl,hK0 fun y=>hx y.hl⟩)
theorem lsmall_spec(x:RowV SSr h A n ls)(hK1:Small r c n ls 6 12->K (.bool true) h)(hK0:¬ Small r c n ls 6 12->K (.bool false) h):FCall Tryz.prog f_LSmall #[matV r c A n a] h K:=by
 refine LSmall_ok _ _ _ _ _ ?_
 unfold LSmall
 exact ksmall_spec x (by omega) (fun hx=>⟨_,rfl,hK1 hx⟩) (fun hx=>⟨_,rfl,hK0 hx⟩)
end
theorem flat_str(ls:List (List UInt8)):(ls.flatMap fun l=>[Value.string (bs l)])=ls.map fun l=>Value.string (bs l):=by
 induction ls with
 | nil=>rfl
 | cons x l ih=>rw [List.flatMap_cons,ih];rfl
theorem row_of_sl{h:Heap}{A:Option Addr}{ls:List (List UInt8)}(s:SlV h A (ls.map fun l=>Value.string (bs l))):RowV SSr h A ls.length (fun i=>ls.getD i []):=by
 refine ⟨ls,?_,rfl,fun i hi=>⟨ls[i],List.getElem?_eq_getElem hi,?_⟩⟩
 ·show SlV h A (ls.flatMap fun l=>[Value.string (bs l)])
  rw [flat_str];exact s
 ·show ls[i]=ls.getD i []
  simp [hi]
theorem rvs_list(l:List Rat):rvs (fun i=>(l.map txtQ).getD i [])=fun i=>l.getD i 0:=by
 funext i
 show rv ((l.map txtQ).getD i [])=_
 by_cases hi:i<l.length
 ·rw [List.getD_eq_getElem?_getD,List.getD_eq_getElem?_getD,List.getElem?_map,List.getElem?_eq_getElem hi]
  exact rv_txt _
 ·rw [List.getD_eq_getElem?_getD,List.getD_eq_getElem?_getD,List.getElem?_map,List.getElem?_eq_none (by omega)]
  exact rv_not (by rintro ⟨q,hq⟩;exact absurd hq.symm (by
   have:=txtQ_head q
   obtain ⟨c,r,e,_⟩:=this
   rw [e];simp))
theorem txt1:txtQ 1=[49]:=by
 have:digs 1=[49]:=by decide +kernel
 simp [txtQ,txtI,this]
theorem txt2:txtQ 2=[50]:=by
 have:digs 2=[50]:=by decide +kernel
 have h1:(2:Rat).den=1:=by decide +kernel
 have h2:(2:Rat).num=2:=by decide +kernel
 simp [txtQ,txtI,this,h1,h2]
theorem txt3:txtQ 3=[51]:=by
 have:digs 3=[51]:=by decide +kernel
 have h1:(3:Rat).den=1:=by decide +kernel
 have h2:(3:Rat).num=3:=by decide +kernel
 simp [txtQ,txtI,this,h1,h2]
theorem txt4:txtQ 4=[52]:=by
 have:digs 4=[52]:=by decide +kernel
 have h1:(4:Rat).den=1:=by decide +kernel
 have h2:(4:Rat).num=4:=by decide +kernel
 simp [txtQ,txtI,this,h1,h2]
theorem txtm2:txtQ (-2)=[45,50]:=by
 have:digs 2=[50]:=by decide +kernel
 have h1:(-2:Rat).den=1:=by decide +kernel
 have h2:(-2:Rat).num= -2:=by decide +kernel
 simp [txtQ,txtI,this,h1,h2]
theorem aw1:(elE (fun i=>([2,4,1,2]:List Rat).getD i 0) 2 2 2).cs=[0]:=by decide +kernel
theorem aw2:∀ k,k<4->redF (fun i=>([2,4,1,2]:List Rat).getD i 0) 2 2 k=([1,2,0,0]:List Rat).getD k 0:=by decide +kernel
theorem aw3:detQ (fun i=>([1,2,3,4]:List Rat).getD i 0) 2= -2:=by decide +kernel
theorem awake_spec{h:Heap}{K:Value->Heap->Prop}(gl:Gl h)(hK:∀ h',h.le h'->K (.bool true) h'):FCall Tryz.prog f_LAwake #[] h K:=by
 refine LAwake_ok ?_
 unfold LAwake
 have sz:∀ (ls:List (List UInt8)),(∀ x∈ls,x.length<=1)->∀ i,i<ls.length->(ls.getD i []).length<=1:=by
  intro ls h i hi
  rw [List.getD_eq_getElem?_getD,List.getElem?_eq_getElem hi]
  exact h _ (List.getElem_mem hi)
 refine litS_ok tStrings (ls:=[2,4,1,2].map txtQ) rfl (by simp) (by rw [show ([2,4,1,2]:List Rat).map txtQ=[[50],[52],[49],[50]] by simp [txt1,txt2,txt4]];rfl) ?_
 intro b1 h1 l1 s1
 have r1:=row_of_sl s1
 have z1:=sz (([2,4,1,2]:List Rat).map txtQ) (by simp [txt1,txt2,txt4])
 refine ⟨_,_,_,rfl,?_⟩
 have hb:∀ rows cols,MOk 2 2 4 (fun i=>(([2,4,1,2]:List Rat).map txtQ).getD i []) rows cols->2*(3^cols*bnd cols 4)+1<=40000000:=by
  intro rows cols mk
  have:=mk.ec
  have:cols=2:=by omega
  subst this
  decide
 refine mreduce_spec (m:=4) (gl.mono l1) r1 (by simp) (fun i hi=>Nat.le_trans (z1 i hi) (by omega)) (fun i hi=>rv_sz (k:=1) (z1 i hi) (by omega)) hb ?_ ?_
 ·intro rows cols mk b2 h2 A' cap' own
  have e1:=mk.er;have e2:=mk.ec
  have:rows=2:=by omega
  subst this
  have:cols=2:=by omega
  subst this
  have lo:=own.le
  have so:=own.strs
  have io:=own.ints
  rw [rvs_list] at so io
  rw [aw1] at io
  refine ⟨_,_,_,_,_,_,_,_,_,rfl,?_⟩
  rw [rvs_list,aw1]
  refine litS_ok tStrings (ls:=[1,2,3,4].map txtQ) rfl (by simp) (by rw [show ([1,2,3,4]:List Rat).map txtQ=[[49],[50],[51],[52]] by simp [txt1,txt2,txt3,txt4]];rfl) ?_
  intro b3 h3 l3 s3
  have r3:=row_of_sl s3
  have z3:=sz (([1,2,3,4]:List Rat).map txtQ) (by simp [txt1,txt2,txt3,txt4])
  refine ⟨_,_,_,rfl,?_⟩
  have l13:=Heap.le_trans l1 (Heap.le_trans lo l3)
  have num3:Mx 2 2 4 (fun i=>(([1,2,3,4]:List Rat).map txtQ).getD i []):=by
   refine Mx.iff.2 ⟨⟨by omega,by omega,by omega,by omega,by omega⟩,fun i hi=>?_⟩
   have hi':i<([1,2,3,4]:List Rat).length:=hi
   exact ⟨([1,2,3,4]:List Rat)[i],by rw [List.getD_eq_getElem?_getD,List.getElem?_map,List.getElem?_eq_getElem hi'];rfl⟩
  refine mdet_spec (m:=4) (gl.mono l13) r3 (by simp) (fun i hi=>Nat.le_trans (z3 i hi) (by omega)) (fun i hi=>rv_sz (k:=1) (z3 i hi) (by omega)) ?_ ?_ (fun _ e=>absurd rfl e) (fun hno=>absurd num3 hno)
  ·intro rows cols mk
   have:=mk.ec
   have:cols=2:=by omega
   subst this
   decide
  ·intro q mk h4 l4
   have:q=2:=by have:=mk.er;omega
   subst this
   rw [rvs_list,aw3]
   refine ⟨_,_,rfl,Br.beq (fun _=>?_) (fun e=>absurd rfl e)⟩
   refine litS_ok tStrings (ls:=[1,2,0,0].map txtQ) rfl (by simp) (by rw [show ([1,2,0,0]:List Rat).map txtQ=[[49],[50],[48],[48]] by simp [txt1,txt2,txtQ_zero]];rfl) ?_
   intro b5 h5 l5 s5
   have r5:=row_of_sl s5
   refine ⟨_,_,_,rfl,?_⟩
   have l25:=Heap.le_trans l3 (Heap.le_trans l4 l5)
   refine kstrings_spec (so.mono monSS l25) r5 (by simp) (fun _ _=>⟨_,rfl,?_⟩) (fun hno=>absurd ⟨rfl,fun i hi=>?_⟩ hno)
   ·refine lit1_ok tInts rfl ?_
    intro b6 h6
    refine ⟨_,_,_,rfl,?_⟩
    have l6:=Heap.le_put (.cells #[I (0:Int)] ty_tInts_e) h6
    refine kints_spec (io.1.mono (Heap.le_trans l25 l6)) (blkF_sl ty_tInts_e h5 b6 ([0]:List Int)) rfl rfl (by simp) (fun _=>⟨_,rfl,?_⟩) (fun hno=>absurd rfl hno)
    have:(ByteArray.toList (bs (txtQ (-2)))==ByteArray.toList ({ data:=#[45,50] }:ByteArray))=true:=by
     rw [txtm2]
     exact (bs_beq _ _).trans (by decide)
    rw [this]
    have:=hK _ (Heap.le_trans l13 (Heap.le_trans l4 (Heap.le_trans l5 l6)))
    exact this
   ·show txtQ (redF (fun i=>([2,4,1,2]:List Rat).getD i 0) 2 2 i)=(([1,2,0,0]:List Rat).map txtQ).getD i []
    have hi':i<([1,2,0,0]:List Rat).length:=hi
    rw [aw2 i hi,List.getD_eq_getElem?_getD,List.getD_eq_getElem?_getD,List.getElem?_map,List.getElem?_eq_getElem hi']
    rfl
 ·intro hno
  exfalso
  refine hno (Mx.iff.2 ⟨⟨by omega,by omega,by omega,by omega,by simp⟩,fun i hi=>?_⟩)
  have hi':i<([2,4,1,2]:List Rat).length:=hi
  exact ⟨([2,4,1,2]:List Rat)[i],by rw [List.getD_eq_getElem?_getD,List.getElem?_map,List.getElem?_eq_getElem hi'];rfl⟩
end Go.Proofs.YthilnfgnpdeofaaGreatDoor
/-
 The null space's vectors;Reduce,Det of the reference;Contains.
-/
namespace Go.Proofs.YthilnfgnpdeofaaGreatDoor
open Go
set_option maxRecDepth 20000
def nullV(R:Nat->Nat->Rat)(cs:List Nat)(c:Nat):Nat->Nat->Rat
 | 0=>fun j=>if j=c then 1 else 0
 | k+1=>fun j=>if j=cs.getD k 0 then-R k c else nullV R cs c k j
def frees(cs:List Nat):Nat->List Nat
 | 0=>[]
 | c+1=>if c∈cs then frees cs c else frees cs c++[c]
def pivs(cs:List Nat):Nat->Nat
 | 0=>0
 | c+1=>if c∈cs then pivs cs c+1 else pivs cs c
theorem frees_pivs(cs:List Nat):∀ c,(frees cs c).length+pivs cs c=c:=by
 intro c
 induction c with
 | zero=>rfl
 | succ c ih=>
  show (if c∈cs then frees cs c else frees cs c++[c]).length+(if c∈cs then pivs cs c+1 else pivs cs c)=c+1
  split
  ·omega
  ·rw [List.length_append];simp only [List.length_cons,List.length_nil];omega
theorem frees_mem(cs:List Nat):∀ c,∀ x∈frees cs c,x<c/\x∉cs:=by
 intro c
 induction c with
 | zero=>intro x hx;exact absurd hx (by simp [frees])
 | succ c ih=>
  intro x hx
  unfold frees at hx
  split at hx
  ·have:=ih x hx;exact ⟨by omega,this.2⟩
  ·rename_i hc
   rcases List.mem_append.1 hx with hx|hx
   ·have:=ih x hx;exact ⟨by omega,this.2⟩
   ·simp only [List.mem_cons,List.not_mem_nil,or_false] at hx
    subst hx;exact ⟨by omega,hc⟩
theorem asc_pivs{cs:List Nat}(h:cs.Pairwise (· < ·)):∀ c,pivs cs c<=cs.length/\(∀ i (hi:i<cs.length),i<pivs cs c->cs[i]<c)/\(∀ i (hi:i<cs.length),pivs cs c<=i->c<=cs[i]):=by
 intro c
 induction c with
 | zero=>exact ⟨Nat.zero_le _,fun i hi h=>absurd h (Nat.not_lt_zero _),fun _ _ _=>Nat.zero_le _⟩
 | succ c ih=>
  obtain ⟨h1,h2,h3⟩:=ih
  have pw:=List.pairwise_iff_getElem.1 h
  unfold pivs
  split
  ·rename_i hc
   obtain ⟨k,hk,e⟩:=List.getElem_of_mem hc
   have:pivs cs c<=k:=Nat.not_lt.1 fun hx=>by have:=h2 k hk hx;omega
   have e2:k=pivs cs c:=Nat.le_antisymm (Nat.not_lt.1 fun hx=>by
    have hp:pivs cs c<cs.length:=by omega
    have:=pw (pivs cs c) k hp hk hx
    have:=h3 (pivs cs c) hp (Nat.le_refl _)
    omega) this
   refine ⟨by omega,fun i hi hx=>?_,fun i hi hx=>?_⟩
   ·by_cases e3:i=k
    ·subst e3;omega
    ·have:=h2 i hi (by omega);omega
   ·have:=pw k i hk hi (by omega);omega
  ·rename_i hc
   refine ⟨h1,fun i hi hx=>by have:=h2 i hi hx;omega,fun i hi hx=>?_⟩
   have:=h3 i hi hx
   have:cs[i]≠c:=fun e=>hc (e▸List.getElem_mem hi)
   omega
theorem pivs_all{cs:List Nat}{c:Nat}(h:Asc cs c):pivs cs c=cs.length:=by
 obtain ⟨h1,h2,h3⟩:=asc_pivs h.asc c
 refine Nat.le_antisymm h1 (Nat.not_lt.1 fun hx=>?_)
 have:=h3 _ hx (Nat.le_refl _)
 have:=h.lt _ (List.getElem_mem hx)
 omega
theorem frees_len{cs:List Nat}{c:Nat}(h:Asc cs c):(frees cs c).length=c-cs.length:=by
 have:=frees_pivs cs c
 rw [pivs_all h] at this
 omega
theorem mem_piv{cs:List Nat}(h:cs.Pairwise (· < ·))(c:Nat):c∈cs ↔ ∃ hk:pivs cs c<cs.length,cs[pivs cs c]=c:=by
 obtain ⟨h1,h2,h3⟩:=asc_pivs h c
 constructor
 ·intro hc
  obtain ⟨k,hk,e⟩:=List.getElem_of_mem hc
  have a:pivs cs c<=k:=Nat.not_lt.1 fun hx=>by have:=h2 k hk hx;omega
  have hp:pivs cs c<cs.length:=by omega
  refine ⟨hp,Nat.le_antisymm ?_ (h3 _ hp (Nat.le_refl _))⟩
  rcases Nat.lt_or_ge (pivs cs c) k with hx|hx
  ·have:=List.pairwise_iff_getElem.1 h _ _ hp hk hx;omega
  ·have:pivs cs c=k:=by omega
   subst this;omega
 ·rintro ⟨hk,e⟩
  rw [<- e];exact List.getElem_mem hk
theorem nullV_sz{R:Nat->Nat->Rat}{cs:List Nat}{c n w m:Nat}(hR:∀ i j,i<n->j<w->Sz m (R i j))(hc:c<w)(hn:cs.length<=n)(hm:1<=m):∀ k,k<=cs.length->∀ j,Sz m (nullV R cs c k j):=by
 intro k
 induction k with
 | zero=>
  intro _ j
  show Sz m (if j=c then 1 else 0)
  split
  ·exact ⟨ZB.one hm,ZB.one hm⟩
  ·exact Sz.zero hm
 | succ k ih=>
  intro hk j
  show Sz m (if j=cs.getD k 0 then-R k c else nullV R cs c k j)
  split
  ·have h:=hR k c (by omega) hc
   refine ⟨?_,?_⟩
   ·rw [Rat.neg_num];exact h.num.le (by rw [Int.natAbs_neg];exact Nat.le_refl _)
   ·rw [Rat.neg_den];exact h.den
  ·exact ih (by omega) j
def kerM(R:Nat->Nat->Rat)(cs:List Nat)(cols:Nat):Nat->Nat->Rat:=fun i=>nullV R cs ((frees cs cols).getD i 0) cs.length
section
variable {h:Heap} {K:Value->Heap->Prop} {A B:Option Addr} {n cap m:Nat} {r c:Int} {ls:Nat->List UInt8}
theorem mindex_spec{xs:List Int}{v:Int}(s:SlF h A xs)(hx:n=xs.length)(hn:n<=1000000000)(hK1:∀ i:Nat,v∈xs->K (I (i:Int)) h)(hK0:v∉xs->K (I (-1)) h):FCall Tryz.prog f_MIndex #[.slice A n cap,I v] h K:=by
 refine MIndex_ok _ _ _ _ ?_
 unfold MIndex
 refine ⟨fun L hp=>∃ i:Nat,i<=n/\L=[I (i:Int)]/\hp=h/\∀ j (hj:j<xs.length),j<i->xs[j]≠v,fun L _=>n-(iAt L 0).toNat,⟨0,by omega,rfl,rfl,fun j _ hj=>by omega⟩,?_⟩
 rintro z hp ⟨i,hi,eL,rfl,hh⟩
 obtain rfl:z=(i:Int):=by simpa using eL
 refine Br.dec (fun hlt=>?_) (fun hge=>?_)
 ·have h1:i<xs.length:=by omega
  obtain ⟨u,rfl,hc⟩:=SlF.iat s h1
  refine ⟨u,rfl,by omega,by omega,_,hc,Br.beq (fun e=>hK1 i (e▸List.getElem_mem h1)) (fun e=>?_)⟩
  rw [show wi64 ((i:Int)+1)=((i+1:Nat):Int) by rw [wi64_id]<;>omega]
  refine ⟨⟨i+1,by omega,rfl,rfl,fun j hj hj2=>?_⟩,by simp only [iAt0];omega⟩
  by_cases e2:j=i
  ·subst e2;exact fun e3=>e e3.symm
  ·exact hh j hj (by omega)
 ·refine hK0 fun hm=>?_
  obtain ⟨k,hk,e⟩:=List.getElem_of_mem hm
  exact hh k hk (by omega) e
theorem mcontains_spec{cs:List Nat}{c:Nat}(s:SlF h A (zs cs))(hx:n=cs.length)(hn:n<=1000000000)(hK1:c∈cs->K (.bool true) h)(hK0:c∉cs->K (.bool false) h):FCall Tryz.prog f_MContains #[.slice A n cap,I (c:Int)] h K:=by
 refine MContains_ok _ _ _ _ ?_
 unfold MContains
 have em:((c:Int)∈zs cs)↔c∈cs:=by
  constructor
  ·intro hm
   obtain ⟨x,hx,e⟩:=List.mem_map.1 hm
   have:x=c:=by omega
   exact this▸hx
  ·exact fun hm=>List.mem_map.2 ⟨c,hm,rfl⟩
 refine mindex_spec s (by rw [hx,List.length_map]) hn (fun i hm=>⟨_,rfl,?_⟩) (fun hm=>⟨_,rfl,?_⟩)
 ·rw [show (decide ((i:Int)>=0))=true from decide_eq_true (by omega)]
  exact hK1 (em.1 hm)
 ·exact hK0 fun hx=>hm (em.2 hx)
theorem mtx_sz{E:Nat->Rat}{rows cols:Nat}(hs:∀ i,i<rows*cols->Sz m (E i)):∀ i j,i<rows->j<cols->Sz m (mtx E cols i j):=fun _ _ hi hj=>hs _ (idx_lt hi hj)
theorem ecE_sz{M:Nat->Nat->Rat}{n w c:Nat}(hs:∀ i j,i<n->j<w->Sz m (M i j))(hm:1<=m)(hc:c<=w){b:Nat}(hb:7^c*m<=b):(∀ i j,i<n->j<w->Sz b ((ecE M n c).R i j))/\Sz b (ecE M n c).det:=by
 have z:SzE n w m ⟨M,[],1⟩:=⟨fun i j hi hj=>by simpa using hs i j hi hj,by simpa using (⟨ZB.one hm,ZB.one hm⟩:Sz m 1),Nat.zero_le _⟩
 have y:=z.run hm c hc
 have hl:=(ecE_len M n c).1
 have hle:7^(ecE M n c).cs.length*m<=7^c*m:=Nat.mul_le_mul_right _ (Nat.pow_le_pow_right (by decide) hl)
 exact ⟨fun i j hi hj=>(y.R i j hi hj).mono (by show 7^(ecE M n c).cs.length*m<=b;omega),y.det.mono (by show 7^(ecE M n c).cs.length*m<=b;omega)⟩
theorem freduce_spec(rv':RowV SSr h A n ls)(hn:n<=1000000)(hl:∀ i,i<n->(ls i).length<=100000000)(hs:∀ i,i<n->Sz m (rv (ls i)))(hm1:1<=m)(hb:∀ rows cols,MOk r c n ls rows cols->7^cols*m<=100000000)
 (hK1:∀ rows cols,MOk r c n ls rows cols->∀ h' A' c' A2 cap2,h.le h'->RowV SSr h' A' n (fun k=>txtQ (redF (rvs ls) rows cols k))->SlF h' A2 (zs (elE (rvs ls) rows cols cols).cs)->K (.tuple #[matV r c A' n c',.slice A2 (elE (rvs ls) rows cols cols).cs.length cap2,I 0]) h')
 (hK0:¬ Mx r c n ls->∀ h',h.le h'->K (.tuple #[matV 0 0 none 0 0,.slice none 0 0,I 1]) h'):FCall Tryz.prog f_FReduce #[matV r c A n cap] h K:=by
 refine FReduce_ok _ _ _ _ _ ?_
 unfold FReduce
 refine frows_spec rv' hn hl (fun rows cols mk b h1 l1 rs=>⟨_,_,_,_,rfl,?_⟩) (fun hno h' l=>⟨_,_,_,_,rfl,hK0 hno h' l⟩)
 have hb':=hb rows cols mk
 have:=mk.r1;have:=mk.r2;have:=mk.c1;have:=mk.c2
 obtain ⟨rfl,rfl,_,_,_,_,rfl,_⟩:=id mk
 have ms:=mtx_sz hs
 refine fechelon_spec (m:=m) rs (by omega) (by omega) (by omega) (by omega) (Nat.le_refl _) hm1 ms hb' ?_
 intro h2 g2 o2 bo rb c2 A2 cap2 wd l2 t ow ap iq
 refine ⟨_,_,_,_,_,_,_,_,_,_,_,_,_,_,rfl,?_⟩
 obtain ⟨sz,_⟩:=ecE_sz (n:=rows) (w:=cols) (c:=cols) ms hm1 (Nat.le_refl _) (Nat.le_refl _)
 generalize 7^cols*m=bb at sz hb'
 refine fpack_spec (m:=bb) t.rowsV (by omega) (by omega) (by omega) (by omega) sz (by omega) ?_
 intro A3 c3 h3 l3 hc3 r3
 refine ⟨_,_,_,_,_,rfl,?_⟩
 exact hK1 rows cols mk h3 A3 c3 A2 cap2 (Heap.le_trans l1 (Heap.le_trans l2 (Heap.le_trans t.sep.le l3))) r3 ((ow.slF t.sep.ole).mono l3)
end
end Go.Proofs.YthilnfgnpdeofaaGreatDoor
/-
 Null and Kernel of the reference.
-/
namespace Go.Proofs.YthilnfgnpdeofaaGreatDoor
open Go
set_option maxRecDepth 20000
theorem getD_zs(cs:List Nat){i:Nat}(hi:i<cs.length):(zs cs)[i]'(by rw [List.length_map];exact hi)=((cs.getD i 0:Nat):Int):=by
 rw [List.getElem_map,List.getD_eq_getElem?_getD,List.getElem?_eq_getElem hi];rfl
theorem piv_at{h:Heap}{A:Option Addr}{cs:List Nat}(s:SlF h A (zs cs)){i:Nat}(hi:i<cs.length):∃ x,A=some x/\h.cell? (Addr.add x (i*1))=some (I ((cs.getD i 0:Nat):Int)):=by
 obtain ⟨x,e,hc⟩:=SlF.iat s (i:=i) (by rw [List.length_map];exact hi)
 rw [getD_zs cs hi] at hc
 exact ⟨x,e,hc⟩
theorem getD_lt{cs:List Nat}{c:Nat}(h:Asc cs c){i:Nat}(hi:i<cs.length):cs.getD i 0<c:=by
 rw [List.getD_eq_getElem?_getD,List.getElem?_eq_getElem hi];exact h.lt _ (List.getElem_mem hi)
theorem frees_in{cs:List Nat}{c:Nat}(h:c∈cs):frees cs (c+1)=frees cs c:=if_pos h
theorem frees_out{cs:List Nat}{c:Nat}(h:c∉cs):frees cs (c+1)=frees cs c++[c]:=if_neg h
theorem pivs_in{cs:List Nat}{c:Nat}(h:c∈cs):pivs cs (c+1)=pivs cs c+1:=if_pos h
theorem pivs_out{cs:List Nat}{c:Nat}(h:c∉cs):pivs cs (c+1)=pivs cs c:=if_neg h
theorem frees_old{cs:List Nat}{c:Nat}(h:c∉cs){i:Nat}(hi:i<(frees cs c).length):(frees cs c).getD i 0=(frees cs (c+1)).getD i 0:=by
 rw [frees_out h,List.getD_eq_getElem?_getD,List.getD_eq_getElem?_getD,List.getElem?_append_left hi]
theorem frees_last{cs:List Nat}{c:Nat}(h:c∉cs):(frees cs (c+1)).getD (frees cs c).length 0=c:=by
 rw [frees_out h,List.getD_eq_getElem?_getD,List.getElem?_append_right (Nat.le_refl _),Nat.sub_self];rfl
section
variable {h:Heap} {K:Value->Heap->Prop} {A:Option Addr} {n cap m w:Nat} {r c:Int} {ls:Nat->List UInt8} {M:Nat->Nat->Rat}
theorem fnull_spec(rs:RowsV h A n w M)(hn1:1<=n)(hn:n<=10000)(hw1:1<=w)(hw:w<=10000)(hm1:1<=m)(hs:∀ i j,i<n->j<w->Sz m (M i j))(hm:7^w*m<=100000000)
 (hK:∀ A' c' h',h.le h'->RowsV h' A' (frees (ecE M n w).cs w).length w (kerM (ecE M n w).R (ecE M n w).cs w)->K (.slice A' (frees (ecE M n w).cs w).length c') h'):FCall Tryz.prog f_FNull #[.slice A n cap] h K:=by
 refine FNull_ok _ _ _ ?_
 unfold FNull
 obtain ⟨a,sv,rfl,e1,e2,hc,_⟩:=rs.at (i:=0) (by omega)
 refine ⟨a,rfl,by omega,by omega,_,_,_,hc,?_⟩
 rw [e1]
 refine fechelon_spec rs hn1 hn hw1 hw (Nat.le_refl _) hm1 hs hm ?_
 intro h2 g2 o2 bo rb c2 A2 cap2 wd l2 t ow ap iq
 refine ⟨_,_,_,_,_,_,_,_,_,_,_,_,_,_,rfl,?_⟩
 have asc:=runE_asc n ⟨M,[],1⟩ rfl w
 have hlen:=ecE_len M n w
 have rv2:=t.rowsV
 have sp:=ow.slF t.sep.ole
 have lh:=Heap.le_trans l2 t.sep.le
 clear t ow ap iq
 change Asc (ecE M n w).cs w at asc
 generalize (ecE M n w).cs=cs at *
 generalize (ecE M n w).R=R at *
 refine ⟨fun L hp=>∃ (c:Nat) (g o:Heap) (hd:List HV) (A':Option Addr) (c':Nat),c<=w/\L=[.slice A' (frees cs c).length c',I (pivs cs c:Int),I (c:Int)]/\h2.le g/\Sep hp g o/\OwnSl o ty_tQss_e A' c' hd/\hd.length=(frees cs c).length/\Row (RWr w) g hd (frees cs c).length (fun i=>nullV R cs ((frees cs c).getD i 0) cs.length),fun L _=>w-(iAt L 2).toNat,
  ⟨0,h2,noHeap,[],none,0,by omega,rfl,Heap.le_refl _,Sep.refl h2,OwnSl.nil,rfl,Row.nil⟩,?_⟩
 rintro oA on oc k z hp ⟨c,g,o,hd,A',c',hcw,eL,lg,s,ow,hhd,rr⟩
 simp only [List.cons.injEq,Value.int.injEq,Value.slice.injEq,true_and,and_true] at eL
 obtain ⟨⟨rfl,rfl,rfl⟩,rfl,rfl⟩:=eL
 have lhp:=Heap.le_trans lg s.le
 refine Br.dec (fun hlt=>?_) (fun hge=>?_)
 ·have hcl:c<w:=by omega
  have hpl:=(asc_pivs asc.asc c).1
  have hfp:=frees_pivs cs c
  have ec:wi64 ((c:Int)+1)=((c+1:Nat):Int):=by rw [wi64_id]<;>omega
  refine ⟨fun L q=>L=[I (pivs cs c:Int)]/\q=hp/\c∉cs,Br.dec (fun hk=>?_) (fun hk=>⟨rfl,rfl,fun hm=>?_⟩),?_⟩
  ·have hk':pivs cs c<cs.length:=by omega
   obtain ⟨u,eu,hcu⟩:=piv_at (sp.mono lhp) hk'
   have egd:cs.getD (pivs cs c) 0=cs[pivs cs c]:=by rw [List.getD_eq_getElem?_getD,List.getElem?_eq_getElem hk'];rfl
   refine ⟨u,eu,by omega,by omega,_,hcu,Br.beq (fun e=>?_) (fun e=>⟨rfl,rfl,fun hm=>?_⟩)⟩
   ·have hm:c∈cs:=(mem_piv asc.asc c).2 ⟨hk',by omega⟩
    rw [ec,show wi64 ((pivs cs c:Int)+1)=((pivs cs c+1:Nat):Int) by rw [wi64_id]<;>omega]
    refine ⟨⟨c+1,g,o,hd,oA,oc,by omega,by rw [frees_in hm,pivs_in hm],lg,s,ow,by rw [frees_in hm];exact hhd,by rw [frees_in hm];exact rr⟩,?_⟩
    show w-((c+1:Nat):Int).toNat<w-(c:Int).toNat
    omega
   ·obtain ⟨_,e2⟩:=(mem_piv asc.asc c).1 hm
    omega
  ·obtain ⟨hk',_⟩:=(mem_piv asc.asc c).1 hm
   omega
  rintro k1 hp2 ⟨eL,rfl,hnc⟩
  obtain rfl:k1=(pivs cs c:Int):=by simpa using eL
  refine makeF_ok tRats (zx:=zeroQ) rfl (by omega) (by omega) (by omega) (by omega) ?_
  intro b hb
  simp only [Int.toNat_natCast]
  have ob:∀ q x,o q=some x->q≠b:=by
   rintro q x e rfl
   rw [s.own q x e] at hb;cases hb
  refine ⟨_,_,_,rfl,Sep.call (s.new hb _) (r_spec ⟨by omega,by omega⟩ ?_)⟩
  intro wd g3 l3 id h3 s3
  have one:((1:Int):Rat)=1:=rfl
  rw [one] at id
  refine ⟨_,_,_,_,_,_,_,_,rfl,_,rfl,by omega,by omega,?_⟩
  refine Sep.storeX tRats_one (y:=wd) rfl s3 RowX.mk (i:=c) (by rw [List.length_replicate];exact hcl) ?_
  intro h4 o4 x4 eo4 s4 rx4
  have keep4:∀ k,k≠b->o4 k=o k:=fun k hk=>by rw [eo4,Heap.put_other _ _ hk,Heap.put_other _ _ hk]
  have r0:Row NQr g3 (List.replicate w zeroQ) w (fun _=>0):=fun i hi=>⟨zeroQ,by rw [List.getElem?_replicate,if_pos hi],NQ.zero⟩
  have r1:Row NQr g3 ((List.replicate w zeroQ).set c wd) w (nullV R cs c 0):=r0.upd (by rw [List.length_replicate];exact hcl) id
  refine ⟨fun L q=>∃ (i:Nat) (g' o':Heap) (ys:List QV),i<=cs.length/\L=[I (i:Int)]/\g3.le g'/\Sep q g' o'/\RowX o' b ys/\ys.length=w/\Row NQr g' ys w (nullV R cs c i)/\(∀ k,k≠b->o' k=o k),fun L _=>cs.length-(iAt L 0).toNat,⟨0,g3,o4,_,by omega,rfl,Heap.le_refl _,s4,rx4,by rw [List.length_set,List.length_replicate],r1,keep4⟩,?_⟩
  rintro z q ⟨i,g5,o5,ys,hi,eL,l5,s5,rx5,hy,rr5,ko5⟩
  obtain rfl:z=(i:Int):=by simpa using eL
  have lq:=Heap.le_trans lg (Heap.le_trans l3 l5)
  refine Br.dec (fun hlt=>?_) (fun hge=>?_)
  ·have hil:i<cs.length:=by omega
   obtain ⟨u,eu,hcu⟩:=piv_at (sp.mono (Heap.le_trans lq s5.le)) hil
   obtain ⟨a4,sv4,ea4,f1,f2,hc4,row4⟩:=rv2.at (i:=i) (by omega)
   obtain ⟨a5,w5,e5,n5,c0,c1,c2',c3⟩:=(row4.mono monNQ lq).qat hcl
   have hgl:=getD_lt asc hil
   refine ⟨u,eu,by omega,by omega,_,hcu,a4,ea4,by omega,by omega,_,_,_,Heap.cell?_le (Heap.le_trans lq s5.le) hc4,a5,e5,by omega,by omega,_,_,_,_,_,_,_,_,Heap.cell?_le s5.le c0,Heap.cell?_le s5.le c1,Heap.cell?_le s5.le c2',Heap.cell?_le s5.le c3,?_⟩
   refine s5.call (rneg_spec n5 ?_)
   intro w6 i6 h6 s6
   refine ⟨_,_,_,_,_,_,_,_,rfl,s5.le_le s6 (Heap.le_refl _),_,rfl,by omega,by omega,?_⟩
   refine Sep.storeX tRats_one (y:=w6) rfl s6 rx5 (i:=cs.getD i 0) (by omega) ?_
   intro h7 o7 x7 eo7 s7 rx7
   rw [show wi64 ((i:Int)+1)=((i+1:Nat):Int) by rw [wi64_id]<;>omega]
   exact ⟨⟨i+1,g5,o7,_,by omega,rfl,l5,s7,rx7,by rw [List.length_set];exact hy,rr5.upd (by omega) i6,fun k hk=>by rw [eo7,Heap.put_other _ _ hk];exact ko5 k hk⟩,by simp only [iAt0];omega⟩
  ·have:i=cs.length:=by omega
   subst this
   obtain ⟨g8,l8,s8⟩:=s5.give (o2:=o) (fun k x e=>by rw [ko5 k (ob k x e)];exact e)
   have ob0:o b=none:=by
    cases hx:o b with
    | none=>rfl
    | some y=>exact absurd rfl (ob b y hx)
   have rx8:RowX g8 b ys:=rx5.keep fun x e=>by rw [<- s8.rest b ob0];exact s5.own b x e
   have rw8:RWr w g8 (⟨some ⟨b,0,none⟩,w,w⟩:HV) (nullV R cs c cs.length):=⟨rfl,Nat.le_refl _,ys,rx8.rowB.slF (Heap.le_refl _),hy,rr5.mono monNQ l8⟩
   refine OwnSl.push' (ty:=ty_tQss) tQss s8 ow hhd.symm (y:=(⟨some ⟨b,0,none⟩,w,w⟩:HV)) rfl (by decide) (by rw [hhd];omega) (by rw [hhd];omega) ?_
   intro A3 c3 h9 g9 o9 l9 s9 ow9 kp
   rw [ec,hhd]
   have hfl:(frees cs (c+1)).length=(frees cs c).length+1:=by rw [frees_out hnc,List.length_append];rfl
   refine ⟨⟨c+1,g9,o9,_,A3,c3,by omega,by rw [hfl,pivs_out hnc],Heap.le_trans lq (Heap.le_trans l8 l9),s9,ow9,by rw [List.length_append,hhd,hfl];rfl,?_⟩,?_⟩
   ·have rA:Row (RWr w) g9 hd hd.length (fun i=>nullV R cs ((frees cs (c+1)).getD i 0) cs.length):=by
     rw [hhd]
     exact (rr.mono (monRW w) (Heap.le_trans l3 (Heap.le_trans l5 (Heap.le_trans l8 l9)))).congr fun i hi=>by rw [frees_old hnc hi]
    have rB:=rA.push (w:=(⟨some ⟨b,0,none⟩,w,w⟩:HV)) (by rw [hhd];show RWr w g9 _ (nullV R cs ((frees cs (c+1)).getD (frees cs c).length 0) cs.length);rw [frees_last hnc];exact monRW w _ _ _ _ l9 rw8)
    rw [List.length_append,hhd] at rB
    rw [hfl]
    exact rB
   ·show w-((c+1:Nat):Int).toNat<w-(c:Int).toNat
    omega
 ·have:c=w:=by omega
  subst this
  refine hK oA oc hp (Heap.le_trans lh lhp) ?_
  exact RowsV.of ⟨hd,ow.slF s.ole,hhd,rr.mono (monRW c) s.le⟩
theorem fpack0(hK:K (matV 0 0 none 0 0) h):FCall Tryz.prog f_FPack #[.slice A 0 cap] h K:=by
 refine FPack_ok _ _ _ ?_
 unfold FPack
 exact Br.beq (fun _=>hK) (fun e=>absurd rfl e)
theorem fkernel_spec(rv':RowV SSr h A n ls)(hn:n<=1000000)(hl:∀ i,i<n->(ls i).length<=100000000)(hs:∀ i,i<n->Sz m (rv (ls i)))(hm1:1<=m)(hb:∀ rows cols,MOk r c n ls rows cols->7^cols*m<=100000000)
 (hK1:∀ rows cols,MOk r c n ls rows cols->(elE (rvs ls) rows cols cols).cs.length=cols->∀ h',h.le h'->K (.tuple #[matV 0 0 none 0 0,I 0]) h')
 (hK2:∀ rows cols,MOk r c n ls rows cols->(elE (rvs ls) rows cols cols).cs.length≠cols->∀ f,f=cols-(elE (rvs ls) rows cols cols).cs.length->∀ A' c' h',h.le h'->RowV SSr h' A' (f*cols) (flatT (kerM (elE (rvs ls) rows cols cols).R (elE (rvs ls) rows cols cols).cs cols) cols)->K (.tuple #[matV (f:Int) (cols:Int) A' (f*cols) c',I 0]) h')
 (hK0:¬ Mx r c n ls->∀ h',h.le h'->K (.tuple #[matV 0 0 none 0 0,I 1]) h'):FCall Tryz.prog f_FKernel #[matV r c A n cap] h K:=by
 refine FKernel_ok _ _ _ _ _ ?_
 unfold FKernel
 refine frows_spec rv' hn hl (fun rows cols mk b h1 l1 rs=>⟨_,_,_,_,rfl,?_⟩) (fun hno h' l=>⟨_,_,_,_,rfl,hK0 hno h' l⟩)
 have hb':=hb rows cols mk
 have:=mk.r1;have:=mk.r2;have:=mk.c1;have:=mk.c2
 obtain ⟨rfl,rfl,_,_,_,_,rfl,_⟩:=id mk
 have ms:=mtx_sz hs
 refine fnull_spec (m:=m) rs (by omega) (by omega) (by omega) (by omega) hm1 ms hb' ?_
 intro A2 c2 h2 l2 r2
 refine ⟨_,_,_,rfl,?_⟩
 have hk1:=hK1 rows cols mk
 have hk2:=hK2 rows cols mk
 have asc:Asc (ecE (mtx (rvs ls) cols) rows cols).cs cols:=runE_asc rows ⟨_,[],1⟩ rfl cols
 have hlen:=ecE_len (mtx (rvs ls) cols) rows cols
 obtain ⟨sz,_⟩:=ecE_sz (n:=rows) (w:=cols) (c:=cols) ms hm1 (Nat.le_refl _) (Nat.le_refl _)
 have p7:=pow7_pos cols m hm1
 generalize 7^cols*m=bb at sz hb' p7
 change (ecE (mtx (rvs ls) cols) rows cols).cs.length=cols->_ at hk1
 change (ecE (mtx (rvs ls) cols) rows cols).cs.length≠cols->∀ f,f=cols-(ecE (mtx (rvs ls) cols) rows cols).cs.length->∀ A' c' h',h.le h'->RowV SSr h' A' (f*cols) (flatT (kerM (ecE (mtx (rvs ls) cols) rows cols).R (ecE (mtx (rvs ls) cols) rows cols).cs cols) cols)->_ at hk2
 generalize (ecE (mtx (rvs ls) cols) rows cols).cs=cs at *
 generalize (ecE (mtx (rvs ls) cols) rows cols).R=R at *
 have hf:=frees_len asc
 by_cases e:cs.length=cols
 ·rw [show (frees cs cols).length=0 by omega]
  exact fpack0 ⟨_,_,_,_,_,rfl,hk1 e h2 (Heap.le_trans l1 l2)⟩
 ·have hk3:=hk2 e _ hf
  refine fpack_spec (m:=bb) r2 (by omega) (by omega) (by omega) (by omega) (fun i j hi hj=>nullV_sz sz ?_ hlen.2 p7 _ (Nat.le_refl _) j) (by omega) ?_
  ·rw [List.getD_eq_getElem?_getD,List.getElem?_eq_getElem hi]
   exact (frees_mem cs cols _ (List.getElem_mem hi)).1
  ·intro A3 c3 h3 l3 hc3 r3
   exact ⟨_,_,_,_,_,rfl,hk3 A3 c3 h3 (Heap.le_trans l1 (Heap.le_trans l2 l3)) r3⟩
end
end Go.Proofs.YthilnfgnpdeofaaGreatDoor
/-
 The program's Kernel.
-/
namespace Go.Proofs.YthilnfgnpdeofaaGreatDoor
open Go
set_option maxRecDepth 20000
section
variable {α β:Type} {R:Heap->α->β->Prop} {g:Heap}
theorem Row.app{xs ys:List α}{f:Nat->β}{p q:Nat}(hp:xs.length=p)(r:Row R g xs p f)(r2:Row R g ys q (fun j=>f (p+j))):Row R g (xs++ys) (p+q) f:=fun i hi=>by
 by_cases h:i<p
 ·obtain ⟨w,e,x⟩:=r i h
  exact ⟨w,by rw [List.getElem?_append_left (by omega)];exact e,x⟩
 ·obtain ⟨w,e,x⟩:=r2 (i-p) (by omega)
  refine ⟨w,by rw [List.getElem?_append_right (by omega),hp];exact e,?_⟩
  have e2:p+(i-p)=i:=by omega
  show R g w (f i)
  rw [<- e2];exact x
end
section
variable {h:Heap} {K:Value->Heap->Prop} {A:Option Addr} {n cap m:Nat} {r c:Int} {ls:Nat->List UInt8}
theorem tsmall_spec{z:Int}(hz: -9223372036854775808<=z/\z<=9223372036854775807)(hK:∀ w h',h.le h'->RQ h' w (z:Rat)->K w.v h'):FCall Tryz.prog f_TSmall #[I z] h K:=by
 refine TSmall_ok _ ?_
 unfold TSmall
 exact znew_spec hz.1 hz.2 fun s1 A1 n1 c1 h' l i=>⟨_,_,_,_,rfl,hK _ h' l (rq_whole i)⟩
def flatK(R:Nat->Nat->Rat)(cs:List Nat)(cols c:Nat):Nat->Rat:=fun k=>nullV R cs ((frees cs c).getD (k/cols) 0) cs.length (k%cols)
theorem zb_neg{m:Nat}{x:Int}(h:ZB m x):ZB m (-x):=h.le (by rw [Int.natAbs_neg];exact Nat.le_refl _)
theorem mkernel_spec(gl:Gl h)(rv':RowV SSr h A n ls)(hn:n<=1000000)(hl:∀ i,i<n->(ls i).length<=100000000)(hs:∀ i,i<n->Sz m (rv (ls i)))(hb:∀ rows cols,MOk r c n ls rows cols->2*(3^cols*bnd cols m)+1<=40000000)
 (hK1:∀ rows cols,MOk r c n ls rows cols->(elE (rvs ls) rows cols cols).cs.length=cols->∀ h',h.le h'->K (.tuple #[matV 0 0 none 0 0,I 0]) h')
 (hK2:∀ rows cols,MOk r c n ls rows cols->(elE (rvs ls) rows cols cols).cs.length≠cols->∀ f,f=cols-(elE (rvs ls) rows cols cols).cs.length->∀ A' c' h',h.le h'->RowV SSr h' A' (f*cols) (flatT (kerM (elE (rvs ls) rows cols cols).R (elE (rvs ls) rows cols cols).cs cols) cols)->K (.tuple #[matV (f:Int) (cols:Int) A' (f*cols) c',I 0]) h')
 (hK0:¬ Mx r c n ls->∀ h',h.le h'->K (.tuple #[matV 0 0 none 0 0,I 1]) h'):FCall Tryz.prog f_MKernel #[matV r c A n cap] h K:=by
 refine MKernel_ok _ _ _ _ _ ?_
 unfold MKernel
 refine mread_spec gl rv' hn hl ?_ (fun hno h1 l1=>⟨_,_,_,_,rfl,hK0 hno h1 l1⟩)
 intro rows cols mk b0 h1 own
 have hb':=hb rows cols mk
 have hk1:=hK1 rows cols mk
 have hk2:=hK2 rows cols mk
 have:=mk.r1;have:=mk.r2;have:=mk.c1;have:=mk.c2
 obtain ⟨rfl,rfl,_,_,_,_,rfl,_⟩:=id mk
 refine ⟨_,_,_,_,rfl,?_⟩
 refine tabRed_spec (E:=rvs ls) (cc:=cols) (m:=m) (gl.mono own.le) (own.vis monRQ) (Nat.le_refl _) (by omega) (by omega) (by omega) (by omega) (Nat.le_refl _) hs (by omega) ?_
 intro T h2 hred l2 e1 e2
 refine ⟨_,rfl,FCall.mono hred ?_⟩
 rintro r3 h3 ⟨g3,o3,A3,cap3,w,l3,t3,ow3,ap3,iw3,rfl⟩
 refine ⟨_,_,_,_,_,_,_,_,rfl,?_⟩
 have hzb:=el_zbR (E:=rvs ls) (rows:=rows) (c:=cols) hs (Nat.le_refl _)
 have hbd:=el_bound (rvs ls) rows cols cols (bnd cols m)
 have hlast:=el_last (rvs ls) rows cols cols
 have hdiv:∀ i j,i<rows->j<cols->Rat.divInt ((elP (rvs ls) rows cols cols).M i j) (elP (rvs ls) rows cols cols).last=(elE (rvs ls) rows cols cols).R i j:=fun i j hi hj=>el_div (rvs ls) (Nat.le_refl _) hi hj (.inr hj)
 have asc:Asc (elE (rvs ls) rows cols cols).cs cols:=runE_asc rows ⟨_,[],1⟩ rfl cols
 have hlen:(elE (rvs ls) rows cols cols).cs.length<=cols/\(elE (rvs ls) rows cols cols).cs.length<=rows:=ecE_len _ rows cols
 rw [el_cs _ (Nat.le_refl _)] at ow3 ⊢
 generalize elP (rvs ls) rows cols cols=st at *
 generalize (elE (rvs ls) rows cols cols).cs=cs at *
 generalize (elE (rvs ls) rows cols cols).R=R at *
 have hbb:1<=3^st.cs.length*bnd cols m:=Nat.mul_pos (Nat.pow_pos (by decide)) (by unfold bnd;omega)
 have hzM:=hzb.M
 have hzL:=hzb.last
 clear hzb
 generalize 3^st.cs.length*bnd cols m=bb at hzM hzL hbd hbb
 have hRz:∀ i j,i<rows->j<cols->Sz bb (R i j):=fun i j hi hj=>by rw [<- hdiv i j hi hj];exact Sz.divInt hlast (hzM _ _ hi hj) hzL
 have sp:=ow3.slF t3.sep.ole
 have lh3:h.le h3:=Heap.le_trans own.le (Heap.le_trans l3 t3.sep.le)
 have iw:ZIr h3 w st.last:=monZI _ _ _ _ t3.sep.le iw3
 have tabIn:∀ g',h3.le g'->∃ gT,Tab g' gT o3 T st.M st.S:=fun g' l=>by
  obtain ⟨gT,l',s'⟩:=t3.sep.after l
  exact ⟨gT,t3.next s' l'⟩
 clear t3 ow3 ap3 iw3 hred
 have hf:=frees_len asc
 refine Br.beq (fun e=>hk1 (by omega) h3 lh3) (fun e=>?_)
 have hk3:=hk2 (by omega) _ hf
 refine ⟨fun L hp=>∃ (c:Nat) (g o:Heap) (xs:List QV) (A':Option Addr) (c':Nat),c<=cols/\L=[.slice A' ((frees cs c).length*cols) c',I (c:Int)]/\h3.le g/\Sep hp g o/\OwnSl o ty_tRqs_e A' c' xs/\xs.length=(frees cs c).length*cols/\Row RQr g xs ((frees cs c).length*cols) (flatK R cs cols c),fun L _=>cols-(iAt L 1).toNat,
  ⟨0,h3,noHeap,[],none,0,by omega,by show _=[Value.slice none (0*cols) 0,I (0:Int)];rw [Nat.zero_mul],Heap.le_refl _,Sep.refl h3,OwnSl.nil,by show 0=0*cols;omega,by show Row _ _ _ (0*cols) _;rw [Nat.zero_mul];exact Row.nil⟩,?_⟩
 rintro kA kn kc z hp ⟨c,g,o,xs,A',c',hcw,eL,lg,s,ow,hxl,rr⟩
 simp only [List.cons.injEq,Value.int.injEq,Value.slice.injEq,true_and,and_true] at eL
 obtain ⟨⟨rfl,rfl,rfl⟩,rfl⟩:=eL
 have lhp:=Heap.le_trans lg s.le
 refine Br.dec (fun hlt=>?_) (fun hge=>?_)
 ·have hcl:c<cols:=by omega
  have hfp:=frees_pivs cs c
  have ec:wi64 ((c:Int)+1)=((c+1:Nat):Int):=by rw [wi64_id]<;>omega
  refine mcontains_spec (sp.mono lhp) rfl (by omega) (fun hm=>⟨_,rfl,?_⟩) (fun hnc=>⟨_,rfl,?_⟩)
  ·show (_/\_)
   rw [ec]
   refine ⟨⟨c+1,g,o,xs,kA,kc,by omega,by rw [frees_in hm],lg,s,ow,by rw [frees_in hm];exact hxl,by unfold flatK;rw [frees_in hm];exact rr⟩,?_⟩
   show cols-((c+1:Nat):Int).toNat<cols-(c:Int).toNat
   omega
  refine makeF_ok tRqs (zx:=zeroQ) rfl (by omega) (by omega) (by omega) (by omega) ?_
  intro b hb
  simp only [Int.toNat_natCast]
  have ob:∀ q x,o q=some x->q≠b:=by
   rintro q x e rfl
   rw [s.own q x e] at hb;cases hb
  refine ⟨_,_,_,rfl,Sep.call (s.new hb _) (tsmall_spec ⟨by omega,by omega⟩ ?_)⟩
  intro wd g4 l4 id h4 s4
  have one:((1:Int):Rat)=1:=rfl
  rw [one] at id
  refine ⟨_,_,_,_,_,_,_,_,rfl,_,rfl,by omega,by omega,?_⟩
  refine Sep.storeX tRqs_one (y:=wd) rfl s4 RowX.mk (i:=c) (by rw [List.length_replicate];exact hcl) ?_
  intro h5 o5 x5 eo5 s5 rx5
  have keep5:∀ k,k≠b->o5 k=o k:=fun k hk=>by rw [eo5,Heap.put_other _ _ hk,Heap.put_other _ _ hk]
  have r0:Row RQr g4 (List.replicate cols zeroQ) cols (fun _=>0):=fun i hi=>⟨zeroQ,by rw [List.getElem?_replicate,if_pos hi],RQ.zero⟩
  have r1:Row RQr g4 ((List.replicate cols zeroQ).set c wd) cols (nullV R cs c 0):=r0.upd (by rw [List.length_replicate];exact hcl) id
  refine ⟨fun L q=>∃ (i:Nat) (g' o':Heap) (ys:List QV),i<=cs.length/\L=[I (i:Int)]/\g4.le g'/\Sep q g' o'/\RowX o' b ys/\ys.length=cols/\Row RQr g' ys cols (nullV R cs c i)/\(∀ k,k≠b->o' k=o k),fun L _=>cs.length-(iAt L 0).toNat,⟨0,g4,o5,_,by omega,rfl,Heap.le_refl _,s5,rx5,by rw [List.length_set,List.length_replicate],r1,keep5⟩,?_⟩
  rintro z q ⟨i,g6,o6,ys,hi,eL,l6,s6,rx6,hy,rr6,ko6⟩
  obtain rfl:z=(i:Int):=by simpa using eL
  have lq:=Heap.le_trans lg (Heap.le_trans l4 l6)
  refine Br.dec (fun hlt=>?_) (fun hge=>?_)
  ·have hil:i<cs.length:=by omega
   obtain ⟨u,eu,hcu⟩:=piv_at (sp.mono (Heap.le_trans lq s6.le)) hil
   have hgl:=getD_lt asc hil
   obtain ⟨gT,tT⟩:=tabIn g6 lq
   refine ⟨u,eu,by omega,by omega,_,hcu,?_⟩
   refine s6.call (row_spec tT (i:=i) (by omega) ?_)
   intro h7 s7
   obtain ⟨wv,zv,c0,c1⟩:=tT.at (i:=i) (j:=c) (by omega) (by omega)
   refine ⟨_,_,_,rfl,s6.le_le s7 (Heap.le_refl _),_,rfl,by omega,by omega,_,_,_,_,Heap.cell?_le s7.le c0,Heap.cell?_le s7.le c1,?_⟩
   refine s7.call (zneg_spec (monZI _ _ _ _ tT.sep.le zv) ?_)
   intro s' iz h8 s8
   refine ⟨_,_,_,_,rfl,s7.le_le s8 (Heap.le_refl _),?_⟩
   refine s8.call (fraction_spec (gl.mono (Heap.le_trans lh3 lq)).tz iz (monZI _ _ _ _ lq iw) (zb_neg (hzM _ _ (by omega) hcl)) hzL (by omega) ?_)
   intro w9 g9 l9 i9 h9 s9
   have ev:Rat.divInt (-(st.M i c)) st.last= - R i c:=by rw [<- Rat.neg_divInt,hdiv i c (by omega) hcl]
   rw [ev] at i9
   refine ⟨_,_,_,_,_,_,_,_,rfl,s8.le_le s9 l9,_,rfl,by omega,by omega,?_⟩
   refine Sep.storeX tRqs_one (y:=w9) rfl s9 rx6 (i:=cs.getD i 0) (by omega) ?_
   intro h10 o10 x10 eo10 s10 rx10
   rw [show wi64 ((i:Int)+1)=((i+1:Nat):Int) by rw [wi64_id]<;>omega]
   exact ⟨⟨i+1,g9,o10,_,by omega,rfl,Heap.le_trans l6 l9,s10,rx10,by rw [List.length_set];exact hy,(rr6.mono monRQ l9).upd (by omega) i9,fun k hk=>by rw [eo10,Heap.put_other _ _ hk];exact ko6 k hk⟩,by simp only [iAt0];omega⟩
  ·have:i=cs.length:=by omega
   subst this
   obtain ⟨g8,l8,s8⟩:=s6.give (o2:=o) (fun k x e=>by rw [ko6 k (ob k x e)];exact e)
   have ob0:o b=none:=by
    cases hx:o b with
    | none=>rfl
    | some y=>exact absurd rfl (ob b y hx)
   have rx8:RowX g8 b ys:=rx6.keep fun x e=>by rw [<- s8.rest b ob0];exact s6.own b x e
   have hfl1:(frees cs (c+1)).length=(frees cs c).length+1:=by rw [frees_out hnc,List.length_append];rfl
   have hmul:(frees cs c).length*cols<=64*64:=Nat.mul_le_mul (by omega) (by omega)
   refine OwnSl.app (ty:=ty_tRqs) tRqs s8 ow hxl.symm hy.symm (by rintro rfl;simp at hy;omega) ((rx8.rowB.slF (Heap.le_refl _)).mono s8.le) (by rw [hxl,hy];omega) (by rw [hxl,hy];omega) ?_
   intro A9 c9 h9 g9 o9 l9 s9 ow9 kp
   rw [ec,hxl]
   have hfm:(frees cs (c+1)).length*cols=(frees cs c).length*cols+cols:=by rw [hfl1,Nat.add_mul,Nat.one_mul]
   refine ⟨_,_,_,rfl,⟨c+1,g9,o9,_,A9,c9,by omega,by rw [hfm],Heap.le_trans lq (Heap.le_trans l8 l9),s9,ow9,by rw [List.length_append,hxl,hy,hfm],?_⟩,?_⟩
   ·rw [hfm]
    refine Row.app hxl ((rr.mono monRQ (Heap.le_trans l4 (Heap.le_trans l6 (Heap.le_trans l8 l9)))).congr fun k hk=>?_) ((rr6.mono monRQ (Heap.le_trans l8 l9)).congr fun k hk=>?_)
    ·have:k/cols<(frees cs c).length:=Nat.div_lt_of_lt_mul (by rw [Nat.mul_comm];exact hk)
     unfold flatK
     rw [frees_old hnc this]
    ·unfold flatK
     rw [show ((frees cs c).length*cols+k)/cols=(frees cs c).length by rw [Nat.add_comm,Nat.add_mul_div_right _ _ (by omega),Nat.div_eq_of_lt hk,Nat.zero_add],show ((frees cs c).length*cols+k)%cols=k by rw [Nat.add_comm,Nat.add_mul_mod_self_right,Nat.mod_eq_of_lt hk],frees_last hnc]
   ·show cols-((c+1:Nat):Int).toNat<cols-(c:Int).toNat
    omega
 ·have:c=cols:=by omega
  subst this
  have rq:RowV RQr hp kA ((frees cs c).length*c) (flatK R cs c c):=⟨xs,ow.slF s.ole,hxl,rr.mono monRQ s.le⟩
  have hmul:(frees cs c).length*c<=64*64:=Nat.mul_le_mul (by omega) (by omega)
  have ew:wi64 ((c:Int)-(cs.length:Int))=(((frees cs c).length:Nat):Int):=by rw [hf,wi64_id]<;>omega
  rw [ew]
  refine mwrite_spec (m:=bb) (gl.mono (Heap.le_trans lh3 lhp)) rq (by omega) (fun k hk=>?_) (by omega) ?_
  ·have hi:k/c<(frees cs c).length:=Nat.div_lt_of_lt_mul (by rw [Nat.mul_comm];exact hk)
   refine nullV_sz hRz ?_ hlen.2 hbb _ (Nat.le_refl _) _
   rw [List.getD_eq_getElem?_getD,List.getElem?_eq_getElem hi]
   exact (frees_mem cs c _ (List.getElem_mem hi)).1
  ·intro b2 h9 own9
   exact ⟨_,_,_,_,_,rfl,hk3 _ _ h9 (Heap.le_trans lh3 (Heap.le_trans lhp own9.le)) (own9.vis monSS)⟩
end
end Go.Proofs.YthilnfgnpdeofaaGreatDoor
/-
 The law of Reduce,Rank and Kernel.
-/
namespace Go.Proofs.YthilnfgnpdeofaaGreatDoor
open Go
set_option maxRecDepth 20000
theorem Br.tt{X Y:Prop}(x:X):Br true X Y:=x
section
variable {h:Heap} {A:Option Addr} {n cap:Nat} {r c:Int} {ls:Nat->List UInt8}
theorem small_rv{m:Nat}(sm:Small r c n ls 6 12)(hm:m=48):(∀ i,i<n->(ls i).length<=100000000)/\(∀ i,i<n->Sz m (rv (ls i)))/\n<=1000000/\∀ rows cols,MOk r c n ls rows cols->rows<=6/\cols<=6:=by
 subst hm
 refine ⟨fun i hi=>by have:=sm.hl i hi;omega,fun i hi=>rv_sz (k:=12) (by have:=sm.hl i hi;omega) (by omega),by have:=sm.hn;omega,fun rows cols mk=>⟨by have:=mk.er;have:=sm.hr;omega,by have:=mk.ec;have:=sm.hc;omega⟩⟩
theorem pow_le7{cols:Nat}(h:cols<=6):7^cols*48<=6000000:=Nat.le_trans (Nat.mul_le_mul_right 48 (Nat.pow_le_pow_right (show 7>0 by decide) h)) (by decide)
theorem pow_le3{cols:Nat}(h:cols<=6):3^cols*bnd cols 48<=300000:=by
 have h1:bnd cols 48<=337:=by unfold bnd;omega
 exact Nat.le_trans (Nat.mul_le_mul (Nat.pow_le_pow_right (show 3>0 by decide) h) h1) (by decide)
theorem law_matrixReduce(gl:Gl h)(s:RowV SSr h A n ls):FCall Tryz.prog f_LMatrixReduce #[matV r c A n cap] h (LawK h):=by
 refine LMatrixReduce_ok _ _ _ _ _ ?_
 unfold LMatrixReduce
 refine lsmall_spec s (fun sm=>⟨_,rfl,?_⟩) (fun _=>⟨_,rfl,awake_spec gl fun h' l=>⟨_,rfl,rfl,l⟩⟩)
 obtain ⟨hl,hs,hn6,hrc⟩:=small_rv sm rfl
 have hn:n<=1000000000:=by omega
 have b3:∀ rows cols,MOk r c n ls rows cols->3^cols*bnd cols 48<=300000:=fun rows cols mk=>pow_le3 (hrc rows cols mk).2
 have b7:∀ rows cols,MOk r c n ls rows cols->7^cols*48<=100000000:=fun rows cols mk=>Nat.le_trans (pow_le7 (hrc rows cols mk).2) (by decide)
 by_cases hx:Mx r c n ls
 ·obtain ⟨rows,cols,mk⟩:=hx
  have uniq:∀ rows' cols',MOk r c n ls rows' cols'->rows'=rows/\cols'=cols:=fun rows' cols' mk'=>by
   have:=mk.er;have:=mk.ec;have:=mk'.er;have:=mk'.ec
   omega
  have yes:∀ {p:Prop},¬ Mx r c n ls->p:=fun hno=>absurd ⟨rows,cols,mk⟩ hno
  refine mreduce_spec gl s hn6 hl hs (fun rows cols mk=>by have:=b3 rows cols mk;omega) ?_ (fun hno=>yes hno)
  rintro rows' cols' mk' b h1 A1 cap1 own
  obtain ⟨rfl,rfl⟩:=uniq _ _ mk'
  have l1:=own.le
  refine ⟨_,_,_,_,_,_,_,_,_,rfl,?_⟩
  refine freduce_spec (m:=48) (s.mono monSS l1) hn6 hl hs (by omega) b7 ?_ (fun hno=>yes hno)
  rintro rows cols mk2 h2 A2 c2 A3 c3 l2 s2 i2
  obtain ⟨rfl,rfl⟩:=uniq _ _ mk2
  refine ⟨_,_,_,_,_,_,_,_,_,rfl,?_⟩
  have l02:=Heap.le_trans l1 l2
  refine mrank_spec (gl.mono l02) (s.mono monSS l02) hn6 hl hs (fun rows cols mk=>by have:=b3 rows cols mk;omega) ?_ (fun hno=>yes hno)
  rintro rows' cols' mk3 h3 l3
  obtain ⟨rfl,rfl⟩:=uniq _ _ mk3
  refine ⟨_,_,rfl,?_⟩
  have l03:=Heap.le_trans l02 l3
  have fin:∀ {k0 k1:Int} {kA:Option Addr} {kn kc:Nat} {f0 f1:Int} {fA:Option Addr} {fn fc:Nat} {fl fl2:Nat->List UInt8} (h5:Heap),h3.le h5->RowV SSr h5 kA kn fl->RowV SSr h5 fA fn fl2->kn<=1000000000->k0=f0->k1=f1->kn=fn->(∀ i,i<kn->fl i=fl2 i)->
   FCall Tryz.prog f_KMatrices #[matV r c (some ⟨b,0,none⟩) n n,matV r c A2 n c2] h5 (fun r7 hp7=>∃ (t48:Bool),r7= .bool t48/\Br t48 (FCall Tryz.prog f_KInts #[.slice A1 (elE (rvs ls) rows' cols' cols').cs.length cap1,.slice A3 (elE (rvs ls) rows' cols' cols').cs.length c3] hp7 (fun r8 hp8=>∃ (t52:Bool),r8= .bool t52/\Br t52 (Br ((0:Int)==0) (Br (((((elE (rvs ls) rows' cols' cols').cs.length:Nat):Int))==(((elE (rvs ls) rows' cols' cols').cs.length:Nat):Int)) (Br ((0:Int)==0) (FCall Tryz.prog f_KMatrices #[matV k0 k1 kA kn kc,matV f0 f1 fA fn fc] hp8 (fun r9 hp9=>∃ (t73:Bool),r9= .bool t73/\Br t73 (Br ((0:Int)==0) (FCall Tryz.prog f_LAwake #[] hp9 (fun r10 hp10=>∃ (t81:Bool),r10= .bool t81/\LawK h (.bool t81) hp10))
    (LawK h (.bool false) hp9))
    (LawK h (.bool false) hp9)))
    (LawK h (.bool false) hp8))
    (LawK h (.bool false) hp8))
    (LawK h (.bool false) hp8))
    (LawK h (.bool false) hp8)))
    (LawK h (.bool false) hp7)):=by
   intro k0 k1 kA kn kc f0 f1 fA fn fc fl fl2 h5 l5 rk rf hkn e0 e1 en ef
   have l35:=Heap.le_trans l3 l5
   refine kmatrices_spec (own.strs.mono monSS (Heap.le_trans l2 l35)) (s2.mono monSS l35) hn (fun _ _ _ _=>⟨_,rfl,Br.tt ?_⟩) (fun hno=>absurd ⟨rfl,rfl,rfl,fun _ _=>rfl⟩ hno)
   refine kints_spec (own.ints.1.mono (Heap.le_trans l2 l35)) (i2.mono l35) (List.length_map _).symm (List.length_map _).symm (by have:=(ecE_len (mtx (rvs ls) cols') rows' cols').1;have:(elE (rvs ls) rows' cols' cols').cs.length<=cols':=this;have:=(hrc _ _ mk3).2;omega) (fun _=>⟨_,rfl,Br.tt ?_⟩) (fun hno=>absurd rfl hno)
   refine Br.beq (fun _=>Br.beq (fun _=>Br.beq (fun _=>?_) (fun e=>absurd rfl e)) (fun e=>absurd rfl e)) (fun e=>absurd rfl e)
   refine kmatrices_spec rk rf hkn (fun _ _ _ _=>⟨_,rfl,Br.tt ?_⟩) (fun hno=>absurd ⟨e0,e1,en,ef⟩ hno)
   refine Br.beq (fun _=>?_) (fun e=>absurd rfl e)
   exact awake_spec (gl.mono (Heap.le_trans l03 l5)) fun h' l=>⟨_,rfl,rfl,Heap.le_trans l03 (Heap.le_trans l5 l)⟩
  have hc6:=(hrc _ _ mk3).2
  refine mkernel_spec (gl.mono l03) (s.mono monSS l03) hn6 hl hs (fun rows cols mk=>by have:=b3 rows cols mk;omega) ?_ ?_ (fun hno=>yes hno)
  ·rintro rows cols mk4 hcs h4 l4
   obtain ⟨rfl,rfl⟩:=uniq _ _ mk4
   refine ⟨_,_,_,_,_,_,rfl,?_⟩
   have l04:=Heap.le_trans l03 l4
   refine fkernel_spec (m:=48) (s.mono monSS l04) hn6 hl hs (by omega) b7 ?_ ?_ (fun hno=>yes hno)
   ·rintro rows' cols' mk5 hcs2 h5 l5
    exact ⟨_,_,_,_,_,_,rfl,fin h5 (Heap.le_trans l4 l5) (RowV.nil (f:=fun _=>[])) (RowV.nil (f:=fun _=>[])) (by omega) rfl rfl rfl (fun _ _=>rfl)⟩
   ·rintro rows' cols' mk5 hcs2 f ef A' c' h5 l5 rk
    obtain ⟨rfl,rfl⟩:=uniq _ _ mk5
    exact absurd hcs hcs2
  ·rintro rows cols mk4 hcs f ef A' c' h4 l4 rk
   obtain ⟨rfl,rfl⟩:=uniq _ _ mk4
   refine ⟨_,_,_,_,_,_,rfl,?_⟩
   have l04:=Heap.le_trans l03 l4
   refine fkernel_spec (m:=48) (s.mono monSS l04) hn6 hl hs (by omega) b7 ?_ ?_ (fun hno=>yes hno)
   ·rintro rows' cols' mk5 hcs2 h5 l5
    obtain ⟨rfl,rfl⟩:=uniq _ _ mk5
    exact absurd hcs2 hcs
   ·rintro rows' cols' mk5 hcs2 f2 ef2 A'' c'' h5 l5 rk2
    obtain ⟨rfl,rfl⟩:=uniq _ _ mk5
    obtain rfl:f2=f:=by omega
    have hf:f2*cols'<=64*64:=Nat.mul_le_mul (by omega) (by omega)
    exact ⟨_,_,_,_,_,_,rfl,fin h5 (Heap.le_trans l4 l5) (rk.mono monSS l5) rk2 (by omega) rfl rfl rfl (fun _ _=>rfl)⟩
 ·
  refine mreduce_spec gl s hn6 hl hs (fun rows cols mk=>absurd ⟨_,_,mk⟩ hx) (fun rows cols mk=>absurd ⟨_,_,mk⟩ hx) ?_
  intro _ h1 l1
  refine ⟨_,_,_,_,_,_,_,_,_,rfl,?_⟩
  refine freduce_spec (m:=48) (s.mono monSS l1) hn6 hl hs (by omega) b7 (fun rows cols mk=>absurd ⟨_,_,mk⟩ hx) ?_
  intro _ h2 l2
  refine ⟨_,_,_,_,_,_,_,_,_,rfl,?_⟩
  have l02:=Heap.le_trans l1 l2
  refine mrank_spec (gl.mono l02) (s.mono monSS l02) hn6 hl hs (fun rows cols mk=>absurd ⟨_,_,mk⟩ hx) (fun rows cols mk=>absurd ⟨_,_,mk⟩ hx) ?_
  intro _ h3 l3
  refine ⟨_,_,rfl,?_⟩
  have l03:=Heap.le_trans l02 l3
  refine mkernel_spec (gl.mono l03) (s.mono monSS l03) hn6 hl hs (fun rows cols mk=>absurd ⟨_,_,mk⟩ hx) (fun rows cols mk=>absurd ⟨_,_,mk⟩ hx) (fun rows cols mk=>absurd ⟨_,_,mk⟩ hx) ?_
  intro _ h4 l4
  refine ⟨_,_,_,_,_,_,rfl,?_⟩
  have l04:=Heap.le_trans l03 l4
  refine fkernel_spec (m:=48) (s.mono monSS l04) hn6 hl hs (by omega) b7 (fun rows cols mk=>absurd ⟨_,_,mk⟩ hx) (fun rows cols mk=>absurd ⟨_,_,mk⟩ hx) ?_
  intro _ h5 l5
  refine ⟨_,_,_,_,_,_,rfl,?_⟩
  have l05:=Heap.le_trans l04 l5
  have nil:∀ {h:Heap},RowV SSr h none 0 (fun _=>[]):=RowV.nil
  refine kmatrices_spec nil nil (by omega) (fun _ _ _ _=>⟨_,rfl,Br.tt ?_⟩) (fun hno=>absurd ⟨rfl,rfl,rfl,fun _ _=>rfl⟩ hno)
  refine kints_spec (xs:=[]) (ys:=[]) SlF.nil SlF.nil rfl rfl (by omega) (fun _=>⟨_,rfl,Br.tt ?_⟩) (fun hno=>absurd rfl hno)
  refine Br.beq (fun _=>Br.beq (fun _=>Br.beq (fun _=>?_) (fun e=>absurd rfl e)) (fun e=>absurd rfl e)) (fun e=>absurd rfl e)
  refine kmatrices_spec nil nil (by omega) (fun _ _ _ _=>⟨_,rfl,Br.tt ?_⟩) (fun hno=>absurd ⟨rfl,rfl,rfl,fun _ _=>rfl⟩ hno)
  refine Br.beq (fun _=>?_) (fun e=>absurd rfl e)
  exact awake_spec (gl.mono l05) fun h' l=>⟨_,rfl,rfl,Heap.le_trans l05 l⟩
end
end Go.Proofs.YthilnfgnpdeofaaGreatDoor
/-
 A matrix (two numbers and a list of strings) and a list of strings that came in.
-/
namespace Go.Proofs.YthilnfgnpdeofaaGreatDoor
open Go Go.RowKit
set_option maxRecDepth 20000
theorem bs_dat(s:ByteArray):bs s.data.toList=s:=by
 cases s;simp [bs]
theorem open_strV{H:Type}{enc:TypeId × Value->H}{P:Program}{W:World}{base:Nat}{sp:Nat->Bool}{held:Bool}{t e:TypeId}{fuel:Nat}{A:Option Addr}{len cap:Nat}{x:DataW H × List MemPlace}(ht:P.underlying t=some (.slice e))(he:P.underlying e=some .string)(hc:P.cellsOf e=1)
 (hf:DataW.trod enc P W base sp held fuel t [.slice A len cap]=some x):∃ ls:Nat->List UInt8,RowV SSr (memOf W) A len ls/\len<=maxLen:=by
 rcases Deep.open_strs ht he hc hf with ⟨hcs,_⟩|⟨a,l,c,m,Sx,hcs,_,hl,hm,hmm,_,hcell⟩
 ·simp at hcs
  obtain ⟨rfl,rfl,rfl⟩:=hcs
  exact ⟨fun _=>[],RowV.nil,Nat.zero_le _⟩
 ·simp at hcs
  obtain ⟨rfl,rfl,rfl⟩:=hcs
  have hlm:len<=m:=by rw [hmm];split<;>omega
  have sl:SlV (memOf W) (some a) (((List.range len).map fun i=>(Sx i).data.toList).map fun l=>Value.string (bs l)):=by
   refine .inr ⟨a,rfl,fun i v hv=>?_⟩
   rw [List.getElem?_map,List.getElem?_map] at hv
   by_cases hi:i<len
   ·rw [List.getElem?_range hi] at hv
    simp only [Option.map_some,Option.some.injEq,bs_dat] at hv
    rw [<- hv]
    exact memOf_cell (hcell i (by omega)).1
   ·rw [List.getElem?_eq_none (by simpa using hi)] at hv;cases hv
  have:=row_of_sl sl
  rw [List.length_map,List.length_range] at this
  exact ⟨_,this,by omega⟩
theorem open_mat{H:Type}{enc:TypeId × Value->H}{P:Program}{W:World}{base:Nat}{sp:Nat->Bool}{held:Bool}{r:Reach}{b0:Nat}{t e:TypeId}{f0 f1 f2:Field}{v:Value}{d:DataW H}{ps:List MemPlace}(ht:P.underlying t=some (.struct #[f0,f1,f2]))(u0:P.underlying f0.type=some (.int .i64))(u1:P.underlying f1.type=some (.int .i64))(u2:P.underlying f2.type=some (.slice e))(ue:P.underlying e=some .string)
 (hoff:f0.offset=0/\f1.offset=1/\f2.offset=2/\P.cellsOf f0.type=1/\P.cellsOf f1.type=1/\P.cellsOf f2.type=1/\P.cellsOf t=3/\P.cellsOf e=1)
 (hval:Value.okWide P W r b0 t v) (hd:DataW.Trod enc P W base sp held t v d ps):∃ (x y:Int) (A:Option Addr) (len cap:Nat) (ls:Nat->List UInt8),v= .agg #[.int .i64 x,.int .i64 y,.slice A len cap]/\RowV SSr (memOf W) A len ls/\len<=maxLen:=by
 obtain ⟨o0,o1,o2,c0,c1,c2,ct,ce⟩:=hoff
 obtain ⟨cs,rfl,hcs⟩:=WideShapes.okWide_struct ht hval
 obtain ⟨fuel,hf⟩:=hd
 obtain ⟨y0,y1,y2,n,hx,hl,g0,g1,g2⟩:=Deep.trod_struct3 ht hf
 rw [o0,c0] at g0
 rw [o1,c1] at g1
 rw [o2,c2] at g2
 obtain ⟨s0,e0,_,_⟩:=DataW.trod_int u0 g0
 obtain ⟨s1,e1,_,_⟩:=DataW.trod_int u1 g1
 rw [ct] at hcs
 have hlen:cs.toList.length=3:=by simpa using hcs
 obtain ⟨p,q,z,hm⟩:∃ p q z,cs.toList=[p,q,z]:=by
  match h:cs.toList,hlen with
  | [p,q,z],_=>exact ⟨p,q,z,rfl⟩
 simp only [Value.cells] at e0 e1 g2
 rw [hm] at e0 e1 g2
 simp at e0 e1 g2
 have hA:∃ A len cap,z= .slice A len cap:=by
  rcases Deep.open_strs u2 ue ce g2 with ⟨hcs,_⟩|⟨a,l,c,m,Sx,hcs,_⟩
  ·simp at hcs;exact ⟨_,_,_,hcs⟩
  ·simp at hcs;exact ⟨_,_,_,hcs⟩
 obtain ⟨A,len,cap,rfl⟩:=hA
 obtain ⟨ls,hr,hml⟩:=open_strV u2 ue ce g2
 have:cs=#[.int .i64 s0,.int .i64 s1,.slice A len cap]:=by rw [<- Array.toArray_toList (xs:=cs),hm,e0,e1]
 exact ⟨s0,s1,A,len,cap,ls,by rw [this],hr,hml⟩
end Go.Proofs.YthilnfgnpdeofaaGreatDoor
