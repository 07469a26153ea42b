/-
  Texts of this proof, merged by a program of ours.
-/
import Derived.Test.YthilnfgnpdeofaaGreatDoorG29
import Derived.Test.YthilnfgnpdeofaaGreatDoorG21
import Derived.Test.YthilnfgnpdeofaaGreatDoorG22
import Derived.Deep.Strs
namespace Go.Proofs.YthilnfgnpdeofaaGreatDoor
set_option maxRecDepth 20000
open Go
structure HV where
 A:Option Addr
 n:Nat
 c:Nat
abbrev HV.v(s:HV):Value:=.slice s.A s.n s.c
instance:Enc HV:=⟨⟨fun s=>[.slice s.A s.n s.c],1,fun _=>rfl,fun s v hv=>by rw [List.mem_singleton.1 hv];rfl⟩⟩
def RowsV(h:Heap)(A:Option Addr)(n w:Nat)(M:Nat->Nat->Rat):Prop:=∃ hd:List HV,SlF h A hd/\hd.length=n/\∀ i,i<n->∃ s,hd[i]? = some s/\s.n=w/\w<=s.c/\RowV NQr h s.A w (M i)
theorem RowsV.mono{h h':Heap}{A:Option Addr}{n w:Nat}{M:Nat->Nat->Rat}(l:h.le h')(r:RowsV h A n w M):RowsV h' A n w M:=by
 obtain ⟨hd,s,e,r⟩:=r
 refine ⟨hd,s.mono l,e,fun i hi=>?_⟩
 obtain ⟨s,e1,e2,e3,r⟩:=r i hi
 exact ⟨s,e1,e2,e3,r.mono Ob l⟩
theorem RowsV.congr{h:Heap}{A:Option Addr}{n w:Nat}{M M':Nat->Nat->Rat}(r:RowsV h A n w M)(e:∀ i j,i<n->j<w->M i j=M' i j):RowsV h A n w M':=by
 obtain ⟨hd,s,e1,r⟩:=r
 refine ⟨hd,s,e1,fun i hi=>?_⟩
 obtain ⟨s,e1,e2,e3,r⟩:=r i hi
 exact ⟨s,e1,e2,e3,r.congr fun j hj=>e i j hi hj⟩
theorem RowsV.at{h:Heap}{A:Option Addr}{n w:Nat}{M:Nat->Nat->Rat}(r:RowsV h A n w M){i:Nat}(hi:i<n):∃ (a:Addr) (s:HV),A=some a/\s.n=w/\w<=s.c/\h.cell? (Addr.add a (i*1))=some (.slice s.A s.n s.c)/\RowV NQr h s.A w (M i):=by
 obtain ⟨hd,s,e,r⟩:=r
 obtain ⟨u,e1,e2,e3,r⟩:=r i hi
 obtain ⟨a,ha,hc⟩:=SlF.at (by decide) s (i:=i) (by omega)
 have hu:hd[i]=u:=by
  rw [List.getElem?_eq_getElem (by omega)] at e1;exact Option.some.inj e1
 have:=hc 0 _ (by rw [hu];rfl)
 rw [Kl] at this
 exact ⟨a,u,ha,e2,e3,this,r⟩
structure Mt (h g o:Heap) (bo:Nat) (rb:Nat->Nat) (n w:Nat) (M:Nat->Nat->Rat):Prop where
 sep:Sep h g o
 hd:∃ hd:List HV,RowB o bo hd/\hd.length=n/\∀ i,i<n->∃ c,hd[i]? = some ⟨some ⟨rb i,0,none⟩,w,c⟩/\w<=c
 nb:∀ i,i<n->rb i≠bo
 inj:∀ i j,i<n->j<n->rb i=rb j->i=j
 row:∀ i,i<n->∃ xs:List QV,RowB o (rb i) xs/\xs.length=w/\Row NQr g xs w (M i)
section
variable {h g o:Heap} {bo n w:Nat} {rb:Nat->Nat} {M:Nat->Nat->Rat}
theorem Mt.next(t:Mt h g o bo rb n w M){h' g':Heap}(s:Sep h' g' o)(l:g.le g'):Mt h' g' o bo rb n w M:=by
 refine ⟨s,t.hd,t.nb,t.inj,fun i hi=>?_⟩
 obtain ⟨xs,r,e,q⟩:=t.row i hi
 exact ⟨xs,r,e,q.mono Ob l⟩
theorem Mt.congr(t:Mt h g o bo rb n w M){M':Nat->Nat->Rat}(e:∀ i j,i<n->j<w->M i j=M' i j):Mt h g o bo rb n w M':=by
 refine ⟨t.sep,t.hd,t.nb,t.inj,fun i hi=>?_⟩
 obtain ⟨xs,r,e1,q⟩:=t.row i hi
 exact ⟨xs,r,e1,q.congr fun j hj=>e i j hi hj⟩
theorem Mt.keep(t:Mt h g o bo rb n w M){h' g' o':Heap}(s:Sep h' g' o')(l:g.le g')(hk:∀ k x,o k=some x->(k=bo\/∃ i,i<n/\k=rb i)->o' k=some x):Mt h' g' o' bo rb n w M:=by
 refine ⟨s,?_,t.nb,t.inj,fun i hi=>?_⟩
 ·obtain ⟨hd,⟨e,ex,hb⟩,h1,h2⟩:=t.hd
  exact ⟨hd,⟨e,ex,hk _ _ hb (.inl rfl)⟩,h1,h2⟩
 ·obtain ⟨xs,⟨e,ex,hb⟩,h1,h2⟩:=t.row i hi
  exact ⟨xs,⟨e,ex,hk _ _ hb (.inr ⟨i,hi,rfl⟩)⟩,h1,h2.mono Ob l⟩
theorem Mt.own(t:Mt h g o bo rb n w M):(∃ x,o bo=some x)/\∀ i,i<n->∃ x,o (rb i)=some x:=by
 obtain ⟨hd,⟨e,ex,hb⟩,_⟩:=t.hd
 refine ⟨⟨_,hb⟩,fun i hi=>?_⟩
 obtain ⟨xs,⟨e,ex,hb⟩,_⟩:=t.row i hi
 exact ⟨_,hb⟩
theorem Mt.rowsV(t:Mt h g o bo rb n w M):RowsV h (some ⟨bo,0,none⟩) n w M:=by
 obtain ⟨hd,r,e,q⟩:=t.hd
 refine ⟨hd,r.slF t.sep.ole,e,fun i hi=>?_⟩
 obtain ⟨c,e1,hc⟩:=q i hi
 obtain ⟨xs,rx,e2,qx⟩:=t.row i hi
 exact ⟨_,e1,rfl,hc,xs,rx.slF t.sep.ole,e2,qx.mono Ob t.sep.le⟩
theorem Mt.head(t:Mt h g o bo rb n w M){i:Nat}(hi:i<n):∃ c,w<=c/\o.cell? (Addr.add ⟨bo,0,none⟩ (i*1))=some (.slice (some ⟨rb i,0,none⟩) w c):=by
 obtain ⟨hd,r,e,q⟩:=t.hd
 obtain ⟨c,e1,hc⟩:=q i hi
 refine ⟨c,hc,?_⟩
 have hu:hd[i]=⟨some ⟨rb i,0,none⟩,w,c⟩:=by
  rw [List.getElem?_eq_getElem (by omega)] at e1;exact Option.some.inj e1
 rw [D9,Nat.zero_add]
 exact r.cell (i:=i) (by omega) (j:=0) (by rw [hu];rfl)
theorem Mt.elem(t:Mt h g o bo rb n w M){i j:Nat}(hi:i<n)(hj:j<w):∃ x:QV,NQ g x (M i j)/\o.cell? (Addr.add (Addr.add ⟨rb i,0,none⟩ (j*4)) 0)=some (.bool x.s)/\o.cell? (Addr.add (Addr.add ⟨rb i,0,none⟩ (j*4)) 1)=some (.slice x.A x.n x.c)/\o.cell? (Addr.add (Addr.add ⟨rb i,0,none⟩ (j*4)) 2)=some (.bool x.s2)/\o.cell? (Addr.add (Addr.add ⟨rb i,0,none⟩ (j*4)) 3)=some (.slice x.A2 x.n2 x.c2):=by
 obtain ⟨xs,r,e,q⟩:=t.row i hi
 obtain ⟨x,e1,hx⟩:=q j hj
 have hu:xs[j]=x:=by
  rw [List.getElem?_eq_getElem (by omega)] at e1;exact Option.some.inj e1
 have cell:∀ k v,(enc x)[k]? = some v->o.cell? (Addr.add (Addr.add ⟨rb i,0,none⟩ (j*4)) k)=some v:=by
  intro k v hk
  rw [D9,D9,Nat.zero_add]
  exact r.cell (i:=j) (by omega) (j:=k) (by rw [hu];exact hk)
 exact ⟨x,hx,cell 0 _ rfl,cell 1 _ rfl,cell 2 _ rfl,cell 3 _ rfl⟩
def B8r(M:Nat->Nat->Rat)(i j:Nat)(q:Rat):Nat->Nat->Rat:=fun a b=>if a=i/\b=j then q else M a b
theorem Mt.store(t:Mt h g o bo rb n w M){i j:Nat}(hi:i<n)(hj:j<w){x:QV}{q:Rat}(hx:NQ g x q){K:Unit->Heap->Prop}
 (k:∀ h' o',Mt h' g o' bo rb n w (B8r M i j q)->(∀ k,k≠rb i->o' k=o k)->K () h'):wpH Tryz.prog (Instr.storeAt Q6 (.pointer (some (Addr.add ⟨rb i,0,none⟩ (j*4)))) x.v) K h:=by
 obtain ⟨xs,r,e,q'⟩:=t.row i hi
 rw [D9,Nat.zero_add]
 refine Sep.store (E:=inferInstanceAs (Enc QV)) Yg (v:=x.v) (y:=x) rfl t.sep r (i:=j) (by omega) rfl ?_
 intro h' o' x' eo s' r'
 refine k h' o' ⟨s',?_,t.nb,t.inj,fun a ha=>?_⟩ (fun k hk=>by rw [eo,B6 _ _ hk])
 ·obtain ⟨hd,rh,h1,h2⟩:=t.hd
  exact ⟨hd,by rw [eo];exact rh.other (t.nb i hi).symm _,h1,h2⟩
 ·by_cases ea:a=i
  ·subst ea
   refine ⟨_,r',by simpa using e,?_⟩
   refine (Row.upd q' (k:=j) (by omega) hx).congr fun b _=>?_
   unfold B8r
   by_cases eb:b=j
   ·rw [if_pos eb,if_pos ⟨rfl,eb⟩]
   ·rw [if_neg eb,if_neg (fun x=>eb x.2)]
  ·obtain ⟨ys,ry,ey,qy⟩:=t.row a ha
   refine ⟨ys,by rw [eo];exact ry.other (fun e=>ea (t.inj a i ha hi e)) _,ey,qy.congr fun b _=>?_⟩
   unfold B8r
   rw [if_neg (fun x=>ea x.1)]
theorem Mt.swap{P:Program}(t:Mt h g o bo rb n w M){i k:Nat}(hi:i<n)(hk:k<n){t':TypeId}(one:P.cellsOf t'=1/\(P.info? t').isSome=true){ci ck:Nat}(hci:o.cell? (Addr.add ⟨bo,0,none⟩ (i*1))=some (.slice (some ⟨rb i,0,none⟩) w ci))(hck:o.cell? (Addr.add ⟨bo,0,none⟩ (k*1))=some (.slice (some ⟨rb k,0,none⟩) w ck))(hcw:w<=ci)(hcw2:w<=ck){X:Unit->Heap->Prop}
 (xx:∀ h1,(∀ {K:Unit->Heap->Prop},(∀ h' o',Mt h' g o' bo (fun a=>rb (xch i k a)) n w (fun a=>M (xch i k a))->(∀ k,k≠bo->o' k=o k)->K () h')->wpH P (Instr.storeAt t' (.pointer (some (Addr.add ⟨bo,0,none⟩ (i*1)))) (.slice (some ⟨rb k,0,none⟩) w ck)) K h1)->X () h1):
 wpH P (Instr.storeAt t' (.pointer (some (Addr.add ⟨bo,0,none⟩ (k*1)))) (.slice (some ⟨rb i,0,none⟩) w ci)) X h:=by
 obtain ⟨hd,r,e,q⟩:=t.hd
 rw [D9,Nat.zero_add]
 refine Sep.store (E:=inferInstanceAs (Enc HV)) one (v:=.slice (some ⟨rb i,0,none⟩) w ci) (y:=(⟨some ⟨rb i,0,none⟩,w,ci⟩:HV)) rfl t.sep r (i:=k) (by omega) rfl ?_
 intro h1 o1 x1 eo1 s1 r1
 refine xx h1 (fun {K} kk=>?_)
 rw [D9,Nat.zero_add]
 refine Sep.store (E:=inferInstanceAs (Enc HV)) one (v:=.slice (some ⟨rb k,0,none⟩) w ck) (y:=(⟨some ⟨rb k,0,none⟩,w,ck⟩:HV)) rfl s1 r1 (i:=i) (by simpa using (by omega:i<hd.length)) rfl ?_
 intro h2 o2 x2 eo2 s2 r2
 have ko:∀ b,b≠bo->o2 b=o b:=fun b hb=>by rw [eo2,B6 _ _ hb,eo1,B6 _ _ hb]
 have hx:∀ a,a<n->xch i k a<n:=fun a ha=>Pc hi hk ha
 have hinj:∀ a b,xch i k a=xch i k b->a=b:=fun a b h=>by rw [<- A5o (k:=i) (l:=k) (i:=a),h,A5o]
 refine kk h2 o2 ⟨s2,⟨_,r2,by simpa using e,fun a ha=>?_⟩,fun a ha=>t.nb _ (hx a ha),fun a b ha hb h=>hinj a b (t.inj _ _ (hx a ha) (hx b hb) h),fun a ha=>?_⟩ ko
 ·by_cases e1:a=i
  ·subst e1
   exact ⟨ck,by rw [List.getElem?_set_self (by simp;omega)];unfold xch;rw [if_pos rfl],hcw2⟩
  ·rw [List.getElem?_set_ne (fun x=>e1 x.symm)]
   by_cases e2:a=k
   ·subst e2
    exact ⟨ci,by rw [List.getElem?_set_self (by omega)];unfold xch;rw [if_neg e1,if_pos rfl],hcw⟩
   ·rw [List.getElem?_set_ne (fun x=>e2 x.symm)]
    obtain ⟨c,h1,h2⟩:=q a ha
    exact ⟨c,by rw [h1];unfold xch;rw [if_neg e1,if_neg e2],h2⟩
 ·obtain ⟨xs,rx,ex,qx⟩:=t.row _ (hx a ha)
  obtain ⟨e,ex',hb⟩:=rx
  exact ⟨xs,⟨e,ex',by rw [ko _ (t.nb _ (hx a ha))];exact hb⟩,ex,qx⟩
end
def RWr(w:Nat):Heap->HV->(Nat->Rat)->Prop:=fun h s f=>s.n=w/\w<=s.c/\RowV NQr h s.A w f
theorem B6s(w:Nat):Mon (RWr w):=fun _ _ _ _ l i=>⟨i.1,i.2.1,i.2.2.mono Ob l⟩
theorem RowsV.of{h:Heap}{A:Option Addr}{n w:Nat}{M:Nat->Nat->Rat}(r:RowV (RWr w) h A n M):RowsV h A n w M:=r
theorem Rb{α:Type}[E:Enc α]{P:Program}{t e ty:TypeId}{z:Value}{bytes:Nat}(st:SliceT P t e z E.default.size bytes){h g o:Heap}(s:Sep h g o){A:Option Addr}{B:Option Addr}{d m:Nat}{ys:List α}(hm:m=ys.length)(hne:ys≠[])(sy:SlF h B ys)
 (hb:(2*ys.length+192)*bytes<=281474976710656) (hn:ys.length<=9223372036854775807) {K:Value->Heap->Prop}
 (x:∀ b c' h' g' o' y,o'=o.put b y->h b=none->g.le g'->Sep h' g' o'->ys.length<=c'->RowB o' b ys->K (.slice (some ⟨b,0,none⟩) m c') h'):wpH P (Builtin.append_ #[t,t] ty #[.slice A 0 0,.slice B m d]) K h:=by
 have p:PrivF h h e A 0 ([]:List α):=PrivF.nil h e A
 refine Gy st p hm sy (by simpa using hb) (by simpa using hn) ?_
 intro A' c' h' g' hg hp
 rw [List.nil_append] at hp
 obtain ⟨b,y,hA,hgb,hh,_,rb⟩:=A8z hp hne
 obtain ⟨g2,lg2,s2⟩:=s.after hg
 have hlc:=hp.2.1
 have hbn:h b=none:=by
  cases hx:h b with
  | none=>rfl
  | some u=>rw [hg b u hx] at hgb;cases hgb
 subst hh
 obtain ⟨e',ex,hb'⟩:=rb
 rw [C2] at hb'
 have:=x b c' _ g2 (o.put b y) y rfl hbn lg2 (s2.new hgb y) hlc ⟨e',ex,by rw [C2];exact hb'⟩
 rw [hA,List.nil_append,<- hm]
 exact this
section
variable {h:Heap} {K:Value->Heap->Prop} {A:Option Addr} {n cap m w:Nat} {r c:Int} {ls:Nat->List UInt8} {M:Nat->Nat->Rat}
theorem A4e(rv':RowV SSr h A n ls)(hn:n<=1000000)(hl:∀ i,i<n->(ls i).length<=100000000)
 (hK1:∀ rows cols,MOk r c n ls rows cols->∀ b h',h.le h'->RowsV h' (some ⟨b,0,none⟩) rows cols (mtx (rvs ls) cols)->K (.tuple #[.slice (some ⟨b,0,none⟩) rows rows,.bool true]) h')
 (hK0:¬ Mx r c n ls->∀ h',h.le h'->K (.tuple #[.slice none 0 0,.bool false]) h'):FCall Tryz.prog A1r #[Oc r c A n cap] h K:=by
 refine B2b _ _ _ _ _ ?_
 unfold B84
 have no:∀ (_:¬ A2b r c n),K (.tuple #[.slice none 0 0,.bool false]) h:=fun hs=>hK0 (fun x=>hs (Kx.1 x).1) h (B3 _)
 refine B8 (fun e=>no fun s=>by have:=s.1;omega) (fun h1=>B8 (fun e=>no fun s=>by have:=s.2.1;omega) (fun h2=>B8 (fun e=>no fun s=>by have:=s.2.2.1;omega) (fun h3=>B8 (fun e=>no fun s=>by have:=s.2.2.2.1;omega) (fun h4=>?_))))
 have hrc:r*c<=64*64:=Int.mul_le_mul (by omega) (by omega) (by omega) (by omega)
 have hrc0:0<=r*c:=Int.mul_nonneg (by omega) (by omega)
 have ew:B4 (r*c)=r*c:=B5 (by omega) (by omega)
 rw [ew]
 refine N4 (fun e=>no fun s=>e s.2.2.2.2) (fun h5=>?_)
 have sh:A2b r c n:=⟨by omega,by omega,by omega,by omega,h5⟩
 refine A6y rv' hn hl (fun hnum b h1' own=>?_) (fun hno h' l=>⟨_,_,_,_,rfl,hK0 (fun x=>hno (Kx.1 x).2) h' l⟩)
 have mk:=MOk.of sh hnum
 generalize r.toNat=rows at mk
 generalize c.toNat=cols at mk
 have:=mk.r1;have:=mk.r2;have:=mk.c1;have:=mk.c2
 obtain ⟨rfl,rfl,_,_,_,_,rfl,_⟩:=id mk
 have ov:=own.vis Ob
 refine ⟨_,_,_,_,rfl,Gk B9m (zx:=(⟨none,0,0⟩:HV)) rfl (by omega) (by omega) (by omega) (by omega) ?_⟩
 intro b2 hb2
 refine ⟨_,_,_,rfl,fun L hp=>∃ k:Nat,k<=rows/\L=[I (k:Int)]/\OwnK (RWr cols) h1' hp b2 rows k (mtx (rvs ls) cols),fun L _=>rows-(iAt L 0).toNat,⟨0,by omega,rfl,OwnK.zero hb2⟩,?_⟩
 rintro z hp ⟨k,hk,eL,g,o,xs,lg,s,rb,hx,rr⟩
 obtain rfl:z=(k:Int):=by simpa using eL
 refine B8 (fun hlt=>?_) (fun hge=>?_)
 ·have hkr:k<rows:=by omega
  have h2:(k+1)*cols<=rows*cols:=Nat.mul_le_mul_right _ hkr
  have h3:(k+1)*cols=k*cols+cols:=by rw [Nat.add_mul,Nat.one_mul]
  have hrc':rows*cols<=64*64:=Nat.mul_le_mul (by omega) (by omega)
  have e0:B4 ((k:Int)+1)=((k+1:Nat):Int):=B5 (by omega) (by omega)
  have e1:B4 ((k:Int)*(cols:Int))=((k*cols:Nat):Int):=by rw [<- Int.natCast_mul];exact Gc (by omega)
  have e2:B4 (B4 ((k:Int)+1)*(cols:Int))=(((k+1)*cols:Nat):Int):=by rw [e0,<- Int.natCast_mul];exact Gc (by omega)
  rw [e1,e2,e0]
  refine ⟨⟨by omega,by omega⟩,⟨by omega,by simp only [Int.toNat_natCast];omega⟩,_,rfl,by omega,by omega,?_⟩
  simp only [Int.toNat_natCast]
  have e5:(k+1)*cols-k*cols=cols:=by omega
  rw [e5]
  have row:RowV NQr h1' (J8 (some ⟨b,0,none⟩) (rows*cols) (k*cols) 4) cols (mtx (rvs ls) cols k):=ov.cut (c:=rows*cols) (l:=k*cols) (k:=cols) (by omega) (Nat.le_refl _)
  refine OwnK.store (B6s cols) A2o (y:=(⟨J8 (some ⟨b,0,none⟩) (rows*cols) (k*cols) 4,cols,rows*cols-k*cols⟩:HV)) lg (B3 _) s rb (by simpa using hx) rr hkr rfl ⟨rfl,by show cols<=rows*cols-k*cols;omega,row.mono Ob lg⟩ ?_
  intro h4 ow
  exact ⟨⟨k+1,by omega,rfl,ow⟩,by simp only [Hu];omega⟩
 ·have:k=rows:=by omega
  subst this
  have own2:Own (RWr cols) h1' hp b2 k (mtx (rvs ls) cols):=⟨g,o,xs,lg,s,rb,hx,rr⟩
  exact hK1 _ _ mk b2 hp (A0 own.le own2.le) (RowsV.of (own2.vis (B6s cols)))
theorem A4g{rcap:Nat}(rs:RowsV h A n w M)(hn:n<=1000000)(hw1:1<=w)(hw:w<=1000000)(hn1:1<=n)
 (hK:∀ h' g' o' bo rb c',h.le g'->Mt h' g' o' bo rb n w M->K (.slice (some ⟨bo,0,none⟩) n c') h'):FCall Tryz.prog A1t #[.slice A n rcap] h K:=by
 refine B2d _ _ _ ?_
 unfold B86
 refine ⟨fun L hp=>∃ (k:Nat) (g o:Heap) (hd:List HV) (rb:Nat->Nat) (A':Option Addr) (c':Nat),k<=n/\L=[.slice A' k c',I (k:Int)]/\h.le g/\Sep hp g o/\OwnSl o Ei A' c' hd/\hd.length=k/\(∀ i,i<k->∃ c,hd[i]? = some ⟨some ⟨rb i,0,none⟩,w,c⟩/\w<=c)/\(∀ i,i<k->A'≠some ⟨rb i,0,none⟩)/\(∀ i j,i<k->j<k->rb i=rb j->i=j)/\∀ i,i<k->∃ xs:List QV,RowB o (rb i) xs/\xs.length=w/\Row NQr g xs w (M i),fun L _=>n-(iAt L 1).toNat,
  ⟨0,h,Hd,[],fun _=>0,none,0,by omega,rfl,B3 _,Sep.refl h,OwnSl.nil,rfl,fun i hi=>by omega,fun i hi=>by omega,fun i j hi=>by omega,fun i hi=>by omega⟩,?_⟩
 rintro oA on oc z hp ⟨k,g,o,hd,rb,A',c',hk,eL,lg,s,ow,hhd,hhd2,hap,hinj,hrow⟩
 simp only [List.cons.injEq,Value.int.injEq,Value.slice.injEq,true_and,and_true] at eL
 obtain ⟨⟨rfl,rfl,rfl⟩,rfl⟩:=eL
 refine B8 (fun hlt=>?_) (fun hge=>?_)
 ·have hkn:on<n:=by omega
  refine Vj B49 ?_
  intro be hbe
  have s1:=s.vis hbe (.cells #[] Q6)
  have lgb:g.le (g.put be (.cells #[] Q6)):=Heap.le_put _ (by
   cases hx:g be with
   | none=>rfl
   | some y=>rw [s.le _ _ hx] at hbe;cases hbe)
  have lh1:=A0 lg lgb
  obtain ⟨a,sv,ea,e1,e2,hc,xs,sx,hxl,qx⟩:=rs.at hkn
  refine ⟨_,_,_,rfl,a,ea,by omega,by omega,_,_,_,C8 (A0 lh1 s1.le) hc,?_⟩
  refine Rb B49 s1 (ys:=xs) (by omega) (by rintro rfl;simp at hxl;omega) (sx.mono (A0 lh1 s1.le)) (by omega) (by omega) ?_
  intro b2 c2 h2 g2 o2 y eo hb2 l2 s2 hc2 rb2
  refine ⟨_,_,_,rfl,?_⟩
  have ob2:∀ q x,o q=some x->q≠b2:=by
   rintro q x e rfl
   have:=s1.ole q x e
   rw [this] at hb2;cases hb2
  have ow2:OwnSl o2 Ei oA oc hd:=ow.keep fun q x _ e=>by rw [eo,B6 _ _ (ob2 q x e)];exact e
  have hA2:oA≠some ⟨b2,0,none⟩:=by
   intro hA
   rcases ow.2 with ⟨_,h0⟩|⟨b',arr,hA',hbo,_⟩
   ·rw [hA] at h0;cases h0
   ·rw [hA] at hA'
    simp only [Option.some.injEq,Addr.mk.injEq,and_true] at hA'
    exact ob2 _ _ hbo hA'.symm
  refine Ie (ty:=A5v) B9m s2 ow2 hhd.symm (y:=(⟨some ⟨b2,0,none⟩,sv.n,c2⟩:HV)) rfl (by decide) (by rw [hhd];omega) (by rw [hhd];omega) ?_
  intro A3 c3 h3 g3 o3 l3 s3 ow3 kp
  have kq:∀ i,i<on->∃ x,o (rb i)=some x:=fun i hi=>by
   obtain ⟨xs,⟨e,ex,hb⟩,_⟩:=hrow i hi;exact ⟨_,hb⟩
  obtain ⟨e5,ex5,hb5⟩:=id rb2
  have k2:=kp b2 _ hb5 hA2
  rw [hhd,show B4 ((on:Int)+1)=((on+1:Nat):Int) by rw [B5]<;>omega]
  have gall:=A0 lgb (A0 l2 l3)
  refine ⟨⟨on+1,g3,o3,_,fun i=>if i=on then b2 else rb i,A3,c3,by omega,rfl,A0 lg gall,s3,ow3,by rw [List.length_append,hhd];rfl,fun i hi=>?_,fun i hi=>?_,fun i j hi hj h=>?_,fun i hi=>?_⟩,?_⟩
  ·show ∃ c,(hd++[(⟨some ⟨b2,0,none⟩,sv.n,c2⟩:HV)])[i]? = some ⟨some ⟨if i=on then b2 else rb i,0,none⟩,w,c⟩/\w<=c
   by_cases e:i=on
   ·subst e
    exact ⟨c2,by rw [List.getElem?_append_right (by omega),hhd,if_pos rfl,e1];simp,by omega⟩
   ·obtain ⟨c,h1,h2⟩:=hhd2 i (by omega)
    exact ⟨c,by rw [List.getElem?_append_left (by omega),if_neg e];exact h1,h2⟩
  ·show A3≠some ⟨if i=on then b2 else rb i,0,none⟩
   by_cases e:i=on
   ·rw [if_pos e];exact k2.2
   ·rw [if_neg e]
    obtain ⟨x,hx⟩:=kq i (by omega)
    exact (kp (rb i) x (by rw [eo,B6 _ _ (ob2 _ _ hx)];exact hx) (hap i (by omega))).2
  ·have h':(if i=on then b2 else rb i)=(if j=on then b2 else rb j):=h
   by_cases e1:i=on
   ·by_cases e2:j=on
    ·omega
    ·rw [if_pos e1,if_neg e2] at h'
     obtain ⟨x,hx⟩:=kq j (by omega)
     exact absurd h'.symm (ob2 _ _ hx)
   ·by_cases e2:j=on
    ·rw [if_neg e1,if_pos e2] at h'
     obtain ⟨x,hx⟩:=kq i (by omega)
     exact absurd h' (ob2 _ _ hx)
    ·rw [if_neg e1,if_neg e2] at h'
     exact hinj i j (by omega) (by omega) h'
  ·show ∃ xs:List QV,RowB o3 (if i=on then b2 else rb i) xs/\_
   by_cases e:i=on
   ·subst e
    rw [if_pos rfl]
    exact ⟨xs,⟨e5,ex5,k2.1⟩,hxl,qx.mono Ob (A0 lg gall)⟩
   ·rw [if_neg e]
    obtain ⟨ys,⟨ey,exy,hby⟩,hyl,qy⟩:=hrow i (by omega)
    refine ⟨ys,⟨ey,exy,?_⟩,hyl,qy.mono Ob gall⟩
    exact (kp (rb i) _ (by rw [eo,B6 _ _ (ob2 _ _ hby)];exact hby) (hap i (by omega))).1
  ·show n-((on+1:Nat):Int).toNat<n-((on:Nat):Int).toNat
   omega
 ·have hke:on=n:=by omega
  subst hke
  obtain ⟨bo,rfl,rbo⟩:=ow.rowB (by rintro rfl;simp at hhd;omega)
  exact hK hp g o bo rb oc lg ⟨s,⟨hd,rbo,hhd,hhd2⟩,fun i hi e=>hap i hi (by rw [e]),hinj,hrow⟩
end
section
variable {α:Type} [E:Enc α]
theorem OwnSl.app{P:Program}{t e ty:TypeId}{z:Value}{bytes:Nat}(st:SliceT P t e z E.default.size bytes){h g o:Heap}{A:Option Addr}{c:Nat}{xs:List α}(s:Sep h g o)(w:OwnSl o e A c xs){B:Option Addr}{d m n:Nat}{ys:List α}(hxn:n=xs.length)(hm:m=ys.length)(hne:ys≠[])(sy:SlF h B ys)(hb:(2*(xs.length+ys.length)+192)*bytes<=281474976710656)(hn:xs.length+ys.length<=9223372036854775807){K:Value->Heap->Prop}
 (x:∀ A' c' h' g' o',g.le g'->Sep h' g' o'->OwnSl o' e A' c' (xs++ys)->(∀ k u,o k=some u->A≠some ⟨k,0,none⟩->o' k=some u/\A'≠some ⟨k,0,none⟩)->K (.slice A' (xs.length+m) c') h'):
 wpH P (Builtin.append_ #[t,t] ty #[.slice A n c,.slice B m d]) K h:=by
 subst hxn
 obtain ⟨gb,p,hkeep⟩:=w.priv s
 refine Gy st p hm sy hb hn ?_
 intro A' c' h' g' hg hp
 rw [List.length_append,<- hm]
 have hgk:∀ k u,h k=some u->A≠some ⟨k,0,none⟩->g' k=some u:=by
  intro k u e1 hne
  exact hg k u (hkeep k u e1 hne)
 have hnA:∀ k u,g k=some u->A≠some ⟨k,0,none⟩:=by
  intro k u e1 hA
  rcases w.2 with ⟨_,h0⟩|⟨b',arr,hA',hb',_⟩
  ·rw [hA] at h0;cases h0
  ·rw [hA] at hA'
   simp only [Option.some.injEq,Addr.mk.injEq,and_true] at hA'
   subst hA'
   rw [s.dis k _ hb'] at e1;cases e1
 rcases hp.2.2 with ⟨hc0,_⟩|⟨b',arr,hA',hb',hh',ha,ht⟩
 ·exfalso
  have:=hp.2.1
  rw [List.length_append] at this
  have:ys.length≠0:=fun h=>hne (List.eq_nil_of_length_eq_zero h)
  omega
 ·subst hA'
  let o':Heap:=fun k=>if k=b' then some (.cells (List.toArray arr) e) else if A=some ⟨k,0,none⟩ then none else o k
  have ob:o' b'=some (.cells (List.toArray arr) e):=by show (if b'=b' then _ else _)=_;rw [if_pos rfl]
  have ok:∀ k,k≠b'->A≠some ⟨k,0,none⟩->o' k=o k:=fun k h1 h2=>by show (if k=b' then _ else if _ then _ else _)=_;rw [if_neg h1,if_neg h2]
  have ono:∀ k,k≠b'->A=some ⟨k,0,none⟩->o' k=none:=fun k h1 h2=>by show (if k=b' then _ else if _ then _ else _)=_;rw [if_neg h1,if_pos h2]
  let g2:Heap:=fun k=>match o' k with|some _=>none|none=>h' k
  have gs:∀ k u,o' k=some u->g2 k=none:=fun k u e1=>by show (match o' k with|some _=>none|none=>h' k)=_;rw [e1]
  have gn:∀ k,o' k=none->g2 k=h' k:=fun k e1=>by show (match o' k with|some _=>none|none=>h' k)=_;rw [e1]
  have hput:∀ k u,k≠b'->g' k=some u->h' k=some u:=fun k u h1 e1=>by rw [hh',B6 _ _ h1];exact e1
  have hown:∀ k u,o k=some u->A≠some ⟨k,0,none⟩->k≠b':=by
   rintro k u e1 h2 rfl
   have:=hgk k u (s.own k u e1) h2
   rw [hb'] at this;cases this
  refine x _ c' h' g2 o' (fun k u e1=>?_) ⟨fun k u e1=>?_,fun k e1=>(gn k e1).symm,gs⟩ ⟨hp.2.1,.inr ⟨b',arr,rfl,ob,ha,ht⟩⟩ (fun k u e1 h2=>?_)
  ·have hk0:o k=none:=by
    cases ho:o k with
    | none=>rfl
    | some y=>rw [s.dis k y ho] at e1;cases e1
   have hA:=hnA k u e1
   have e3:=hgk k u (s.le k u e1) hA
   have hkb':k≠b':=by rintro rfl;rw [hb'] at e3;cases e3
   rw [gn k (by rw [ok k hkb' hA];exact hk0)]
   exact hput k u hkb' e3
  ·by_cases hkb:k=b'
   ·subst hkb
    rw [ob] at e1;cases e1
    rw [hh',C2]
   ·by_cases hA:A=some ⟨k,0,none⟩
    ·rw [ono k hkb hA] at e1;cases e1
    ·rw [ok k hkb hA] at e1
     exact hput k u hkb (hgk k u (s.own k u e1) hA)
  ·have hkb:=hown k u e1 h2
   refine ⟨by rw [ok k hkb h2];exact e1,fun h3=>hkb ?_⟩
   simp only [Option.some.injEq,Addr.mk.injEq,and_true] at h3
   exact h3.symm
end
def B16(M:Nat->Nat->Rat)(w:Nat):Nat->List UInt8:=fun k=>L9 (M (k/w) (k%w))
section
variable {h:Heap} {K:Value->Heap->Prop} {A:Option Addr} {n cap m w:Nat} {M:Nat->Nat->Rat}
theorem A4f(rs:RowsV h A n w M)(hn:n<=10000)(hw1:1<=w)(hw:w<=10000)(hn1:1<=n)(hs:∀ i j,i<n->j<w->Sz m (M i j))(hm:m<=400000000)
 (hK:∀ A' c' h',h.le h'->n*w<=c'->RowV SSr h' A' (n*w) (B16 M w)->K (Oc n w A' (n*w) c') h'):FCall Tryz.prog A1s #[.slice A n cap] h K:=by
 refine B2c _ _ _ ?_
 unfold B85
 refine D8 (fun e=>by omega) (fun _=>?_)
 obtain ⟨a,sv,rfl,e1,e2,hc,_⟩:=rs.at (i:=0) (by omega)
 have hnw:n*w<=10000*10000:=Nat.mul_le_mul hn hw
 refine ⟨a,rfl,by omega,by omega,_,_,_,hc,fun L hp=>∃ (k:Nat) (g o:Heap) (xs:List (List UInt8)) (A':Option Addr) (c':Nat),k<=n/\L=[I (k:Int),I (n:Int),I (w:Int),.slice A' (k*w) c']/\h.le g/\Sep hp g o/\OwnSl o H9 A' c' xs/\xs.length=k*w/\Row SSr g xs (k*w) (B16 M w),fun L _=>n-(iAt L 0).toNat,⟨0,h,Hd,[],none,0,by omega,by rw [e1,Nat.zero_mul];rfl,B3 _,Sep.refl h,OwnSl.nil,by simp,by rw [Nat.zero_mul];exact Row.nil⟩,?_⟩
 rintro z m0 m1 mA mn mc hp ⟨k,g,o,xs,A',c',hk,eL,lg,s,ow,hxl,rr⟩
 simp only [List.cons.injEq,Value.int.injEq,Value.slice.injEq,true_and,and_true] at eL
 obtain ⟨rfl,rfl,rfl,rfl,rfl,rfl⟩:=eL
 refine B8 (fun hlt=>?_) (fun hge=>?_)
 ·have hkn:k<n:=by omega
  obtain ⟨a1,s1,ea,f1,f2,hc1,row⟩:=rs.at hkn
  have lhp:=A0 lg s.le
  have hk1:(k+1)*w=k*w+w:=by rw [Nat.add_mul,Nat.one_mul]
  have hkw:(k+1)*w<=n*w:=Nat.mul_le_mul_right _ hkn
  refine ⟨a1,ea,by omega,by omega,_,_,_,C8 lhp hc1,?_⟩
  rw [f1]
  refine s.call (A3x (row.mono Ob lg) (by omega) (fun j hj=>hs k j hkn hj) (by omega) ?_)
  intro b2 g2 own h2 s2
  have lg2:=own.le
  obtain ⟨ys,sy,hyl,qy⟩:=own.vis Ah
  refine ⟨_,_,_,rfl,s.le_le s2 lg2,?_⟩
  refine OwnSl.app (ty:=Hk) U2 s2 ow (by omega) hyl.symm (by rintro rfl;simp at hyl;omega) (sy.mono s2.le) (by omega) (by omega) ?_
  intro A3 c3 h3 g3 o3 l3 s3 ow3 _
  rw [hxl,<- hk1,show B4 ((k:Int)+1)=((k+1:Nat):Int) by rw [B5]<;>omega]
  refine ⟨_,_,_,rfl,⟨k+1,g3,o3,_,A3,c3,by omega,rfl,A0 lg (A0 lg2 l3),s3,ow3,by rw [List.length_append,hxl,hyl,hk1],fun i hi=>?_⟩,by simp only [Hu];omega⟩
  by_cases e:i<k*w
  ·obtain ⟨u,e1,hu⟩:=rr i e
   exact ⟨u,by rw [List.getElem?_append_left (by omega)];exact e1,hu⟩
  ·obtain ⟨j0,rfl⟩:∃ j0,i=k*w+j0:=⟨i-k*w,by omega⟩
   have hj0:j0<w:=by omega
   obtain ⟨u,e1,hu⟩:=qy j0 hj0
   refine ⟨u,by rw [List.getElem?_append_right (by omega),hxl,Nat.add_sub_cancel_left];exact e1,?_⟩
   have hu':u=L9 (M k j0):=hu
   have hd:(k*w+j0)/w=k:=by rw [Nat.mul_comm,Nat.mul_add_div (by omega),Nat.div_eq_of_lt hj0,Nat.add_zero]
   have hm':(k*w+j0)%w=j0:=by rw [Nat.mul_comm,Nat.mul_add_mod,Nat.mod_eq_of_lt hj0]
   show u=B16 M w (k*w+j0)
   unfold B16
   rw [hd,hm'];exact hu'
 ·have:k=n:=by omega
  subst this
  have hcap:=ow.1
  exact hK mA mc hp (A0 lg s.le) (by omega) ⟨xs,ow.slF s.ole,hxl,rr.mono Ah s.le⟩
end
abbrev ecE(M:Nat->Nat->Rat)(n c:Nat):ES:=B0t n ⟨M,[],1⟩ c
theorem A6f{n:Nat}{s:ES}{c:Nat}(h:n<=(B0t n s c).cs.length):∀ d,B0t n s (c+d)=B0t n s c:=by
 intro d
 induction d with
 | zero=>rfl
 | succ d ih=>
  show Hm n (c+d) (B0t n s (c+d))=_
  rw [ih]
  unfold Hm
  rw [if_neg (by omega)]
theorem Wo(M:Nat->Nat->Rat)(n:Nat):∀ c,(ecE M n c).cs.length<=c/\(ecE M n c).cs.length<=n:=by
 intro c
 induction c with
 | zero=>exact ⟨Nat.le_refl _,Nat.zero_le _⟩
 | succ c ih=>
  show (Hm n c (ecE M n c)).cs.length<=c+1/\(Hm n c (ecE M n c)).cs.length<=n
  unfold Hm
  split
  ·split
   ·show ((ecE M n c).cs++[c]).length<=c+1/\((ecE M n c).cs++[c]).length<=n
    rw [List.length_append]
    exact ⟨Nat.succ_le_succ ih.1,by simp only [List.length_cons,List.length_nil];omega⟩
   ·show (ecE M n c).cs.length<=c+1/\_
    exact ⟨Nat.le_succ_of_le ih.1,ih.2⟩
  ·exact ⟨Nat.le_succ_of_le ih.1,ih.2⟩
def A7x(M:Nat->Nat->Rat)(n c:Nat):Rat:=if (ecE M n c).cs.length<c then 0 else (ecE M n c).det
abbrev qc(w:QV):List Value:=[.bool w.s,.slice w.A w.n w.c,.bool w.s2,.slice w.A2 w.n2 w.c2]
theorem B6n{w:QV}{a b:Bool}{A B:Option Addr}{n c n' c':Nat}{l l':List Value}(h:(.bool a:Value) :: .slice A n c :: .bool b :: .slice B n' c'::l= .bool w.s :: .slice w.A w.n w.c :: .bool w.s2 :: .slice w.A2 w.n2 w.c2::l'):(⟨a,A,n,c,b,B,n',c'⟩:QV)=w/\l=l':=by
 simp only [List.cons.injEq,Value.bool.injEq,Value.slice.injEq] at h
 obtain ⟨rfl,⟨rfl,rfl,rfl⟩,rfl,⟨rfl,rfl,rfl⟩,h⟩:=h
 exact ⟨rfl,h⟩
def Ry(bo:Nat)(rb:Nat->Nat)(n:Nat)(A:Option Addr):Prop:=A≠some ⟨bo,0,none⟩/\∀ i,i<n->A≠some ⟨rb i,0,none⟩
section
variable {g o h11 h14 h15 hp2:Heap} {bo n w r c i B:Nat} {rb:Nat->Nat} {R:Nat->Nat->Rat} {x:QV} {q:Rat} {Invv Invv3:List Value->Heap->Prop} {muv muv3:List Value->Heap->Nat}
theorem B98(t:Mt h15 g o bo rb n w R)(hi:i<n)(hr:r<n)(hir:i≠r)(hcw:c<=w)(hn:n<=10000)(hw:w<=10000)(ix:NQ g x q)(s1:∀ b,b<w->Sz B (R i b))(s2:∀ b,b<w->Sz (B+B) (R r b))(s3:Sz B q)(hB:B*7<=100000000)
 (fin:∀ h' g' o',g.le g'->Mt h' g' o' bo rb n w (fun a b=>if a=i/\c<=b then R i b-q*R r b else R a b)->(∀ b,(∀ i,i<n->b≠rb i)->o' b=o b)->Invv3 [I (B4 ((i:Int)+1))] h'/\muv3 [I (B4 ((i:Int)+1))] h'<muv3 [I (i:Int)] h14):
 If Tryz.prog (some ⟨bo,0,none⟩) n r (c:Int) Invv3 muv3 (i:Int) x.s x.A x.n x.c x.s2 x.A2 x.n2 x.c2 h15 h14:=by
 unfold If
 refine ⟨fun L hq=>∃ (k:Nat) (g' o':Heap),c<=k/\k<=w/\L=[I (k:Int)]/\g.le g'/\Mt hq g' o' bo rb n w (fun a b=>if a=i/\c<=b/\b<k then R i b-q*R r b else R a b)/\(∀ b,(∀ i,i<n->b≠rb i)->o' b=o b),fun L _=>w-(iAt L 0).toNat,⟨c,g,o,Nat.le_refl _,hcw,rfl,B3 _,t.congr (fun a b _ _=>by rw [if_neg (by omega)]),fun _ _=>rfl⟩,?_⟩
 rintro z h16 ⟨k,g6,o6,hck,hkj,eL6,l6,t6,ko6⟩
 obtain rfl:z=(k:Int):=by simpa using eL6
 obtain ⟨c6,hc6,kh6⟩:=t6.head hi
 have hd6:=t6.sep.cell kh6
 refine ⟨_,rfl,by omega,by omega,_,_,_,hd6,B8 (fun hlt=>?_) (fun hge=>?_)⟩
 ·have hkj':k<w:=by omega
  obtain ⟨c7,hc7,kh7⟩:=t6.head hr
  obtain ⟨y,iy,y0,y1,y2,y3⟩:=t6.elem hi hkj'
  obtain ⟨v,iv,v0,v1,v2,v3⟩:=t6.elem hr hkj'
  rw [if_neg (by omega)] at iy
  rw [if_neg (fun x=>hir x.1.symm)] at iv
  refine ⟨_,rfl,by omega,by omega,_,_,_,hd6,_,rfl,by omega,by omega,_,_,_,hd6,_,rfl,by omega,by omega,_,_,_,_,_,_,_,_,t6.sep.cell y0,t6.sep.cell y1,t6.sep.cell y2,t6.sep.cell y3,_,rfl,by omega,by omega,_,_,_,t6.sep.cell kh7,_,rfl,by omega,by omega,_,_,_,_,_,_,_,_,t6.sep.cell v0,t6.sep.cell v1,t6.sep.cell v2,t6.sep.cell v3,?_⟩
  refine t6.sep.call (Ym (ix.mono l6) iv (s3.mono (show B<=B+B by omega)) (s2 k hkj') (by omega) ?_)
  intro w7 g7 l7 i7 h17 s17
  have t7:=t6.next s17 l7
  refine ⟨_,_,_,_,_,_,_,_,rfl,t6.sep.le_le s17 l7,?_⟩
  refine s17.call (A6g (iy.mono l7) i7 ((s1 k hkj').mono (show B<=B+(B+B) by omega)) (s3.mul (s2 k hkj')) (by omega) ?_)
  intro w8 g8 l8 i8 h18 s18
  have t8:=t7.next s18 l8
  refine ⟨_,_,_,_,_,_,_,_,rfl,s17.le_le s18 l8,_,rfl,by omega,by omega,?_⟩
  refine t8.store hi hkj' (x:=w8) i8 ?_
  intro h19 o19 t19 ko19
  rw [show B4 ((k:Int)+1)=((k+1:Nat):Int) by rw [B5]<;>omega]
  refine ⟨⟨k+1,g8,o19,by omega,by omega,rfl,A0 l6 (A0 l7 l8),t19.congr (fun a b _ _=>?_),fun b hb=>by rw [ko19 b (hb _ hi),ko6 b hb]⟩,by simp only [Hu];omega⟩
  show (if a=i/\b=k then R i k-q*R r k else if a=i/\c<=b/\b<k then R i b-q*R r b else R a b)=if a=i/\c<=b/\b<k+1 then R i b-q*R r b else R a b
  by_cases e1:a=i/\b=k
  ·obtain ⟨rfl,rfl⟩:=e1
   rw [if_pos ⟨rfl,rfl⟩,if_pos ⟨rfl,hck,by omega⟩]
  ·rw [if_neg e1]
   by_cases e2:a=i/\c<=b/\b<k
   ·rw [if_pos e2,if_pos ⟨e2.1,e2.2.1,by omega⟩]
   ·rw [if_neg e2,if_neg (by omega)]
 ·have hkj':k=w:=by omega
  subst hkj'
  refine fin h16 g6 o6 l6 (t6.congr (fun a b _ hb=>?_)) ko6
  by_cases e1:a=i/\c<=b
  ·rw [if_pos e1,if_pos ⟨e1.1,e1.2,hb⟩]
  ·rw [if_neg e1,if_neg (fun x=>e1 ⟨x.1,x.2.1⟩)]
theorem B99{pA:Option Addr}{pc:Nat}{d0 d2 e0 e2:Bool}{d1A d3A e1A e3A:Option Addr}{d1n d1c d3n d3c e1n e1c e3n e3c:Nat}(t:Mt h11 g o bo rb n w (fun a b=>if a=r then R r b/R r c else R a b))(hr:r<n)(hcw:c<w)(hn:n<=10000)(hw:w<=10000)(hB1:1<=B)(hR:∀ a b,a<n->b<w->Sz B (R a b))(hB:B*7<=100000000)
 (fin:∀ h' g' o',g.le g'->Mt h' g' o' bo rb n w (elimE R r c)->(∀ b,(∀ i,i<n->b≠rb i)->o' b=o b)->wpH Tryz.prog (Instr.buildSlice Cq 1 #[(0,I (c:Int))]) (fun v hp20=>∃ (t167A:Option Addr) (t167n:Nat) (t167c:Nat),v= .slice t167A t167n t167c/\wpH Tryz.prog (Builtin.append_ #[Cq,Cq] Cq #[.slice pA r pc,.slice t167A t167n t167c]) (fun v1 hp21=>∃ (t168A:Option Addr) (t168n:Nat) (t168c:Nat),v1= .slice t168A t168n t168c/\Invv [.slice t168A t168n t168c,I (B4 ((c:Int)+(1:Int))),.bool e0,.slice e1A e1n e1c,.bool e2,.slice e3A e3n e3c] hp21/\muv [.slice t168A t168n t168c,I (B4 ((c:Int)+(1:Int))),.bool e0,.slice e1A e1n e1c,.bool e2,.slice e3A e3n e3c] hp21<muv [.slice pA r pc,I (c:Int),.bool d0,.slice d1A d1n d1c,.bool d2,.slice d3A d3n d3c] hp2) hp20) h'):
 Dp Tryz.prog (some ⟨bo,0,none⟩) n Invv muv pA r pc (c:Int) d0 d1A d1n d1c d2 d3A d3n d3c e0 e1A e1n e1c e2 e3A e3n e3c hp2 h11:=by
 unfold Dp
 refine ⟨fun L hq=>∃ (i:Nat) (g' o':Heap),i<=n/\L=[I (i:Int)]/\g.le g'/\Mt hq g' o' bo rb n w (fun a b=>if a=r then R r b/R r c else if a<i then elimE R r c a b else R a b)/\(∀ b,(∀ i,i<n->b≠rb i)->o' b=o b),fun L _=>n-(iAt L 0).toNat,⟨0,g,o,by omega,rfl,B3 _,t.congr (fun a b _ hb=>?_),fun _ _=>rfl⟩,?_⟩
 ·by_cases ea:a=r
  ·rw [if_pos ea,if_pos ea]
  ·rw [if_neg ea,if_neg ea,if_neg (by omega)]
 rintro z h14 ⟨i,g5,o5,hi,eL5,l5,t5,ko5⟩
 obtain rfl:z=(i:Int):=by simpa using eL5
 have ewi:B4 ((i:Int)+1)=((i+1:Nat):Int):=by rw [B5]<;>omega
 refine B8 (fun hilt=>?_) (fun hige=>?_)
 ·have hin:i<n:=by omega
  obtain ⟨c5,hc5,kh5⟩:=t5.head hin
  obtain ⟨x,ix,x0,x1,x2,x3⟩:=t5.elem hin hcw
  refine ⟨_,rfl,by omega,by omega,_,_,_,t5.sep.cell kh5,_,rfl,by omega,by omega,_,_,_,_,_,_,_,_,t5.sep.cell x0,t5.sep.cell x1,t5.sep.cell x2,t5.sep.cell x3,?_⟩
  have same:∀ (hq:i=r\/R i c=0),(∃ (i':Nat) (g' o':Heap),i'<=n/\[I (B4 ((i:Int)+1))]=[I (i':Int)]/\g.le g'/\Mt h14 g' o' bo rb n w (fun a b=>if a=r then R r b/R r c else if a<i' then elimE R r c a b else R a b)/\(∀ b,(∀ i,i<n->b≠rb i)->o' b=o b))/\n-(iAt [I (B4 ((i:Int)+1))] 0).toNat<n-(iAt [I (i:Int)] 0).toNat:=by
   intro hq
   rw [ewi]
   refine ⟨⟨i+1,g5,o5,by omega,rfl,l5,t5.congr (fun a b _ _=>?_),ko5⟩,by simp only [Hu];omega⟩
   by_cases ea:a=r
   ·rw [if_pos ea,if_pos ea]
   ·rw [if_neg ea,if_neg ea]
    by_cases h1:a<i
    ·rw [if_pos h1,if_pos (by omega)]
    ·rw [if_neg h1]
     by_cases h2:a<i+1
     ·rw [if_pos h2]
      have:a=i:=by omega
      subst this
      rcases hq with hq|hq
      ·exact absurd hq ea
      ·unfold elimE
       rw [if_neg ea,if_pos (.inl hq)]
     ·rw [if_neg h2]
  refine D8 (fun he=>same (.inl (by omega))) (fun he=>?_)
  have hir:i≠r:=by omega
  rw [if_neg hir,if_neg (Nat.lt_irrefl i)] at ix
  refine Lf (ix.mono t5.sep.le) ⟨_,rfl,D8 (fun e=>?_) (fun e=>?_)⟩
  ·exact same (.inr (by rw [Int.sign_eq_zero_iff_zero] at e;exact Rat.num_eq_zero.1 e))
  have hg0:R i c≠0:=fun h=>e (by rw [h];rfl)
  refine B98 (B:=B) t5 hin hr hir (by omega) hn hw ix (fun b hb=>by rw [if_neg hir,if_neg (Nat.lt_irrefl i)];exact hR i b hin hb) (fun b hb=>by rw [if_pos rfl];exact (hR r b hr hb).div (hR r c hr hcw) hB1) (hR i c hin hcw) hB ?_
  intro h16 g6 o6 l6 t6 ko6
  rw [ewi]
  refine ⟨⟨i+1,g6,o6,by omega,rfl,A0 l5 l6,t6.congr (fun a b _ hb=>?_),fun b hb=>by rw [ko6 b hb,ko5 b hb]⟩,by simp only [Hu];omega⟩
  by_cases ea:a=i
  ·subst ea
   rw [if_neg hir,if_pos (show a<a+1 by omega)]
   unfold elimE
   rw [if_neg hir]
   by_cases hcb:c<=b
   ·have hno:¬ (R a c=0\/b<c):=by
     rintro (h|h)
     ·exact hg0 h
     ·omega
    rw [if_pos ⟨rfl,hcb⟩,if_neg hir,if_neg (Nat.lt_irrefl a),if_pos rfl,if_neg hno]
   ·rw [if_neg (fun x=>hcb x.2),if_neg hir,if_neg (Nat.lt_irrefl a),if_pos (.inr (by omega))]
  ·rw [if_neg (fun x=>ea x.1)]
   by_cases er:a=r
   ·rw [if_pos er,if_pos er]
   ·rw [if_neg er,if_neg er]
    by_cases h1:a<i
    ·rw [if_pos h1,if_pos (by omega)]
    ·rw [if_neg h1,if_neg (by omega)]
 ·have hin:i=n:=by omega
  subst hin
  exact fin h14 g5 o5 l5 (t5.congr (fun a b ha _=>by
   by_cases ea:a=r
   ·rw [if_pos ea];unfold elimE;rw [if_pos ea]
   ·rw [if_neg ea,if_pos ha])) ko5
theorem B9a{h10:Heap}{xf:QV}{pA:Option Addr}{pc:Nat}{d0 d2 e0 e2:Bool}{d1A d3A e1A e3A:Option Addr}{d1n d1c d3n d3c e1n e1c e3n e3c:Nat}(t:Mt h10 g o bo rb n w R)(hr:r<n)(hcw:c<w)(hn:n<=10000)(hw:w<=10000)(ixf:NQ g xf (R r c))(hR:∀ b,b<w->Sz B (R r b))(hB:B*7<=100000000)
 (fin:∀ h' g' o',g.le g'->Mt h' g' o' bo rb n w (fun a b=>if a=r then R r b/R r c else R a b)->(∀ b,(∀ i,i<n->b≠rb i)->o' b=o b)->Dp Tryz.prog (some ⟨bo,0,none⟩) n Invv muv pA r pc (c:Int) d0 d1A d1n d1c d2 d3A d3n d3c e0 e1A e1n e1c e2 e3A e3n e3c hp2 h'):
 Ig Tryz.prog (some ⟨bo,0,none⟩) n Invv muv pA r pc (c:Int) d0 d1A d1n d1c d2 d3A d3n d3c xf.s xf.A xf.n xf.c xf.s2 xf.A2 xf.n2 xf.c2 e0 e1A e1n e1c e2 e3A e3n e3c h10 hp2:=by
 unfold Ig
 refine ⟨fun L hq=>∃ (j:Nat) (g' o':Heap),j<=w/\L=[I (j:Int)]/\g.le g'/\Mt hq g' o' bo rb n w (fun a b=>if a=r/\b<j then R r b/R r c else R a b)/\(∀ b,(∀ i,i<n->b≠rb i)->o' b=o b),fun L _=>w-(iAt L 0).toNat,⟨0,g,o,by omega,rfl,B3 _,t.congr (fun a b _ _=>by rw [if_neg (by omega)]),fun _ _=>rfl⟩,?_⟩
 rintro z h11 ⟨j,g4,o4,hj,eL4,l4,t4,ko4⟩
 obtain rfl:z=(j:Int):=by simpa using eL4
 obtain ⟨ch4,hch4,kh4⟩:=t4.head hr
 have hd4:=t4.sep.cell kh4
 refine ⟨_,rfl,by omega,by omega,_,_,_,hd4,B8 (fun hlt=>?_) (fun hge=>?_)⟩
 ·have hjw:j<w:=by omega
  obtain ⟨x,ix,x0,x1,x2,x3⟩:=t4.elem hr hjw
  rw [if_neg (by omega)] at ix
  refine ⟨_,rfl,by omega,by omega,_,_,_,hd4,_,rfl,by omega,by omega,_,_,_,hd4,_,rfl,by omega,by omega,_,_,_,_,_,_,_,_,t4.sep.cell x0,t4.sep.cell x1,t4.sep.cell x2,t4.sep.cell x3,?_⟩
  refine t4.sep.call (A6j ix (ixf.mono l4) (hR _ hjw) (hR _ hcw) (by omega) ?_)
  intro w5 g5 l5 i5 h12 s12
  refine ⟨_,_,_,_,_,_,_,_,rfl,t4.sep.le_le s12 l5,_,rfl,by omega,by omega,?_⟩
  have t5:=t4.next s12 l5
  refine t5.store hr hjw (x:=w5) i5 ?_
  intro h13 o13 t13 ko13
  rw [show B4 ((j:Int)+1)=((j+1:Nat):Int) by rw [B5]<;>omega]
  refine ⟨⟨j+1,g5,o13,by omega,rfl,A0 l4 l5,t13.congr (fun a b _ _=>?_),fun b hb=>by rw [ko13 b (hb _ hr),ko4 b hb]⟩,by simp only [Hu];omega⟩
  show (if a=r/\b=j then R r j/R r c else if a=r/\b<j then R r b/R r c else R a b)=if a=r/\b<j+1 then R r b/R r c else R a b
  by_cases e1:a=r/\b=j
  ·obtain ⟨rfl,rfl⟩:=e1
   rw [if_pos ⟨rfl,rfl⟩,if_pos ⟨rfl,by omega⟩]
  ·rw [if_neg e1]
   by_cases e2:a=r/\b<j
   ·rw [if_pos e2,if_pos ⟨e2.1,by omega⟩]
   ·rw [if_neg e2,if_neg (by omega)]
 ·have hjw:j=w:=by omega
  subst hjw
  refine fin h11 g4 o4 l4 (t4.congr (fun a b _ hb=>?_)) ko4
  by_cases ea:a=r
  ·rw [if_pos ⟨ea,hb⟩,if_pos ea]
  ·rw [if_neg (fun x=>ea x.1),if_neg ea]
end
section
variable {g o h5 h9 hp2:Heap} {bo n w r c B k:Nat} {rb:Nat->Nat} {R:Nat->Nat->Rat} {q:Rat} {Invv:List Value->Heap->Prop} {muv:List Value->Heap->Nat} {pA:Option Addr} {pc:Nat} {wd wd0:QV} {l:List Nat}
theorem B9b(hl:l.length=r)(t:Mt h9 g o bo rb n w R)(ow:OwnSl o E7 pA pc (zs l))(ap:Ry bo rb n pA)(iq:NQ g wd q)(hr:r<n)(hcw:c<w)(hn:n<=10000)(hw:w<=10000)(hB1:1<=B)(hq:Sz B q)(hR:∀ a b,a<n->b<w->Sz B (R a b))(hB:B*7<=100000000)
 (fin:∀ h' g' o' A' c' wd',g.le g'->Mt h' g' o' bo rb n w (elimE R r c)->OwnSl o' E7 A' c' (zs (l++[c]))->Ry bo rb n A'->NQ g' wd' (q*R r c)->Invv (.slice A' (r+1) c'::I (B4 ((c:Int)+1))::qc wd') h'/\muv (.slice A' (r+1) c'::I (B4 ((c:Int)+1))::qc wd') h'<muv (.slice pA r pc::I (c:Int)::qc wd0) hp2):
 Ih Tryz.prog (some ⟨bo,0,none⟩) n Invv muv pA r pc (c:Int) wd0.s wd0.A wd0.n wd0.c wd0.s2 wd0.A2 wd0.n2 wd0.c2 wd.s wd.A wd.n wd.c wd.s2 wd.A2 wd.n2 wd.c2 hp2 h9:=by
 unfold Ih
 obtain ⟨ch,hch,kh⟩:=t.head hr
 obtain ⟨xf,ixf,xf0,xf1,xf2,xf3⟩:=t.elem hr hcw
 refine ⟨_,rfl,by omega,by omega,_,_,_,t.sep.cell kh,_,rfl,by omega,by omega,_,_,_,_,_,_,_,_,t.sep.cell xf0,t.sep.cell xf1,t.sep.cell xf2,t.sep.cell xf3,?_⟩
 refine t.sep.call (Ym iq ixf hq (hR _ _ hr hcw) (by omega) ?_)
 intro wd4 g3 l3 i4 h10 s10
 refine ⟨_,_,_,_,_,_,_,_,rfl,?_⟩
 refine B9a (B:=B) (t.next s10 l3) hr hcw hn hw (ixf.mono l3) (fun b hb=>hR _ b hr hb) hB ?_
 intro h11 g4 o4 l4 t4 ko4
 refine B99 (B:=B) t4 hr hcw hn hw hB1 hR hB ?_
 intro h14 g5 o5 l5 tF ko5'
 have ko5:∀ b,(∀ i,i<n->b≠rb i)->o5 b=o b:=fun b hb=>by rw [ko5' b hb,ko4 b hb]
 have ow5:OwnSl o5 E7 pA pc (zs l):=ow.keep fun b x hA e=>by rw [ko5 b (fun i hi e=>ap.2 i hi (by rw [<- e];exact hA))];exact e
 have hzl0:(zs l).length=r:=by simp [hl]
 refine Ie (ty:=Cq) B4a tF.sep ow5 hzl0.symm (y:=((c:Nat):Int)) rfl (by decide) (by rw [hzl0];omega) (by rw [hzl0];omega) ?_
 intro A6 c6 h16 g6 o6 l6 s6 ow6 kp6
 obtain ⟨⟨y0,hy0⟩,hyr⟩:=tF.own
 have t6:=tF.keep s6 l6 (fun k x e hk=>by
  rcases hk with rfl|⟨q,hq,rfl⟩
  ·exact (kp6 _ _ e ap.1).1
  ·exact (kp6 _ _ e (ap.2 q hq)).1)
 rw [hzl0]
 refine fin h16 g6 o6 A6 c6 wd4 (A0 l3 (A0 l4 (A0 l5 l6))) t6 (by simpa [zs] using ow6) ⟨(kp6 _ _ hy0 ap.1).2,fun q hq=>?_⟩ (i4.mono (A0 l4 (A0 l5 l6)))
 obtain ⟨x,hx⟩:=hyr q hq
 exact (kp6 _ _ hx (ap.2 q hq)).2
theorem B9c(hl:l.length=r)(t:Mt h5 g o bo rb n w R)(ow:OwnSl o E7 pA pc (zs l))(ap:Ry bo rb n pA)(iq:NQ g wd0 q)(hr:r<n)(hk:k<=n)(hcw:c<w)(hn:n<=10000)(hw:w<=10000)(hB1:1<=B)(hq:Sz B q)(hR:∀ a b,a<n->b<w->Sz B (R a b))(hB:B*7<=100000000)
 (fin0:k=n->Invv (.slice pA r pc::I (B4 ((c:Int)+1))::qc ⟨false,none,0,0,false,none,0,0⟩) h5/\muv (.slice pA r pc::I (B4 ((c:Int)+1))::qc ⟨false,none,0,0,false,none,0,0⟩) h5<muv (.slice pA r pc::I (c:Int)::qc wd0) hp2)
 (fin:k<n->∀ h' g' o' rb' A' c' wd',g.le g'->Mt h' g' o' bo rb' n w (elimE (fun i=>R (xch r k i)) r c)->OwnSl o' E7 A' c' (zs (l++[c]))->Ry bo rb' n A'->NQ g' wd' ((if k=r then q else -q)*R k c)->Invv (.slice A' (r+1) c'::I (B4 ((c:Int)+1))::qc wd') h'/\muv (.slice A' (r+1) c'::I (B4 ((c:Int)+1))::qc wd') h'<muv (.slice pA r pc::I (c:Int)::qc wd0) hp2):
 Ii Tryz.prog (some ⟨bo,0,none⟩) n Invv muv pA r pc (c:Int) wd0.s wd0.A wd0.n wd0.c wd0.s2 wd0.A2 wd0.n2 wd0.c2 (k:Int) hp2 h5:=by
 unfold Ii
 refine D8 (fun e=>fin0 (by omega)) (fun hne=>?_)
 have hkn:k<n:=by omega
 have hxn:∀ i,i<n->xch r k i<n:=fun i hi=>Pc hr hkn hi
 have xk:xch r k r=k:=Up _ _
 refine ⟨fun L hq=>∃ (g2 o2:Heap) (rb2:Nat->Nat) (wd:QV),L=qc wd/\g.le g2/\Mt hq g2 o2 bo rb2 n w (fun i=>R (xch r k i))/\OwnSl o2 E7 pA pc (zs l)/\Ry bo rb2 n pA/\NQ g2 wd (if k=r then q else -q),?_,?_⟩
 ·refine N4 (fun hne2=>?_) (fun heq2=>?_)
  ·have hne':k≠r:=by omega
   obtain ⟨c1,hc1,k1⟩:=t.head hr
   obtain ⟨c2,hc2,k2⟩:=t.head hkn
   refine ⟨_,rfl,by omega,by omega,_,_,_,t.sep.cell k1,_,rfl,by omega,by omega,_,_,_,t.sep.cell k2,_,rfl,by omega,by omega,?_⟩
   refine t.swap hr hkn A2o k1 k2 hc1 hc2 (fun h6 hst=>⟨_,rfl,by omega,by omega,hst (fun h7 o7 t7 ko7=>?_)⟩)
   refine t7.sep.call (Yl iq (fun wd3 i3 h8 s8=>⟨_,_,_,_,_,_,_,_,rfl,?_⟩))
   refine ⟨g,o7,_,wd3,rfl,B3 _,t7.next s8 (B3 _),ow.keep fun b x hA e=>?_,⟨ap.1,fun i hi=>ap.2 _ (hxn i hi)⟩,by rw [if_neg hne'];exact i3⟩
   rw [ko7 b (fun e=>ap.1 (by rw [<- e];exact hA))];exact e
  ·have heq':k=r:=by omega
   refine ⟨g,o,rb,wd0,rfl,B3 _,t.congr (fun i j _ _=>?_),ow,ap,by rw [if_pos heq'];exact iq⟩
   rw [heq'];unfold xch;grind
 rintro e0 e1A e1n e1c e2 e3A e3n e3c h9 ⟨g2,o2,rb2,wd3,eL2,lg2,t2,ow2,ap2,iq2⟩
 obtain ⟨rfl,_⟩:=B6n eL2
 have hq2:Sz B (if k=r then q else -q):=by
  split
  ·exact hq
  ·exact hq.neg
 refine B9b (wd:=⟨e0,e1A,e1n,e1c,e2,e3A,e3n,e3c⟩) hl t2 ow2 ap2 iq2 hr hcw hn hw hB1 hq2 (fun a b ha hb=>hR _ b (hxn a ha) hb) hB ?_
 intro h' g' o' A' c' wd' lg' t' ow' ap' iq'
 rw [xk] at iq'
 exact fin hkn h' g' o' rb2 A' c' wd' (A0 lg2 lg') t' ow' ap' iq'
end
section
variable {h:Heap} {K:Value->Heap->Prop} {A:Option Addr} {n cap m w:Nat} {M:Nat->Nat->Rat}
theorem Vq{cols:Nat}(rs:RowsV h A n w M)(hn1:1<=n)(hn:n<=10000)(hw1:1<=w)(hw:w<=10000)(hc:cols<=w)(hm1:1<=m)(hs:∀ i j,i<n->j<w->Sz m (M i j))(hm:7^cols*m<=100000000)
 (hK:∀ h' g' o' bo rb c' A' cap' wd,h.le g'->Mt h' g' o' bo rb n w (ecE M n cols).R->OwnSl o' E7 A' cap' (zs (ecE M n cols).cs)->Ry bo rb n A'->NQ g' wd (A7x M n cols)->
  K (.tuple #[.slice (some ⟨bo,0,none⟩) n c',.slice A' (ecE M n cols).cs.length cap',wd.v]) h'):FCall Tryz.prog Lx #[.slice A n cap,I (cols:Int)] h K:=by
 refine A2g _ _ _ _ ?_
 unfold A3r
 refine A4g rs (by omega) hw1 (by omega) hn1 ?_
 intro h1 g1 o1 bo rb0 c0 lg1 t1
 refine ⟨_,_,_,rfl,t1.sep.call (B6m ⟨by omega,by omega⟩ ?_)⟩
 intro wd g2 l2 id h2 s2
 have one:((1:Int):Rat)=1:=rfl
 rw [one] at id
 refine ⟨_,_,_,_,_,_,_,_,rfl,fun L hp=>∃ (c:Nat) (g o:Heap) (rb:Nat->Nat) (A':Option Addr) (cap':Nat) (wd:QV),c<=cols/\L= .slice A' (ecE M n c).cs.length cap'::I (c:Int)::qc wd/\h.le g/\Mt hp g o bo rb n w (ecE M n c).R/\OwnSl o E7 A' cap' (zs (ecE M n c).cs)/\Ry bo rb n A'/\NQ g wd (ecE M n c).det,fun L _=>cols-(iAt L 1).toNat,
  ⟨0,g2,o1,rb0,none,0,wd,by omega,rfl,A0 lg1 l2,t1.next s2 l2,(OwnSl.nil:OwnSl o1 E7 none 0 ([]:List Int)),⟨by simp,fun i hi=>by simp⟩,id⟩,?_⟩
 rintro pA pn pc z d0 d1A d1n d1c d2 d3A d3n d3c hp ⟨c,g,o,rb,A',cap',wd2,hcc,eL,lg,t,ow,ap,iq⟩
 simp only [List.cons.injEq,Value.int.injEq,Value.slice.injEq,true_and] at eL
 obtain ⟨⟨rfl,rfl,rfl⟩,rfl,eL⟩:=eL
 obtain ⟨rfl,_⟩:=B6n (by simpa only [List.cons.injEq,Value.bool.injEq,Value.slice.injEq,and_true] using eL:(.bool d0:Value) :: .slice d1A d1n d1c :: .bool d2 :: .slice d3A d3n d3c::[]= .bool wd2.s :: .slice wd2.A wd2.n wd2.c :: .bool wd2.s2 :: .slice wd2.A2 wd2.n2 wd2.c2::[])
 have hlen:=Wo M n c
 have fin:∀ (he:ecE M n cols=ecE M n c),Br (decide ((((ecE M n c).cs.length:Nat):Int)<(cols:Int))) (K (.tuple #[.slice (some ⟨bo,0,none⟩) n c0,.slice pA (ecE M n c).cs.length pc,.agg #[.bool false,.slice none 0 0,.bool false,.slice none 0 0]]) hp)
  (K (.tuple #[.slice (some ⟨bo,0,none⟩) n c0,.slice pA (ecE M n c).cs.length pc,.agg #[.bool d0,.slice d1A d1n d1c,.bool d2,.slice d3A d3n d3c]]) hp):=by
  intro he
  rw [<- he] at t ow iq ⊢
  refine B8 (fun hlt=>?_) (fun hge=>?_)
  ·have e:A7x M n cols=0:=by unfold A7x;rw [if_pos (by omega)]
   exact hK hp g o bo rb c0 pA pc ⟨false,none,0,0,false,none,0,0⟩ lg t ow ap (by rw [e];exact NQ.zero)
  ·have e:A7x M n cols=(ecE M n cols).det:=by unfold A7x;rw [if_neg (by omega)]
   exact hK hp g o bo rb c0 pA pc ⟨d0,d1A,d1n,d1c,d2,d3A,d3n,d3c⟩ lg t ow ap (by rw [e];exact iq)
 refine B8 (fun hlt=>?_) (fun hge=>fin (by have:c=cols:=by omega
                                           rw [this]))
 have hccl:c<cols:=by omega
 have hcw:c<w:=by omega
 refine B8 (fun hfull=>?_) (fun hfull=>fin (by
  have:=A6f (n:=n) (s:=⟨M,[],1⟩) (c:=c) (by show n<=(ecE M n c).cs.length;omega) (cols-c)
  rw [show c+(cols-c)=cols by omega] at this
  exact this))
 have hrn:(ecE M n c).cs.length<n:=by omega
 have hsz:=(SzE.run (n:=n) (w:=w) (m:=m) (s:=⟨M,[],1⟩) ⟨fun a b ha hb=>by show Sz (7^0*m) (M a b);rw [Nat.pow_zero,Nat.one_mul];exact hs a b ha hb,by show Sz (7^0*m) 1;rw [Nat.pow_zero,Nat.one_mul];exact Sz.int (z:=1) (ZB.one hm1) hm1,Nat.zero_le _⟩ hm1 c (by omega))
 have hszc:SzE n w m (ecE M n c):=hsz
 have hstep:ecE M n (c+1)=Hm n c (ecE M n c):=rfl
 have hp7:7^(ecE M n c).cs.length*m*7<=7^cols*m:=by
  have h1:7^(ecE M n c).cs.length*7<=7^cols:=by rw [<- Nat.pow_succ];exact Nat.pow_le_pow_right (by decide) (by omega)
  calc 7^(ecE M n c).cs.length*m*7=7^(ecE M n c).cs.length*7*m:=by rw [Nat.mul_assoc,Nat.mul_comm m 7,<- Nat.mul_assoc]
   _<=7^cols*m:=Nat.mul_le_mul_right _ h1
 have hB1:=A2x (ecE M n c).cs.length m hm1
 obtain ⟨r1,r2,r3,r4⟩:=A42 n c (ecE M n c) hszc.len
 have ewc:B4 ((c:Int)+1)=((c+1:Nat):Int):=by rw [B5]<;>omega
 generalize hst:ecE M n c=st at *
 generalize hB:7^st.cs.length*m=B at *
 refine ⟨fun L hq=>L=[I ((Gi n c st:Nat):Int)]/\hq=hp,⟨fun L hq=>∃ k:Nat,st.cs.length<=k/\k<=Gi n c st/\L=[I (k:Int)]/\hq=hp,fun L _=>n-(iAt L 0).toNat,⟨st.cs.length,Nat.le_refl _,r1,rfl,rfl⟩,?_⟩,?_⟩
 ·rintro z hq ⟨k,hk1,hk2,eL,rfl⟩
  obtain rfl:z=(k:Int):=by simpa using eL
  refine B8 (fun hlt=>?_) (fun hge=>⟨by have:k=Gi n c st:=by omega
                                        rw [this],rfl⟩)
  have hkn:k<n:=by omega
  obtain ⟨ch,hch,hcell⟩:=t.head hkn
  obtain ⟨x,ix,x0,x1,x2,x3⟩:=t.elem hkn hcw
  refine ⟨_,rfl,by omega,by omega,_,_,_,t.sep.cell hcell,_,rfl,by omega,by omega,_,_,_,_,_,_,_,_,t.sep.cell x0,t.sep.cell x1,t.sep.cell x2,t.sep.cell x3,?_⟩
  refine Lf (ix.mono t.sep.le) ⟨_,rfl,D8 (fun e=>?_) (fun e=>?_)⟩
  ·have e0:st.R k c=0:=by rw [Int.sign_eq_zero_iff_zero] at e;exact Rat.num_eq_zero.1 e
   have hlt2:k<Gi n c st:=by
    by_cases hx:k<Gi n c st
    ·exact hx
    ·exfalso
     have hk3:k=Gi n c st:=by omega
     exact r3 (by omega) (by rw [<- hk3];exact e0)
   rw [show B4 ((k:Int)+1)=((k+1:Nat):Int) by rw [B5]<;>omega]
   exact ⟨⟨k+1,by omega,by omega,rfl,rfl⟩,by simp only [Hu];omega⟩
  ·have e0:st.R k c≠0:=fun h=>e (by rw [h];rfl)
   have:k=Gi n c st:=by
    by_cases hx:k<Gi n c st
    ·exact absurd (r4 k hk1 hx) e0
    ·omega
   exact ⟨by rw [this],rfl⟩
 rintro k1 hq ⟨eL,rfl⟩
 obtain rfl:k1=((Gi n c st:Nat):Int):=by simpa using eL
 refine B9c (B:=B) (wd0:=⟨d0,d1A,d1n,d1c,d2,d3A,d3n,d3c⟩) rfl t ow ap iq hrn r2 hcw hn hw hB1 (by rw [<- hB];exact hszc.det) (fun a b ha hb=>by rw [<- hB];exact hszc.R a b ha hb) (by omega) (fun hno=>?_) (fun hrr=>?_)
 ·have hs':Hm n c st={ st with det:=0 }:=by unfold Hm;rw [if_pos hrn,if_neg (by omega)]
  rw [ewc]
  refine ⟨⟨c+1,g,o,rb,pA,pc,⟨false,none,0,0,false,none,0,0⟩,by omega,?_,lg,?_⟩,?_⟩
  ·rw [hstep,hs']
  ·rw [hstep,hs'];exact ⟨t,ow,ap,NQ.zero⟩
  ·show cols-((c+1:Nat):Int).toNat<cols-((c:Nat):Int).toNat
   omega
 ·intro h' g' o' rb' A6 c6 wd' lg' t' ow' ap' iq'
  have hs':Hm n c st={ R:=elimE (fun i=>st.R (xch st.cs.length (Gi n c st) i)) st.cs.length c,cs:=st.cs++[c],det:=(if Gi n c st=st.cs.length then st.det else-st.det)*st.R (Gi n c st) c }:=by unfold Hm;rw [if_pos hrn,if_pos hrr]
  have elen:(st.cs++[c]).length=st.cs.length+1:=by simp
  rw [ewc]
  refine ⟨⟨c+1,g',o',rb',A6,c6,wd',by omega,?_,A0 lg lg',?_⟩,?_⟩
  ·rw [hstep,hs',elen]
  ·rw [hstep,hs'];exact ⟨t',ow',ap',iq'⟩
  ·show cols-((c+1:Nat):Int).toNat<cols-((c:Nat):Int).toNat
   omega
end
section
variable {h:Heap} {K:Value->Heap->Prop} {A B:Option Addr} {n m a b:Nat} {r c r2 c2:Int} {ls ls2:Nat->List UInt8}
theorem A1j{k:Int}(r:RowV SSr h A n ls)(hn:n<=1000000000)(hK1:(∀ i,i<n->((ls i).length:Int)<=k)->K (.bool true) h)(hK0:¬ (∀ i,i<n->((ls i).length:Int)<=k)->K (.bool false) h):FCall Tryz.prog Wi #[I k,.slice A n a] h K:=by
 refine A9p _ _ _ _ ?_
 unfold B3u
 refine ⟨fun L hp=>∃ i:Nat,i<=n/\L=[I (i:Int)]/\hp=h/\∀ j,j<i->((ls j).length:Int)<=k,fun L _=>n-(iAt L 0).toNat,⟨0,by omega,rfl,rfl,fun j hj=>by omega⟩,?_⟩
 rintro z hp ⟨i,hi,eL,rfl,hh⟩
 obtain rfl:z=(i:Int):=by simpa using eL
 refine B8 (fun hlt=>?_) (fun hge=>?_)
 ·have hin:i<n:=by omega
  obtain ⟨x,rfl,hc⟩:=r.sat hin
  refine ⟨x,rfl,by omega,by omega,_,hc,?_⟩
  rw [I5]
  refine B8 (fun e=>hK0 fun hx=>by have:=hx i hin;omega) (fun e=>?_)
  rw [show B4 ((i:Int)+1)=((i+1:Nat):Int) by rw [B5]<;>omega]
  refine ⟨⟨i+1,by omega,rfl,rfl,fun j hj=>?_⟩,by simp only [Hu];omega⟩
  by_cases e2:j=i
  ·subst e2;omega
  ·exact hh j (by omega)
 ·have:i=n:=by omega
  subst this
  exact hK1 hh
theorem Jk(x:RowV SSr h A n ls)(y:RowV SSr h B m ls2)(hn:n<=1000000000)(hK1:n=m->(∀ i,i<n->ls i=ls2 i)->K (.bool true) h)(hK0:¬ (n=m/\∀ i,i<n->ls i=ls2 i)->K (.bool false) h):FCall Tryz.prog Gt #[.slice A n a,.slice B m b] h K:=by
 refine A2e _ _ _ _ _ _ ?_
 unfold A3p
 refine N4 (fun e=>hK0 fun hx=>e (by omega)) (fun e=>?_)
 have e:n=m:=by omega
 subst e
 refine ⟨fun L hp=>∃ i:Nat,i<=n/\L=[I (i:Int)]/\hp=h/\∀ j,j<i->ls j=ls2 j,fun L _=>n-(iAt L 0).toNat,⟨0,by omega,rfl,rfl,fun j hj=>by omega⟩,?_⟩
 rintro z hp ⟨i,hi,eL,rfl,hh⟩
 obtain rfl:z=(i:Int):=by simpa using eL
 refine B8 (fun hlt=>?_) (fun hge=>?_)
 ·have hin:i<n:=by omega
  obtain ⟨u,rfl,hc⟩:=x.sat hin
  obtain ⟨v,rfl,hd⟩:=y.sat hin
  refine ⟨u,rfl,by omega,by omega,_,hc,v,rfl,by omega,by omega,_,hd,?_⟩
  rw [No]
  refine Br.not (B8 (fun e=>?_) (fun e=>hK0 fun hx=>e (hx.2 i hin)))
  rw [show B4 ((i:Int)+1)=((i+1:Nat):Int) by rw [B5]<;>omega]
  refine ⟨⟨i+1,by omega,rfl,rfl,fun j hj=>?_⟩,by simp only [Hu];omega⟩
  by_cases e2:j=i
  ·subst e2;exact e
  ·exact hh j (by omega)
 ·have:i=n:=by omega
  subst this
  exact hK1 rfl hh
theorem A8y{xs:List Int}(s:SlF h A xs){i:Nat}(hi:i<xs.length):∃ x,A=some x/\h.cell? (Addr.add x (i*1))=some (I xs[i]):=by
 obtain ⟨x,e,hc⟩:=SlF.at (by decide) s hi
 have:=hc 0 _ rfl
 rw [Kl] at this
 exact ⟨x,e,this⟩
theorem Tm{xs ys:List Int}(x:SlF h A xs)(y:SlF h B ys)(hn:n=xs.length)(hm:m=ys.length)(hb:n<=1000000000)(hK1:xs=ys->K (.bool true) h)(hK0:xs≠ys->K (.bool false) h):FCall Tryz.prog Wj #[.slice A n a,.slice B m b] h K:=by
 refine B29 _ _ _ _ _ _ ?_
 unfold B83
 refine N4 (fun e=>hK0 fun hx=>e (by rw [hn,hm,hx])) (fun e=>?_)
 have e:n=m:=by omega
 subst e
 refine ⟨fun L hp=>∃ i:Nat,i<=n/\L=[I (i:Int)]/\hp=h/\∀ j,j<i->xs[j]? = ys[j]?,fun L _=>n-(iAt L 0).toNat,⟨0,by omega,rfl,rfl,fun j hj=>by omega⟩,?_⟩
 rintro z hp ⟨i,hi,eL,rfl,hh⟩
 obtain rfl:z=(i:Int):=by simpa using eL
 refine B8 (fun hlt=>?_) (fun hge=>?_)
 ·have h1:i<xs.length:=by omega
  have h2:i<ys.length:=by omega
  obtain ⟨u,rfl,hc⟩:=A8y x h1
  obtain ⟨v,rfl,hd⟩:=A8y y h2
  refine ⟨u,rfl,by omega,by omega,_,hc,v,rfl,by omega,by omega,_,hd,?_⟩
  refine N4 (fun e=>hK0 fun hx=>e (by simp only [hx])) (fun e=>?_)
  rw [show B4 ((i:Int)+1)=((i+1:Nat):Int) by rw [B5]<;>omega]
  refine ⟨⟨i+1,by omega,rfl,rfl,fun j hj=>?_⟩,by simp only [Hu];omega⟩
  by_cases e2:j=i
  ·subst e2;rw [List.getElem?_eq_getElem h1,List.getElem?_eq_getElem h2,e]
  ·exact hh j (by omega)
 ·have:i=n:=by omega
  subst this
  refine hK1 (List.ext_getElem? fun j=>?_)
  by_cases hj:j<i
  ·exact hh j hj
  ·rw [List.getElem?_eq_none (by omega),List.getElem?_eq_none (by omega)]
theorem Bl(x:RowV SSr h A n ls)(y:RowV SSr h B m ls2)(hn:n<=1000000000)(hK1:r=r2->c=c2->n=m->(∀ i,i<n->ls i=ls2 i)->K (.bool true) h)(hK0:¬ (r=r2/\c=c2/\n=m/\∀ i,i<n->ls i=ls2 i)->K (.bool false) h):FCall Tryz.prog As #[Oc r c A n a,Oc r2 c2 B m b] h K:=by
 refine A0f _ _ _ _ _ _ _ _ _ _ ?_
 unfold A0g
 refine D8 (fun e1=>D8 (fun e2=>?_) (fun e=>hK0 fun hx=>e hx.2.1)) (fun e=>hK0 fun hx=>e hx.1)
 exact Jk x y hn (fun h1 h2=>⟨_,rfl,hK1 e1 e2 h1 h2⟩) (fun hx=>⟨_,rfl,hK0 fun hy=>hx hy.2.2⟩)
structure Small (r c:Int) (n:Nat) (ls:Nat->List UInt8) (k d:Int):Prop where
 hr:r<=k
 hc:c<=k
 hn:(n:Int)<=k*k+2
 hl:∀ i,i<n->((ls i).length:Int)<=d
theorem A1i{k d:Int}(x:RowV SSr h A n ls)(hk:0<=k/\k<=1000)(hK1:Small r c n ls k d->K (.bool true) h)(hK0:¬ Small r c n ls k d->K (.bool false) h):FCall Tryz.prog Bn #[Oc r c A n a,I k,I d] h K:=by
 refine Ru _ _ _ _ _ _ _ ?_
 unfold Nv
 have hkk:k*k<=1000*1000:=Int.mul_le_mul hk.2 hk.2 hk.1 (by omega)
 have hkk0:0<=k*k:=Int.mul_nonneg hk.1 hk.1
 have e1:B4 (k*k)=k*k:=B5 (by omega) (by omega)
 have e2:B4 (k*k+2)=k*k+2:=B5 (by omega) (by omega)
 rw [e1,e2]
 refine B8 (fun h1=>B8 (fun h2=>B8 (fun h3=>?_) (fun e=>hK0 fun x=>e x.hn)) (fun e=>hK0 fun x=>e x.hc)) (fun e=>hK0 fun x=>e x.hr)
 exact A1j x (by omega) (fun hx=>⟨_,rfl,hK1 ⟨h1,h2,h3,hx⟩⟩) (fun hx=>⟨_,rfl,hK0 fun y=>hx y.hl⟩)
theorem A1g(x:RowV SSr h A n ls)(hK1:Small r c n ls 6 12->K (.bool true) h)(hK0:¬ Small r c n ls 6 12->K (.bool false) h):FCall Tryz.prog Wg #[Oc r c A n a] h K:=by
 refine A9m _ _ _ _ _ ?_
 unfold B3r
 exact A1i x (by omega) (fun hx=>⟨_,rfl,hK1 hx⟩) (fun hx=>⟨_,rfl,hK0 hx⟩)
end
theorem B15(ls:List (List UInt8)):(ls.flatMap fun l=>[Value.string (bs l)])=ls.map fun l=>Value.string (bs l):=by
 induction ls with
 | nil=>rfl
 | cons x l ih=>rw [List.flatMap_cons,ih];rfl
theorem Ja{h:Heap}{A:Option Addr}{ls:List (List UInt8)}(s:SlV h A (ls.map fun l=>Value.string (bs l))):RowV SSr h A ls.length (fun i=>ls.getD i []):=by
 refine ⟨ls,?_,rfl,fun i hi=>⟨ls[i],List.getElem?_eq_getElem hi,?_⟩⟩
 ·show SlV h A (ls.flatMap fun l=>[Value.string (bs l)])
  rw [B15];exact s
 ·show ls[i]=ls.getD i []
  simp [hi]
theorem Uy(l:List Rat):rvs (fun i=>(l.map L9).getD i [])=fun i=>l.getD i 0:=by
 funext i
 show rv ((l.map L9).getD i [])=_
 by_cases hi:i<l.length
 ·rw [List.getD_eq_getElem?_getD,List.getD_eq_getElem?_getD,List.getElem?_map,List.getElem?_eq_getElem hi]
  exact Nc _
 ·rw [List.getD_eq_getElem?_getD,List.getD_eq_getElem?_getD,List.getElem?_map,List.getElem?_eq_none (by omega)]
  exact B2j (by rintro ⟨q,hq⟩;exact absurd hq.symm (by
   have:=A5z q
   obtain ⟨c,r,e,_⟩:=this
   rw [e];simp))
theorem B43:L9 1=[49]:=by
 have:L5 1=[49]:=by decide +kernel
 simp [L9,Ik,this]
theorem B6f:L9 2=[50]:=by
 have:L5 2=[50]:=by decide +kernel
 have h1:(2:Rat).den=1:=by decide +kernel
 have h2:(2:Rat).num=2:=by decide +kernel
 simp [L9,Ik,this,h1,h2]
theorem B9k:L9 3=[51]:=by
 have:L5 3=[51]:=by decide +kernel
 have h1:(3:Rat).den=1:=by decide +kernel
 have h2:(3:Rat).num=3:=by decide +kernel
 simp [L9,Ik,this,h1,h2]
theorem B8b:L9 4=[52]:=by
 have:L5 4=[52]:=by decide +kernel
 have h1:(4:Rat).den=1:=by decide +kernel
 have h2:(4:Rat).num=4:=by decide +kernel
 simp [L9,Ik,this,h1,h2]
theorem B8u:L9 (-2)=[45,50]:=by
 have:L5 2=[50]:=by decide +kernel
 have h1:(-2:Rat).den=1:=by decide +kernel
 have h2:(-2:Rat).num= -2:=by decide +kernel
 simp [L9,Ik,this,h1,h2]
theorem aw1:(elE (fun i=>([2,4,1,2]:List Rat).getD i 0) 2 2 2).cs=[0]:=by decide +kernel
theorem aw2:∀ k,k<4->B2k (fun i=>([2,4,1,2]:List Rat).getD i 0) 2 2 k=([1,2,0,0]:List Rat).getD k 0:=by decide +kernel
theorem aw3:B68 (fun i=>([1,2,3,4]:List Rat).getD i 0) 2= -2:=by decide +kernel
theorem A4q{h:Heap}{K:Value->Heap->Prop}(gl:Gl h)(hK:∀ h',h.le h'->K (.bool true) h'):FCall Tryz.prog Gs #[] h K:=by
 refine A9n ?_
 unfold B3s
 have sz:∀ (ls:List (List UInt8)),(∀ x∈ls,x.length<=1)->∀ i,i<ls.length->(ls.getD i []).length<=1:=by
  intro ls h i hi
  rw [List.getD_eq_getElem?_getD,List.getElem?_eq_getElem hi]
  exact h _ (List.getElem_mem hi)
 refine A1h U2 (ls:=[2,4,1,2].map L9) rfl (by simp) (by rw [show ([2,4,1,2]:List Rat).map L9=[[50],[52],[49],[50]] by simp [B43,B6f,B8b]];rfl) ?_
 intro b1 h1 l1 s1
 have r1:=Ja s1
 have z1:=sz (([2,4,1,2]:List Rat).map L9) (by simp [B43,B6f,B8b])
 refine ⟨_,_,_,rfl,?_⟩
 have hb:∀ rows cols,MOk 2 2 4 (fun i=>(([2,4,1,2]:List Rat).map L9).getD i []) rows cols->2*(3^cols*bnd cols 4)+1<=40000000:=by
  intro rows cols mk
  have:=mk.ec
  have:cols=2:=by omega
  subst this
  decide
 refine Es (m:=4) (gl.mono l1) r1 (by simp) (fun i hi=>Nat.le_trans (z1 i hi) (by omega)) (fun i hi=>B4e (k:=1) (z1 i hi) (by omega)) hb ?_ ?_
 ·intro rows cols mk b2 h2 A' cap' own
  have e1:=mk.er;have e2:=mk.ec
  have:rows=2:=by omega
  subst this
  have:cols=2:=by omega
  subst this
  have lo:=own.le
  have so:=own.strs
  have io:=own.ints
  rw [Uy] at so io
  rw [aw1] at io
  refine ⟨_,_,_,_,_,_,_,_,_,rfl,?_⟩
  rw [Uy,aw1]
  refine A1h U2 (ls:=[1,2,3,4].map L9) rfl (by simp) (by rw [show ([1,2,3,4]:List Rat).map L9=[[49],[50],[51],[52]] by simp [B43,B6f,B9k,B8b]];rfl) ?_
  intro b3 h3 l3 s3
  have r3:=Ja s3
  have z3:=sz (([1,2,3,4]:List Rat).map L9) (by simp [B43,B6f,B9k,B8b])
  refine ⟨_,_,_,rfl,?_⟩
  have l13:=A0 l1 (A0 lo l3)
  have num3:Mx 2 2 4 (fun i=>(([1,2,3,4]:List Rat).map L9).getD i []):=by
   refine Kx.2 ⟨⟨by omega,by omega,by omega,by omega,by omega⟩,fun i hi=>?_⟩
   have hi':i<([1,2,3,4]:List Rat).length:=hi
   exact ⟨([1,2,3,4]:List Rat)[i],by rw [List.getD_eq_getElem?_getD,List.getElem?_map,List.getElem?_eq_getElem hi'];rfl⟩
  refine A73 (m:=4) (gl.mono l13) r3 (by simp) (fun i hi=>Nat.le_trans (z3 i hi) (by omega)) (fun i hi=>B4e (k:=1) (z3 i hi) (by omega)) ?_ ?_ (fun _ e=>absurd rfl e) (fun hno=>absurd num3 hno)
  ·intro rows cols mk
   have:=mk.ec
   have:cols=2:=by omega
   subst this
   decide
  ·intro q mk h4 l4
   have:q=2:=by have:=mk.er;omega
   subst this
   rw [Uy,aw3]
   refine ⟨_,_,rfl,D8 (fun _=>?_) (fun e=>absurd rfl e)⟩
   refine A1h U2 (ls:=[1,2,0,0].map L9) rfl (by simp) (by rw [show ([1,2,0,0]:List Rat).map L9=[[49],[50],[48],[48]] by simp [B43,B6f,Xz]];rfl) ?_
   intro b5 h5 l5 s5
   have r5:=Ja s5
   refine ⟨_,_,_,rfl,?_⟩
   have l25:=A0 l3 (A0 l4 l5)
   refine Jk (so.mono Ah l25) r5 (by simp) (fun _ _=>⟨_,rfl,?_⟩) (fun hno=>absurd ⟨rfl,fun i hi=>?_⟩ hno)
   ·refine T2 B4a rfl ?_
    intro b6 h6
    refine ⟨_,_,_,rfl,?_⟩
    have l6:=Heap.le_put (.cells #[I (0:Int)] E7) h6
    refine Tm (io.1.mono (A0 l25 l6)) (Wu E7 h5 b6 ([0]:List Int)) rfl rfl (by simp) (fun _=>⟨_,rfl,?_⟩) (fun hno=>absurd rfl hno)
    have:(ByteArray.toList (bs (L9 (-2)))==ByteArray.toList ({ data:=#[45,50] }:ByteArray))=true:=by
     rw [B8u]
     exact (No _ _).trans (by decide)
    rw [this]
    have:=hK _ (A0 l13 (A0 l4 (A0 l5 l6)))
    exact this
   ·show L9 (B2k (fun i=>([2,4,1,2]:List Rat).getD i 0) 2 2 i)=(([1,2,0,0]:List Rat).map L9).getD i []
    have hi':i<([1,2,0,0]:List Rat).length:=hi
    rw [aw2 i hi,List.getD_eq_getElem?_getD,List.getD_eq_getElem?_getD,List.getElem?_map,List.getElem?_eq_getElem hi']
    rfl
 ·intro hno
  exfalso
  refine hno (Kx.2 ⟨⟨by omega,by omega,by omega,by omega,by simp⟩,fun i hi=>?_⟩)
  have hi':i<([2,4,1,2]:List Rat).length:=hi
  exact ⟨([2,4,1,2]:List Rat)[i],by rw [List.getD_eq_getElem?_getD,List.getElem?_map,List.getElem?_eq_getElem hi'];rfl⟩
section
variable {h:Heap} {K:Value->Heap->Prop} {A B:Option Addr} {n cap m:Nat} {r c:Int} {ls:Nat->List UInt8}
theorem B6r{E:Nat->Rat}{rows cols:Nat}(hs:∀ i,i<rows*cols->Sz m (E i)):∀ i j,i<rows->j<cols->Sz m (mtx E cols i j):=fun _ _ hi hj=>hs _ (Jn hi hj)
theorem B78{M:Nat->Nat->Rat}{n w c:Nat}(hs:∀ i j,i<n->j<w->Sz m (M i j))(hm:1<=m)(hc:c<=w){b:Nat}(hb:7^c*m<=b):(∀ i j,i<n->j<w->Sz b ((ecE M n c).R i j))/\Sz b (ecE M n c).det:=by
 have z:SzE n w m ⟨M,[],1⟩:=⟨fun i j hi hj=>by simpa using hs i j hi hj,by simpa using (⟨ZB.one hm,ZB.one hm⟩:Sz m 1),Nat.zero_le _⟩
 have y:=z.run hm c hc
 have hl:=(Wo M n c).1
 have hle:7^(ecE M n c).cs.length*m<=7^c*m:=Nat.mul_le_mul_right _ (Nat.pow_le_pow_right (by decide) hl)
 exact ⟨fun i j hi hj=>(y.R i j hi hj).mono (by show 7^(ecE M n c).cs.length*m<=b;omega),y.det.mono (by show 7^(ecE M n c).cs.length*m<=b;omega)⟩
theorem Zd(rv':RowV SSr h A n ls)(hn:n<=1000000)(hl:∀ i,i<n->(ls i).length<=100000000)(hs:∀ i,i<n->Sz m (rv (ls i)))(hm1:1<=m)(hb:∀ rows cols,MOk r c n ls rows cols->7^cols*m<=100000000)
 (hK1:∀ rows cols,MOk r c n ls rows cols->∀ h' A' c' A2 cap2,h.le h'->RowV SSr h' A' n (fun k=>L9 (B2k (rvs ls) rows cols k))->SlF h' A2 (zs (elE (rvs ls) rows cols cols).cs)->K (.tuple #[Oc r c A' n c',.slice A2 (elE (rvs ls) rows cols cols).cs.length cap2,I 0]) h')
 (hK0:¬ Mx r c n ls->∀ h',h.le h'->K (.tuple #[Oc 0 0 none 0 0,.slice none 0 0,I 1]) h'):FCall Tryz.prog Qj #[Oc r c A n cap] h K:=by
 refine A5e _ _ _ _ _ ?_
 unfold A9r
 refine A4e rv' hn hl (fun rows cols mk b h1 l1 rs=>⟨_,_,_,_,rfl,?_⟩) (fun hno h' l=>⟨_,_,_,_,rfl,hK0 hno h' l⟩)
 have hb':=hb rows cols mk
 have:=mk.r1;have:=mk.r2;have:=mk.c1;have:=mk.c2
 obtain ⟨rfl,rfl,_,_,_,_,rfl,_⟩:=id mk
 have ms:=B6r hs
 refine Vq (m:=m) rs (by omega) (by omega) (by omega) (by omega) (Nat.le_refl _) hm1 ms hb' ?_
 intro h2 g2 o2 bo rb c2 A2 cap2 wd l2 t ow ap iq
 refine ⟨_,_,_,_,_,_,_,_,_,_,_,_,_,_,rfl,?_⟩
 obtain ⟨sz,_⟩:=B78 (n:=rows) (w:=cols) (c:=cols) ms hm1 (Nat.le_refl _) (Nat.le_refl _)
 generalize 7^cols*m=bb at sz hb'
 refine A4f (m:=bb) t.rowsV (by omega) (by omega) (by omega) (by omega) sz (by omega) ?_
 intro A3 c3 h3 l3 hc3 r3
 refine ⟨_,_,_,_,_,rfl,?_⟩
 exact hK1 rows cols mk h3 A3 c3 A2 cap2 (A0 l1 (A0 l2 (A0 t.sep.le l3))) r3 ((ow.slF t.sep.ole).mono l3)
end
section
variable {h:Heap} {K:Value->Heap->Prop} {A:Option Addr} {n cap m w:Nat} {r c:Int} {ls:Nat->List UInt8} {M:Nat->Nat->Rat}
end
section
variable {h:Heap} {K:Value->Heap->Prop} {A:Option Addr} {n cap m w:Nat} {r c:Int} {ls:Nat->List UInt8} {R:Nat->Nat->Rat}
theorem A54{α:Type}[E:Enc α]{o:Heap}{b:Nat}{e:TypeId}{c:Nat}{zx:α}:OwnSl (o.put b (.cells ((List.replicate c zx).flatMap enc).toArray e)) e (some ⟨b,0,none⟩) c ([]:List α):=
 ⟨Nat.zero_le _,.inr ⟨b,_,rfl,C2 _ _ _,by rw [I7,List.length_replicate],by simp⟩⟩
def OwnS(h h':Heap)(A:Option Addr)(c n:Nat)(f:Nat->List UInt8):Prop:=∃ g o xs,h.le g/\Sep h' g o/\OwnSl o H9 A c xs/\xs.length=n/\Row SSr g xs n f
theorem OwnS.le{h h':Heap}{c n:Nat}{f:Nat->List UInt8}(w:OwnS h h' A c n f):h.le h':=by
 obtain ⟨g,o,xs,lg,s,_⟩:=w
 exact A0 lg s.le
theorem OwnS.vis{h h':Heap}{c n:Nat}{f:Nat->List UInt8}(w:OwnS h h' A c n f):RowV SSr h' A n f:=by
 obtain ⟨g,o,xs,lg,s,ow,e,q⟩:=w
 exact ⟨xs,ow.slF s.ole,e,q.mono Ah s.le⟩
theorem OwnS.weak{h0 h h':Heap}{c n:Nat}{f:Nat->List UInt8}(l:h0.le h)(w:OwnS h h' A c n f):OwnS h0 h' A c n f:=by
 obtain ⟨g,o,xs,lg,x⟩:=w
 exact ⟨g,o,xs,A0 l lg,x⟩
end
theorem Br.nt{X Y:Prop}(y:Y):Br (!true) X Y:=y
theorem B87{X Y:Prop}(x:X):Br (!false) X Y:=x
theorem RowX.qcells{o:Heap}{b:Nat}{ys:List QV}(r:RowX o b ys){i:Nat}(hi:i<ys.length):o.cell? (Addr.add (Addr.add ⟨b,0,none⟩ (i*4)) 0)=some (.bool ys[i].s)/\o.cell? (Addr.add (Addr.add ⟨b,0,none⟩ (i*4)) 1)=some (.slice ys[i].A ys[i].n ys[i].c)/\o.cell? (Addr.add (Addr.add ⟨b,0,none⟩ (i*4)) 2)=some (.bool ys[i].s2)/\o.cell? (Addr.add (Addr.add ⟨b,0,none⟩ (i*4)) 3)=some (.slice ys[i].A2 ys[i].n2 ys[i].c2):=by
 obtain ⟨x,e,hc⟩:=SlF.at (by decide) (r.rowB.slF (B3 o)) hi
 simp only [Option.some.injEq] at e
 subst e
 exact ⟨hc 0 _ rfl,hc 1 _ rfl,hc 2 _ rfl,hc 3 _ rfl⟩
structure MOut where
 r:Int
 c:Int
 n:Nat
 f:Nat->List UInt8
 e:Int
def noM(e:Int):MOut:=⟨0,0,0,fun _=>[],e⟩
def CombO(r c:Int)(n:Nat)(la:Nat->List UInt8)(r2 c2:Int)(n2:Nat)(lb:Nat->List UInt8)(q:Rat)(o:MOut):Prop:=
 (¬ (Mx r c n la/\Mx r2 c2 n2 lb)/\o=noM 1)\/(Mx r c n la/\Mx r2 c2 n2 lb/\(r≠r2\/c≠c2)/\o=noM 4)\/(Mx r c n la/\Mx r2 c2 n2 lb/\r=r2/\c=c2/\o=⟨r,c,n,fun k=>L9 (rv (la k)+q*rv (lb k)),0⟩)
theorem CombO.eq{r c r2 c2:Int}{n n2:Nat}{la lb:Nat->List UInt8}{q:Rat}{o p:MOut}(x:CombO r c n la r2 c2 n2 lb q o)(y:CombO r c n la r2 c2 n2 lb q p):o=p:=by
 rcases x with ⟨h1,rfl⟩|⟨h1,h2,h3,rfl⟩|⟨h1,h2,h3,h4,rfl⟩<;>rcases y with ⟨g1,rfl⟩|⟨g1,g2,g3,rfl⟩|⟨g1,g2,g3,g4,rfl⟩<;>first|rfl|(exfalso;exact h1 ⟨g1,g2⟩)|(exfalso;exact g1 ⟨h1,h2⟩)|(exfalso;omega)
def ScalO(s:List UInt8)(r c:Int)(n:Nat)(la:Nat->List UInt8)(o:MOut):Prop:=
 (¬ (IsNum s/\Mx r c n la)/\o=noM 1)\/(IsNum s/\Mx r c n la/\o=⟨r,c,n,fun k=>L9 (rv s*rv (la k)),0⟩)
theorem ScalO.eq{s:List UInt8}{r c:Int}{n:Nat}{la:Nat->List UInt8}{o p:MOut}(x:ScalO s r c n la o)(y:ScalO s r c n la p):o=p:=by
 rcases x with ⟨h1,rfl⟩|⟨h1,h2,rfl⟩<;>rcases y with ⟨g1,rfl⟩|⟨g1,g2,rfl⟩<;>first|rfl|(exfalso;exact h1 ⟨g1,g2⟩)|(exfalso;exact g1 ⟨h1,h2⟩)
section
variable {h:Heap} {K:Value->Heap->Prop} {A B:Option Addr} {n n2 cap cap2 m w:Nat} {r c r2 c2:Int} {la lb:Nat->List UInt8}
end
section
variable {h:Heap} {K:Value->Heap->Prop} {A B:Option Addr} {n n2 cap cap2 m:Nat} {r c r2 c2:Int} {la lb:Nat->List UInt8} {w:QV} {q:Rat}
end
theorem C0s{X Y:Prop}(x:X):Br true X Y:=x
section
variable {h:Heap} {K:Value->Heap->Prop} {A B:Option Addr} {n n2 cap cap2 m:Nat} {r c r2 c2:Int} {la lb:Nat->List UInt8}
def TransO(r c:Int)(n:Nat)(ls:Nat->List UInt8)(o:MOut):Prop:=
 (∃ rows cols,MOk r c n ls rows cols/\o=⟨c,r,n,fun k=>ls (k%rows*cols+k/rows),0⟩)\/(¬ Mx r c n ls/\o=noM 1)
theorem TransO.eq{o p:MOut}(x:TransO r c n la o)(y:TransO r c n la p):o=p:=by
 rcases x with ⟨r1,c1,m1,rfl⟩|⟨h1,rfl⟩<;>rcases y with ⟨r2,c2,m2,rfl⟩|⟨g1,rfl⟩
 ·obtain rfl:r2=r1:=by have:=m1.er;have:=m2.er;omega
  obtain rfl:c2=c1:=by have:=m1.ec;have:=m2.ec;omega
  rfl
 ·exact absurd ⟨_,_,m1⟩ g1
 ·exact absurd ⟨_,_,m2⟩ h1
 ·rfl
end
theorem Zr{P:Program}{t e ty:TypeId}{z:Value}{size bytes:Nat}(st:SliceT P t e z size bytes){h g:Heap}{A:Option Addr}{n c:Nat}{xs:List Value}(p:Priv h g e size A n c xs)
 {B:Option Addr} {m d:Nat} {ys:List Value} (hy:ys.length=m*size) (hc:ys=[]\/∃ a,B=some a/\∀ j v,ys[j]? = some v->h.cell? (a.add j)=some v) (h1:∀ v∈ys,A1e v=true)
 (hfit:n+m<=c) {K:Value->Heap->Prop}
 (x:∀ h',Priv h' g e size A (n+m) c (xs++ys)->K (.slice A (n+m) c) h'):
 wpH P (Builtin.append_ #[t,t] ty #[.slice A n c,.slice B m d]) K h:=by
 obtain ⟨i,hi,hz,hsz,hby⟩:=st.parts
 have hposx:=st.pos
 unfold Builtin.append_
 simp only [List.getElem?_toArray,List.getElem?_cons_zero,List.getElem?_cons_succ,C5,E4 st.und,J9 hi,F5,Bool.false_eq_true,if_false,Builtin.lenOf,hsz,Bool.not_false,if_true]
 simp only [hfit,if_true,C5]
 refine J0 hy hc ?_
 rcases p.2.2 with ⟨hc0,hg⟩|⟨b,arr,hA,hgb,hh,hal,hat⟩
 ·
  have hn0:n=0:=by omega
  have hm0:m=0:=by omega
  subst hn0;subst hm0;subst hg
  have hys:ys=[]:=List.eq_nil_of_length_eq_zero (by simpa using hy)
  have hxs:xs=[]:=List.eq_nil_of_length_eq_zero (by simpa using p.1)
  subst hys;subst hxs
  have fin:K (.slice A (0+0) c) h:=x h ⟨by simp,by omega,.inl ⟨hc0,rfl⟩⟩
  cases A with
  | none=>exact fin
  | some a=>exact fin
 ·subst hA
  simp only [C5,D9,Nat.zero_add]
  rw [hh]
  refine H8 ys.toArray.toList (n*size) 0 arr ?_ (fun v hv=>h1 v (by simpa using hv)) ?_
  ·simp only
   rw [hy,hal]
   have:(n+m)*size<=c*size:=Nat.mul_le_mul_right _ hfit
   rw [Nat.add_mul] at this;omega
  ·simp only [F5,Nat.add_zero]
   refine x _ ⟨by rw [List.length_append,p.1,hy,Nat.add_mul],hfit,.inr ⟨b,_,rfl,hgb,rfl,?_,?_⟩⟩
   ·have:(n+m)*size<=c*size:=Nat.mul_le_mul_right _ hfit
    rw [Nat.add_mul] at this
    simp only [K4,List.length_append,List.length_take,List.length_drop,hal,hy];omega
   ·have:(n+m)*size<=c*size:=Nat.mul_le_mul_right _ hfit
    rw [Nat.add_mul] at this
    have hl1:(arr.take (n*size)).length=n*size:=by rw [List.length_take,hal];omega
    unfold K4
    have t1:(arr.take (n*size)).take (n*size+m*size)=arr.take (n*size):=List.take_of_length_le (by rw [hl1];omega)
    have t2:ys.take (m*size)=ys:=List.take_of_length_le (by omega)
    rw [Nat.add_mul,List.append_assoc,List.take_append,hl1,Nat.add_sub_cancel_left,List.take_append,t1,t2,hy,Nat.sub_self,List.take_zero,List.append_nil,hat]
section
variable {α:Type} [E:Enc α]
theorem Xh{P:Program}{t e ty:TypeId}{z:Value}{bytes:Nat}(st:SliceT P t e z E.default.size bytes){h g o:Heap}{A:Option Addr}{c n:Nat}{xs:List α}(s:Sep h g o)(w:OwnSl o e A c xs)(hxn:n=xs.length){v:Value}{y:α}(hv:v.cells=(enc y).toArray)(hsz:E.default.size<=1000)
 (hfit:xs.length+1<=c) {K:Option Addr->Nat->Nat->Heap->Prop}
 (x:∀ h' g' o',g.le g'->Sep h' g' o'->OwnSl o' e A c (xs++[y])->K A (xs.length+1) c h'):
 wpH P (Instr.buildSlice t 1 #[(0,v)]) (fun v' hp=>∃ (B:Option Addr) (m d:Nat),v'= .slice B m d/\wpH P (Builtin.append_ #[t,t] ty #[.slice A n c,.slice B m d]) (fun v1 hp1=>∃ (A':Option Addr) (n' c':Nat),v1= .slice A' n' c'/\K A' n' c' hp1) hp) h:=by
 subst hxn
 obtain ⟨gb,p,hkeep⟩:=w.priv s
 refine Jj st (vs:=[v]) (fun u hu=>by rw [List.mem_singleton.1 hu,hv];simp [E.default.len]) rfl (by simp;omega) rfl ?_
 intro b hfree
 have hfl:[v].flatMap (fun v=>v.cells.toList)=[y].flatMap enc:=by simp [hv]
 rw [hfl]
 refine ⟨_,_,_,rfl,?_⟩
 have p':PrivF (h.put b (.cells ([y].flatMap enc).toArray e)) (gb.put b (.cells ([y].flatMap enc).toArray e)) e A c xs:=Priv.put p hfree _
 refine Zr st p' (ys:=[y].flatMap enc) (I7 [y]) (SlV.cells (Wu e h b [y])) (fun v hv=>by
  obtain ⟨y',_,hy'⟩:=List.mem_flatMap.1 hv
  exact E.default.one y' v hy') hfit ?_
 intro h' hp0
 have hg:(gb.put b (.cells ([y].flatMap enc).toArray e)).le (gb.put b (.cells ([y].flatMap enc).toArray e)):=B3 _
 have hp:PrivF h' (gb.put b (.cells ([y].flatMap enc).toArray e)) e A c (xs++[y]):=by
  unfold PrivF
  rw [List.length_append,List.flatMap_append];exact hp0
 generalize hgd:gb.put b (.cells ([y].flatMap enc).toArray e)=g' at hg hp
 refine ⟨_,_,_,rfl,?_⟩
 have hgk:∀ k u,h k=some u->A≠some ⟨k,0,none⟩->g' k=some u:=by
  intro k u e1 hne
  have hkb:k≠b:=by rintro rfl;rw [hfree] at e1;cases e1
  rw [<- hgd,B6 _ _ hkb];exact hkeep k u e1 hne
 have hnA:∀ k u,g k=some u->A≠some ⟨k,0,none⟩:=by
  intro k u e1 hA
  rcases w.2 with ⟨_,h0⟩|⟨b',arr,hA',hb',_⟩
  ·rw [hA] at h0;cases h0
  ·rw [hA] at hA'
   simp only [Option.some.injEq,Addr.mk.injEq,and_true] at hA'
   subst hA'
   rw [s.dis k _ hb'] at e1;cases e1
 rcases hp.2.2 with ⟨hc0,_⟩|⟨b',arr,hA',hb',hh',ha,ht⟩
 ·exfalso
  have:=hp.2.1
  rw [List.length_append] at this
  simp at this
  omega
 ·let o':Heap:=fun k=>if k=b' then some (.cells (List.toArray arr) e) else if A=some ⟨k,0,none⟩ then none else o k
  have ob:o' b'=some (.cells (List.toArray arr) e):=by show (if b'=b' then _ else _)=_;rw [if_pos rfl]
  have ok:∀ k,k≠b'->A≠some ⟨k,0,none⟩->o' k=o k:=fun k h1 h2=>by show (if k=b' then _ else if _ then _ else _)=_;rw [if_neg h1,if_neg h2]
  have ono:∀ k,k≠b'->A=some ⟨k,0,none⟩->o' k=none:=fun k h1 h2=>by show (if k=b' then _ else if _ then _ else _)=_;rw [if_neg h1,if_pos h2]
  let g2:Heap:=fun k=>match o' k with|some _=>none|none=>h' k
  have gs:∀ k u,o' k=some u->g2 k=none:=fun k u e1=>by show (match o' k with|some _=>none|none=>h' k)=_;rw [e1]
  have gn:∀ k,o' k=none->g2 k=h' k:=fun k e1=>by show (match o' k with|some _=>none|none=>h' k)=_;rw [e1]
  have hput:∀ k u,k≠b'->g' k=some u->h' k=some u:=fun k u h1 e1=>by rw [hh',B6 _ _ h1];exact e1
  have hown:∀ k u,o k=some u->A≠some ⟨k,0,none⟩->k≠b':=by
   rintro k u e1 h2 rfl
   have:=hgk k u (s.own k u e1) h2
   rw [hb'] at this;cases this
  refine x h' g2 o' (fun k u e1=>?_) ⟨fun k u e1=>?_,fun k e1=>(gn k e1).symm,gs⟩ ⟨hp.2.1,.inr ⟨b',arr,hA',ob,ha,ht⟩⟩
  ·have hk0:o k=none:=by
    cases ho:o k with
    | none=>rfl
    | some y=>rw [s.dis k y ho] at e1;cases e1
   have hA:=hnA k u e1
   have e3:=hgk k u (s.le k u e1) hA
   have hkb':k≠b':=by rintro rfl;rw [hb'] at e3;cases e3
   rw [gn k (by rw [ok k hkb' hA];exact hk0)]
   exact hput k u hkb' e3
  ·by_cases hkb:k=b'
   ·subst hkb
    rw [ob] at e1;cases e1
    rw [hh',C2]
   ·by_cases hA:A=some ⟨k,0,none⟩
    ·rw [ono k hkb hA] at e1;cases e1
    ·rw [ok k hkb hA] at e1
     exact hput k u hkb (hgk k u (s.own k u e1) hA)
end
section
variable {h:Heap} {K:Value->Heap->Prop} {A:Option Addr} {n cap m:Nat} {r c:Int} {ls:Nat->List UInt8}
theorem Yt{rows cols:Nat}(rv':RowV SSr h A (rows*cols) ls)(hr:rows<=10000)(hc:cols<=10000)
 (hK:∀ A' h' g' o' xs,h.le g'->Sep h' g' o'->OwnSl o' H9 A' (rows*cols) xs->xs.length=rows*cols->Row SSr g' xs (rows*cols) (fun k=>ls (k%rows*cols+k/rows))->K (.slice A' (rows*cols) (rows*cols)) h'):FCall Tryz.prog Df #[.slice A (rows*cols) cap,I (rows:Int),I (cols:Int)] h K:=by
 refine Su _ _ _ _ _ ?_
 unfold Rt
 have hrc:rows*cols<=10000*10000:=Nat.mul_le_mul hr hc
 refine Gk U2 (zx:=([]:List UInt8)) rfl (by omega) (by omega) (by omega) (by omega) ?_
 intro b hb
 simp only [Int.toNat_natCast]
 refine ⟨_,_,_,rfl,fun L hp=>∃ (j:Nat) (g o:Heap) (xs:List (List UInt8)) (A':Option Addr),j<=cols/\L=[.slice A' (j*rows) (rows*cols),I (j:Int)]/\h.le g/\Sep hp g o/\OwnSl o H9 A' (rows*cols) xs/\xs.length=j*rows/\Row SSr g xs (j*rows) (fun k=>ls (k%rows*cols+k/rows)),fun L _=>cols-(iAt L 1).toNat,
  ⟨0,h,Hd.put b _,[],some ⟨b,0,none⟩,by omega,by rw [Nat.zero_mul];rfl,B3 _,Mm hb,A54,by simp,by rw [Nat.zero_mul];exact Row.nil⟩,?_⟩
 rintro rA rn rc z hp ⟨j,g,o,xs,A',hj,eL,lg,s,ow,hxl,rr⟩
 simp only [List.cons.injEq,Value.int.injEq,Value.slice.injEq,true_and,and_true] at eL
 obtain ⟨⟨rfl,rfl,hcap⟩,rfl⟩:=eL
 subst hcap
 refine B8 (fun hlt=>?_) (fun hge=>?_)
 ·have hjc:j<cols:=by omega
  have hj1:(j+1)*rows=j*rows+rows:=by rw [Nat.add_mul,Nat.one_mul]
  have hjr:(j+1)*rows<=cols*rows:=Nat.mul_le_mul_right _ hjc
  rw [Nat.mul_comm cols rows] at hjr
  refine ⟨fun L hp=>∃ (i:Nat) (g o:Heap) (xs:List (List UInt8)) (A':Option Addr),i<=rows/\L=[.slice A' (j*rows+i) (rows*cols),I (i:Int)]/\h.le g/\Sep hp g o/\OwnSl o H9 A' (rows*cols) xs/\xs.length=j*rows+i/\Row SSr g xs (j*rows+i) (fun k=>ls (k%rows*cols+k/rows)),fun L _=>rows-(iAt L 1).toNat,
   ⟨0,g,o,xs,rA,by omega,rfl,lg,s,ow,hxl,rr⟩,?_⟩
  rintro qA qn qc z hp2 ⟨i,g2,o2,ys,A2,hi,eL,lg2,s2,ow2,hyl,rr2⟩
  simp only [List.cons.injEq,Value.int.injEq,Value.slice.injEq,true_and,and_true] at eL
  obtain ⟨⟨rfl,rfl,hcap⟩,rfl⟩:=eL
  subst hcap
  refine B8 (fun hlt2=>?_) (fun hge2=>?_)
  ·have hir:i<rows:=by omega
   have hidx:=Jn hir hjc
   have ew:B4 (B4 ((i:Int)*(cols:Int))+(j:Int))=((i*cols+j:Nat):Int):=by
    rw [<- Int.natCast_mul,Gc (by omega)]
    exact Gc (n:=i*cols+j) (by omega)
   rw [ew]
   obtain ⟨a,ea,hc1⟩:=(rv'.mono Ah (A0 lg2 s2.le)).sat hidx
   refine ⟨a,ea,by omega,by omega,_,hc1,?_⟩
   refine Xh (ty:=Hk) U2 s2 ow2 hyl.symm (y:=ls (i*cols+j)) rfl (by decide) (by rw [hyl];omega) ?_
   intro h3 g3 o3 l3 s3 ow3
   rw [hyl,show B4 ((i:Int)+1)=((i+1:Nat):Int) by rw [B5]<;>omega]
   refine ⟨⟨i+1,g3,o3,_,_,by omega,by rw [Nat.add_assoc],A0 lg2 l3,s3,ow3,by rw [List.length_append,hyl];rfl,?_⟩,?_⟩
   ·have rB:=Row.push (R:=SSr) (g:=g3) (xs:=ys) (f:=fun k=>ls (k%rows*cols+k/rows)) (by rw [hyl];exact rr2.mono Ah l3) (w:=ls (i*cols+j)) (by
     show ls (i*cols+j)=ls (ys.length%rows*cols+ys.length/rows)
     rw [hyl,Nat.add_comm (j*rows) i,Nat.add_mul_mod_self_right,Nat.mod_eq_of_lt hir,Nat.add_mul_div_right _ _ (by omega),Nat.div_eq_of_lt hir,Nat.zero_add])
    rw [List.length_append,hyl] at rB
    exact rB
   ·show rows-((i+1:Nat):Int).toNat<rows-(i:Int).toNat
    omega
  ·have:i=rows:=by omega
   subst this
   rw [show B4 ((j:Int)+1)=((j+1:Nat):Int) by rw [B5]<;>omega,<- hj1]
   rw [<- hj1] at hyl rr2
   refine ⟨⟨j+1,g2,o2,ys,qA,by omega,rfl,lg2,s2,ow2,hyl,rr2⟩,?_⟩
   show cols-((j+1:Nat):Int).toNat<cols-(j:Int).toNat
   omega
 ·have:j=cols:=by omega
  subst this
  rw [Nat.mul_comm j rows] at hxl rr ⊢
  exact hK rA hp g o xs lg s ow hxl rr
theorem Oa(gl:Gl h)(rv':RowV SSr h A n ls)(hn:n<=1000000)(hl:∀ i,i<n->(ls i).length<=100000000)
 (hK1:∀ rows cols,MOk r c n ls rows cols->∀ h' A',OwnS h h' A' n n (fun k=>ls (k%rows*cols+k/rows))->K (.tuple #[Oc c r A' n n,I 0]) h')
 (hK0:¬ Mx r c n ls->∀ h',h.le h'->K (.tuple #[Oc 0 0 none 0 0,I 1]) h'):FCall Tryz.prog Fb #[Oc r c A n cap] h K:=by
 refine Xj _ _ _ _ _ ?_
 unfold Uj
 refine Pt gl rv' hn hl (fun hx=>⟨_,rfl,?_⟩) (fun hno=>⟨_,rfl,hK0 hno h (B3 _)⟩)
 obtain ⟨rows,cols,mk⟩:=hx
 have hk:=hK1 rows cols mk
 obtain ⟨rfl,rfl,_,_,_,_,rfl,_⟩:=id mk
 have:=mk.r2;have:=mk.c2
 refine Yt rv' (by omega) (by omega) ?_
 intro A2 h2 g2 o2 xs l2 s2 ow hxl rr
 exact ⟨_,_,_,rfl,A0 l2 s2.le,hk h2 A2 ⟨g2,o2,xs,l2,s2,ow,hxl,rr⟩⟩
end
section
variable {h:Heap} {K:Value->Heap->Prop} {A:Option Addr} {n cap m:Nat} {r c:Int} {la:Nat->List UInt8}
theorem Se{s:List UInt8}(gl:Gl h)(ra:RowV SSr h A n la)(hn:n<=1000000)(hl:∀ i,i<n->(la i).length<=100000000)(hls:s.length<=100000000)(hs:∀ i,i<n->Sz m (rv (la i)))(hsq:Sz m (rv s))(hm:2*m+1<=40000000)
 (hx:IsNum s/\Mx r c n la) (hK:∀ b h',Own SSr h h' b n (fun k=>L9 (rv s*rv (la k)))->K (.tuple #[Oc r c (some ⟨b,0,none⟩) n n,I 0]) h'):FCall Tryz.prog We #[.string (bs s),Oc r c A n cap] h K:=by
 refine A9i _ _ _ _ _ _ ?_
 unfold B3p
 refine Tf gl.tz hls (fun q eq w h0 l0 iw=>⟨_,_,_,_,_,_,_,_,_,rfl,?_⟩) (fun hno w h0 l0 _=>absurd hx.1 hno)
 ·have erv:rv s=q:=by rw [eq];exact Nc q
  rw [erv] at hsq
  refine Lm (gl.mono l0) (ra.mono Ah l0) hn hl (fun rows cols mk b1 h1 own=>?_) (fun hno h1 l1=>absurd hx.2 hno)
  obtain ⟨g1,o1,xs,lg1,s1,rx,hxs,rr⟩:=own.ex
  refine ⟨_,_,_,_,rfl,Br.nt (Br.nt ?_)⟩
  refine ⟨fun L hp=>∃ (k:Nat) (g o:Heap) (ys:List QV),k<=n/\L=[I (k:Int)]/\g1.le g/\Sep hp g o/\RowX o b1 ys/\ys.length=n/\Row RQr g ys n (fun i=>if i<k then rv s*rv (la i) else rv (la i)),fun L _=>n-(iAt L 0).toNat,⟨0,g1,o1,xs,by omega,rfl,B3 _,s1,rx,hxs,rr.congr fun i _=>by rw [if_neg (Nat.not_lt_zero i)]⟩,?_⟩
  rintro z hp ⟨k,g,o,ys,hk,eL,lg,s',rx,hy,rr⟩
  obtain rfl:z=(k:Int):=by simpa using eL
  refine B8 (fun hlt=>?_) (fun hge=>?_)
  ·have hkn:k<n:=by omega
   obtain ⟨c0,c1,c2',c3⟩:=rx.qcells (i:=k) (by omega)
   have iq:=rr.get (i:=k) hkn (by omega)
   rw [if_neg (Nat.lt_irrefl k)] at iq
   refine ⟨_,rfl,by omega,by omega,_,_,_,_,_,_,_,_,s'.cell c0,s'.cell c1,s'.cell c2',s'.cell c3,?_⟩
   refine s'.call (Te (a:=ys[k]) (b:=w) (gl.mono (A0 l0 (A0 lg1 lg))).tz iq (Et _ _ _ _ (A0 lg1 lg) iw) (hs k hkn) hsq (by omega) ?_)
   intro w6 g6 l6 i6 h6 s6
   refine ⟨_,_,_,_,_,_,_,_,rfl,s'.le_le s6 l6,_,rfl,by omega,by omega,?_⟩
   refine Ml Oo (y:=w6) rfl s6 rx (i:=k) (by omega) ?_
   intro h7 o7 x7 eo s7 rx7
   rw [show B4 ((k:Int)+1)=((k+1:Nat):Int) by rw [B5]<;>omega]
   refine ⟨⟨k+1,g6,o7,_,by omega,rfl,A0 lg l6,s7,rx7,by rw [List.length_set];exact hy,((rr.mono Et l6).upd (by omega) i6).congr fun i _=>?_⟩,by simp only [Hu];omega⟩
   show (if i=k then _ else _)=_
   by_cases e:i=k
   ·subst e
    rw [if_pos rfl,if_pos (Nat.lt_succ_self i),erv,Rat.mul_comm]
   ·rw [if_neg e]
    by_cases e3:i<k
    ·rw [if_pos e3,if_pos (by omega)]
    ·rw [if_neg e3,if_neg (by omega)]
  ·have:k=n:=by omega
   subst this
   have rq:RowV RQr hp (some ⟨b1,0,none⟩) k (fun i=>rv s*rv (la i)):=⟨ys,rx.rowB.slF s'.ole,hy,(rr.mono Et s'.le).congr fun i hi=>by rw [if_pos hi]⟩
   refine Ps (m:=m+m) (gl.mono (A0 l0 (A0 lg1 (A0 lg s'.le)))) rq hn (fun i hi=>by rw [erv];exact hsq.mul (hs i hi)) (by omega) ?_
   intro b9 h9 own9
   exact ⟨_,_,_,_,_,rfl,hK b9 h9 (own9.weak (A0 l0 (A0 lg1 (A0 lg s'.le))))⟩
end
def Blk(o:Heap)(A:Option Addr)(c:Nat):Prop:=c=0\/∃ b cs e,A=some ⟨b,0,none⟩/\o b=some (.cells cs e)/\cs.size=c
theorem Blk.put{o:Heap}{A:Option Addr}{c b:Nat}{cs cs':Array Value}{e:TypeId}(w:Blk o A c)(hb:o b=some (.cells cs e))(hs:cs'.size=cs.size):Blk (o.put b (.cells cs' e)) A c:=by
 rcases w with w|⟨b',cs2,e2,hA,hb',hc⟩
 ·exact .inl w
 ·right
  by_cases hx:b'=b
  ·subst hx
   rw [hb] at hb'
   cases hb'
   exact ⟨b',cs',e,hA,C2 _ _ _,by omega⟩
  ·exact ⟨b',cs2,e2,hA,by rw [B6 _ _ hx];exact hb',hc⟩
theorem B5v{o:Heap}{A:Option Addr}{c:Nat}{e:TypeId}{xs:List (List UInt8)}(w:OwnSl o e A c xs):Blk o A c:=by
 rcases w.2 with ⟨h0,_⟩|⟨b,arr,hA,hb,hl,_⟩
 ·exact .inl h0
 ·have h1:arr.length=c*1:=hl
  exact .inr ⟨b,_,e,hA,hb,by rw [List.size_toArray];omega⟩
theorem B5w{o:Heap}{A:Option Addr}{c:Nat}{e:TypeId}{xs:List Int}(w:OwnSl o e A c xs):Blk o A c:=by
 rcases w.2 with ⟨h0,_⟩|⟨b,arr,hA,hb,hl,_⟩
 ·exact .inl h0
 ·have h1:arr.length=c*1:=hl
  exact .inr ⟨b,_,e,hA,hb,by rw [List.size_toArray];omega⟩
theorem A3s{o:Heap}{b n:Nat}{xs:List (List UInt8)}(r:RowX o b xs)(hx:xs.length=n):Blk o (some ⟨b,0,none⟩) n:=by
 obtain ⟨e,hb⟩:=r
 have h1:(xs.flatMap enc).length=xs.length*1:=I7 xs
 exact .inr ⟨b,_,e,rfl,hb,by rw [List.size_toArray];omega⟩
theorem Sep.apart{h g o g2 p:Heap}(s:Sep h g o)(t:Sep g g2 p):∀ k x,o k=some x->p k=none:=by
 intro k x e
 cases hp:p k with
 | none=>rfl
 | some y=>
  have h1:=t.own k y hp
  rw [s.dis k x e] at h1;cases h1
theorem Blk.left{o p:Heap}{A:Option Addr}{c:Nat}(w:Blk o A c)(hd:∀ k x,o k=some x->p k=none):Blk (o.join p) A c:=by
 rcases w with w|⟨b,cs,e,hA,hb,hc⟩
 ·exact .inl w
 ·exact .inr ⟨b,cs,e,hA,by show (match p b with|some x=>some x|none=>o b)=_;rw [hd b _ hb];exact hb,hc⟩
theorem Blk.right{o p:Heap}{A:Option Addr}{c:Nat}(w:Blk p A c):Blk (o.join p) A c:=by
 rcases w with w|⟨b,cs,e,hA,hb,hc⟩
 ·exact .inl w
 ·exact .inr ⟨b,cs,e,hA,by show (match p b with|some x=>some x|none=>o b)=_;rw [hb],hc⟩
section
variable {h g o:Heap} {K:Value->Heap->Prop} {A:Option Addr} {n cap c:Nat}
theorem Hs(s:Sep h g o)(w:Blk o A c)(hc:c<=1000000000)
 (hK:∀ h' o',Sep h' g o'->(∀ B d,Blk o B d->Blk o' B d)->K (.tuple #[]) h'):FCall Tryz.prog Ke #[.slice A n c] h K:=by
 refine A9o _ _ _ ?_
 unfold B3t
 refine ⟨⟨by omega,by omega⟩,fun L hp=>∃ (k:Nat) (o':Heap),k<=c/\L=[I (k:Int)]/\Sep hp g o'/\(∀ B d,Blk o B d->Blk o' B d),fun L _=>c-(iAt L 0).toNat,⟨0,o,by omega,rfl,s,fun _ _ x=>x⟩,?_⟩
 rintro z hp ⟨k,o',hk,eL,s',kp⟩
 obtain rfl:z=(k:Int):=by simpa using eL
 simp only [Int.toNat_natCast,Nat.sub_zero]
 refine B8 (fun hlt=>?_) (fun hge=>hK hp o' s' kp)
 rcases kp A c w with h0|⟨b,cs,e,rfl,hb,hcs⟩
 ·omega
 rw [Qt (by omega),D9,Nat.zero_add,Nat.zero_mul]
 refine ⟨_,rfl,by omega,by omega,?_⟩
 rw [Nat.mul_one]
 refine Pb En rfl rfl s' hb (by omega) ?_
 intro h1 o1 s1 eo
 rw [show B4 ((k:Int)+1)=((k+1:Nat):Int) by rw [B5]<;>omega]
 exact ⟨⟨k+1,o1,by omega,rfl,s1,fun B d x=>by rw [eo];exact (kp B d x).put hb (by simp)⟩,by simp only [Hu];omega⟩
end
section
variable {h:Heap} {K:Value->Heap->Prop} {A:Option Addr} {n cap:Nat} {r c:Int} {la:Nat->List UInt8}
theorem A7a(ra:RowV SSr h A n la)(hn1:1<=n)(hn:n<=1000000)
 (hK:∀ A' c' h',h.le h'->RowV SSr h' A' n la->K (.slice A' n c') h'):FCall Tryz.prog A7r #[.slice A n cap] h K:=by
 refine B5t _ _ _ ?_
 unfold C0j
 refine Vj U2 ?_
 intro be hbe
 obtain ⟨xs,sx,hx,rr⟩:=ra
 have l1:h.le (h.put be (.cells #[] H9)):=Heap.le_put _ hbe
 refine ⟨_,_,_,rfl,?_⟩
 refine Rb U2 (Sep.refl (h.put be (.cells #[] H9))) (ys:=xs) hx.symm (by rintro rfl;simp at hx;omega) (sx.mono l1) (by omega) (by omega) ?_
 intro b2 c2 h2 g2 o2 y eo hb2 l2 s2 hc2 rb2
 exact ⟨_,_,_,rfl,hK _ c2 h2 (A0 l1 (A0 l2 s2.le)) ⟨xs,rb2.slF s2.ole,hx,rr.mono Ah (A0 l1 (A0 l2 s2.le))⟩⟩
theorem A4c(ra:RowV SSr h A n la)(hn1:1<=n)(hn:n<=1000000)
 (hK:∀ A' c' h',h.le h'->RowV SSr h' A' n la->K (Oc r c A' n c') h'):FCall Tryz.prog Fe #[Oc r c A n cap] h K:=by
 refine Xm _ _ _ _ _ ?_
 unfold Ul
 exact A7a ra hn1 hn fun A' c' h' l x=>⟨_,_,_,rfl,l,hK A' c' h' l x⟩
end
section
variable {α β:Type} {R:Heap->α->β->Prop} {g:Heap}
theorem Row.app{xs ys:List α}{f:Nat->β}{p q:Nat}(hp:xs.length=p)(r:Row R g xs p f)(r2:Row R g ys q (fun j=>f (p+j))):Row R g (xs++ys) (p+q) f:=fun i hi=>by
 by_cases h:i<p
 ·obtain ⟨w,e,x⟩:=r i h
  exact ⟨w,by rw [List.getElem?_append_left (by omega)];exact e,x⟩
 ·obtain ⟨w,e,x⟩:=r2 (i-p) (by omega)
  refine ⟨w,by rw [List.getElem?_append_right (by omega),hp];exact e,?_⟩
  have e2:p+(i-p)=i:=by omega
  show R g w (f i)
  rw [<- e2];exact x
end
section
variable {h:Heap} {K:Value->Heap->Prop} {A:Option Addr} {n cap m:Nat} {r c:Int} {ls:Nat->List UInt8}
end
theorem B5u{X Y:Prop}(x:X):Br true X Y:=x
section
variable {h:Heap} {A:Option Addr} {n cap:Nat} {r c:Int} {ls:Nat->List UInt8}
theorem B0m{m:Nat}(sm:Small r c n ls 6 12)(hm:m=48):(∀ i,i<n->(ls i).length<=100000000)/\(∀ i,i<n->Sz m (rv (ls i)))/\n<=1000000/\∀ rows cols,MOk r c n ls rows cols->rows<=6/\cols<=6:=by
 subst hm
 refine ⟨fun i hi=>by have:=sm.hl i hi;omega,fun i hi=>B4e (k:=12) (by have:=sm.hl i hi;omega) (by omega),by have:=sm.hn;omega,fun rows cols mk=>⟨by have:=mk.er;have:=sm.hr;omega,by have:=mk.ec;have:=sm.hc;omega⟩⟩
theorem B4k{cols:Nat}(h:cols<=6):7^cols*48<=6000000:=Nat.le_trans (Nat.mul_le_mul_right 48 (Nat.pow_le_pow_right (show 7>0 by decide) h)) (by decide)
theorem B4l{cols:Nat}(h:cols<=6):3^cols*bnd cols 48<=300000:=by
 have h1:bnd cols 48<=337:=by unfold bnd;omega
 exact Nat.le_trans (Nat.mul_le_mul (Nat.pow_le_pow_right (show 3>0 by decide) h) h1) (by decide)
end
section
variable {h:Heap} {A:Option Addr} {n cap:Nat} {r c:Int} {ls:Nat->List UInt8}
theorem law_matrixOwn(gl:Gl h)(s0:RowV SSr h A n ls):FCall Tryz.prog Nl #[Oc r c A n cap] h (B9g h):=by
 refine Xl _ _ _ _ _ ?_
 unfold Uk
 have aw:∀ h',h.le h'->FCall Tryz.prog Gs #[] h' (fun r hp=>∃ t,r= .bool t/\B9g h (.bool t) hp):=fun h' l=>A4q (gl.mono l) fun h'' l''=>⟨_,rfl,rfl,A0 l l''⟩
 refine A1g s0 (fun sm=>⟨_,rfl,Br.nt ?_⟩) (fun _=>⟨_,rfl,B87 (aw h (B3 _))⟩)
 obtain ⟨hl,hs,hn,hrc⟩:=B0m sm rfl
 have b3:∀ rows cols,MOk r c n ls rows cols->3^cols*bnd cols 48<=300000:=fun rows cols mk=>B4l (hrc rows cols mk).2
 have b7:∀ rows cols,MOk r c n ls rows cols->7^cols*48<=100000000:=fun rows cols mk=>Nat.le_trans (B4k (hrc rows cols mk).2) (by decide)
 refine Pt gl s0 hn hl (fun hx=>⟨_,rfl,Br.nt ?_⟩) (fun _=>⟨_,rfl,B87 (aw h (B3 _))⟩)
 obtain ⟨rows,cols,mk⟩:=id hx
 have yes:∀ {p:Prop},¬ Mx r c n ls->p:=fun hno=>absurd hx hno
 have hn1:1<=n:=by rw [mk.len];exact Nat.mul_pos mk.r1 mk.c1
 refine A4c s0 hn1 hn ?_
 intro W wc h1 l1 sw
 refine ⟨_,_,_,_,_,rfl,?_⟩
 refine Oa (gl.mono l1) (s0.mono Ah l1) hn hl (fun rt ct mt h2 tA owt=>?_) (fun hno=>yes hno)
 refine ⟨_,_,_,_,_,_,rfl,?_⟩
 obtain ⟨g2,o2,xs2,lg2,s2,ow2,hx2,_⟩:=owt
 have l02:=A0 l1 lg2
 refine s2.call (Es (gl.mono l02) (s0.mono Ah l02) hn hl hs (fun rows cols mk=>by have:=b3 rows cols mk;omega) ?_ (fun hno=>yes hno))
 rintro rr cr mr b3' g3' pA pc own3 h3 s3
 refine ⟨_,_,_,_,_,_,_,_,_,rfl,?_⟩
 obtain ⟨g3,o3,xs3,lg3,s3',rx3,hx3,_,ow3,_⟩:=own3.ex
 have l03:=A0 l02 lg3
 have ap3:=s3.apart s3'
 have k2:Blk (o2.join o3) tA n:=(B5v ow2).left ap3
 have k3:Blk (o2.join o3) (some ⟨b3',0,none⟩) n:=(A3s rx3 hx3).right
 have kp:Blk (o2.join o3) pA pc:=(B5w ow3).right
 have hpc:=ow3.1
 have j3:=s3.join s3'
 generalize o2.join o3=o23 at *
 have e1:({ data:=#[49] }:ByteArray)=bs [49]:=rfl
 have rv1:rv [49]=1:=by rw [<- B43];exact Nc 1
 have q1:Sz 48 (rv [49]):=by rw [rv1];exact ⟨by unfold ZB;decide +kernel,by unfold ZB;decide +kernel⟩
 rw [e1]
 refine j3.call (Se (m:=48) (gl.mono l03) (s0.mono Ah l03) hn hl (by decide) hs q1 (by omega) ⟨⟨1,B43.symm⟩,hx⟩ ?_)
 intro b4 g4' own4 h4 s4
 refine ⟨_,_,_,_,_,_,rfl,?_⟩
 obtain ⟨g4,o4,xs4,lg4,s4',rx4,hx4,rr4⟩:=own4.ex
 have l04:=A0 l03 lg4
 have ap4:=s4.apart s4'
 have k2:=k2.left ap4
 have k3:=k3.left ap4
 have kp:=kp.left ap4
 have k4:Blk (o23.join o4) (some ⟨b4,0,none⟩) n:=(A3s rx4 hx4).right
 have r4:RowV SSr h4 (some ⟨b4,0,none⟩) n (fun k=>L9 (rv [49]*rv (ls k))):=⟨xs4,rx4.rowB.slF (fun k x e=>s4.le _ _ (s4'.ole k x e)),hx4,rr4.mono Ah (fun k x e=>s4.le _ _ (s4'.le k x e))⟩
 have j4:=s4.join s4'
 generalize o23.join o4=o at *
 refine N4 (fun e=>absurd rfl e) (fun _=>N4 (fun e=>absurd rfl e) (fun _=>N4 (fun e=>absurd rfl e) (fun _=>?_)))
 have lh4:=A0 l04 j4.le
 have l14:h1.le h4:=A0 lg2 (A0 lg3 (A0 lg4 j4.le))
 have l1g:h1.le g4:=A0 lg2 (A0 lg3 lg4)
 refine Bl r4 (sw.mono Ah l14) (by omega) (fun _ _ _ _=>⟨_,rfl,Br.nt ?_⟩) (fun hno=>absurd ⟨rfl,rfl,rfl,fun i hi=>?_⟩ hno)
 ·refine Hs j4 k2 (by omega) ?_
  intro h5 o5 s5 kp5
  refine ⟨rfl,?_⟩
  refine Hs s5 (kp5 _ _ k3) (by omega) ?_
  intro h6 o6 s6 kp6
  refine ⟨rfl,?_⟩
  refine Hs s6 (kp6 _ _ (kp5 _ _ k4)) (by omega) ?_
  intro h7 o7 s7 kp7
  refine ⟨rfl,?_⟩
  have kq:=kp7 _ _ (kp6 _ _ (kp5 _ _ kp))
  have hcl:(elE (rvs ls) rr cr cr).cs.length<=cr:=(Wo (mtx (rvs ls) cr) rr cr).1
  have hc6:=(hrc _ _ mr).2
  have hpl:(elE (rvs ls) rr cr cr).cs.length<=pc:=by rw [List.length_map] at hpc;exact hpc
  refine ⟨fun L hp=>∃ (k:Nat) (o':Heap),k<=(elE (rvs ls) rr cr cr).cs.length/\L=[I (k:Int)]/\Sep hp g4 o'/\Blk o' pA pc,fun L _=>(elE (rvs ls) rr cr cr).cs.length-(iAt L 0).toNat,⟨0,o7,by omega,rfl,s7,kq⟩,?_⟩
  rintro z hp ⟨k,o',hk,eL,s',kb⟩
  obtain rfl:z=(k:Int):=by simpa using eL
  refine B8 (fun hlt=>?_) (fun hge=>?_)
  ·rcases id kb with h0|⟨b,cs,e,rfl,hb,hcs⟩
   ·omega
   refine ⟨_,rfl,by omega,hlt,?_⟩
   simp only [Int.toNat_natCast]
   rw [Nat.mul_one]
   refine Pb A69 rfl rfl s' hb (by omega) ?_
   intro h8 o8 s8 eo
   rw [show B4 ((k:Int)+1)=((k+1:Nat):Int) by rw [B5]<;>omega]
   exact ⟨⟨k+1,o8,by omega,rfl,s8,by rw [eo];exact kb.put hb (by simp)⟩,by simp only [Hu];omega⟩
  ·have lp:=A0 l04 s'.le
   have lw:=A0 l1g s'.le
   refine Es (gl.mono lp) (s0.mono Ah lp) hn hl hs (fun rows cols mk=>by have:=b3 rows cols mk;omega) ?_ (fun hno=>yes hno)
   rintro r5 c5 m5 b5 h8 A5 cap5 own5
   refine ⟨_,_,_,_,_,_,_,_,_,rfl,?_⟩
   have l8:=own5.le
   refine Zd (m:=48) (sw.mono Ah (A0 lw l8)) hn hl hs (by omega) b7 ?_ (fun hno=>yes hno)
   rintro r6 c6 m6 h9 A6 cap6 A7 cap7 l9 s6' i6
   have hu1:r6=r5:=by have:=m5.er;have:=m6.er;omega
   have hu2:c6=c5:=by have:=m5.ec;have:=m6.ec;omega
   subst hu1;subst hu2
   refine ⟨_,_,_,_,_,_,_,_,_,rfl,?_⟩
   have lz:h.le h9:=A0 lp (A0 l8 l9)
   have hc5:(elE (rvs ls) r6 c6 c6).cs.length<=6:=by have:(elE (rvs ls) r6 c6 c6).cs.length<=c6:=(Wo (mtx (rvs ls) c6) r6 c6).1;have:=(hrc _ _ m6).2;omega
   refine D8 (fun _=>?_) (fun e=>absurd rfl e)
   refine Bl (own5.strs.mono Ah l9) s6' (by omega) (fun _ _ _ _=>⟨_,rfl,B5u ?_⟩) (fun hno=>absurd ⟨rfl,rfl,rfl,fun _ _=>rfl⟩ hno)
   refine Tm (own5.ints.1.mono l9) i6 (List.length_map _).symm (List.length_map _).symm (by omega) (fun _=>⟨_,rfl,B5u ?_⟩) (fun hno=>absurd rfl hno)
   refine Bl (s0.mono Ah lz) (sw.mono Ah (A0 lw (A0 l8 l9))) (by omega) (fun _ _ _ _=>⟨_,rfl,B5u ?_⟩) (fun hno=>absurd ⟨rfl,rfl,rfl,fun _ _=>rfl⟩ hno)
   exact aw h9 lz
 ·show L9 (rv [49]*rv (ls i))=ls i
  rw [rv1,Rat.one_mul]
  exact B6e (mk.num i hi)
end
end Go.Proofs.YthilnfgnpdeofaaGreatDoor
namespace Go.Proofs.YthilnfgnpdeofaaGreatDoor
set_option maxRecDepth 20000
open Go Go.RowKit
theorem B7e(s:ByteArray):bs s.data.toList=s:=by
 cases s;simp [bs]
theorem A6u{H:Type}{enc:TypeId × Value->H}{P:Program}{W:World}{base:Nat}{sp:Nat->Bool}{held:Bool}{t e:TypeId}{fuel:Nat}{A:Option Addr}{len cap:Nat}{x:DataW H × List MemPlace}(ht:P.underlying t=some (.slice e))(he:P.underlying e=some .string)(hc:P.cellsOf e=1)
 (hf:DataW.trod enc P W base sp held fuel t [.slice A len cap]=some x):∃ ls:Nat->List UInt8,RowV SSr (memOf W) A len ls/\len<=maxLen:=by
 rcases Deep.open_strs ht he hc hf with ⟨hcs,_⟩|⟨a,l,c,m,Sx,hcs,_,hl,hm,hmm,_,hcell⟩
 ·simp at hcs
  obtain ⟨rfl,rfl,rfl⟩:=hcs
  exact ⟨fun _=>[],RowV.nil,Nat.zero_le _⟩
 ·simp at hcs
  obtain ⟨rfl,rfl,rfl⟩:=hcs
  have hlm:len<=m:=by rw [hmm];split<;>omega
  have sl:SlV (memOf W) (some a) (((List.range len).map fun i=>(Sx i).data.toList).map fun l=>Value.string (bs l)):=by
   refine .inr ⟨a,rfl,fun i v hv=>?_⟩
   rw [List.getElem?_map,List.getElem?_map] at hv
   by_cases hi:i<len
   ·rw [List.getElem?_range hi] at hv
    simp only [Option.map_some,Option.some.injEq,B7e] at hv
    rw [<- hv]
    exact Ln (hcell i (by omega)).1
   ·rw [List.getElem?_eq_none (by simpa using hi)] at hv;cases hv
  have:=Ja sl
  rw [List.length_map,List.length_range] at this
  exact ⟨_,this,by omega⟩
theorem open_mat{H:Type}{enc:TypeId × Value->H}{P:Program}{W:World}{base:Nat}{sp:Nat->Bool}{held:Bool}{r:Reach}{b0:Nat}{t e:TypeId}{f0 f1 f2:Field}{v:Value}{d:DataW H}{ps:List MemPlace}(ht:P.underlying t=some (.struct #[f0,f1,f2]))(u0:P.underlying f0.type=some (.int .i64))(u1:P.underlying f1.type=some (.int .i64))(u2:P.underlying f2.type=some (.slice e))(ue:P.underlying e=some .string)
 (hoff:f0.offset=0/\f1.offset=1/\f2.offset=2/\P.cellsOf f0.type=1/\P.cellsOf f1.type=1/\P.cellsOf f2.type=1/\P.cellsOf t=3/\P.cellsOf e=1)
 (hval:Value.okWide P W r b0 t v) (hd:DataW.Trod enc P W base sp held t v d ps):∃ (x y:Int) (A:Option Addr) (len cap:Nat) (ls:Nat->List UInt8),v= .agg #[.int .i64 x,.int .i64 y,.slice A len cap]/\RowV SSr (memOf W) A len ls/\len<=maxLen:=by
 obtain ⟨o0,o1,o2,c0,c1,c2,ct,ce⟩:=hoff
 obtain ⟨cs,rfl,hcs⟩:=WideShapes.okWide_struct ht hval
 obtain ⟨fuel,hf⟩:=hd
 obtain ⟨y0,y1,y2,n,hx,hl,g0,g1,g2⟩:=Deep.trod_struct3 ht hf
 rw [o0,c0] at g0
 rw [o1,c1] at g1
 rw [o2,c2] at g2
 obtain ⟨s0,e0,_,_⟩:=DataW.trod_int u0 g0
 obtain ⟨s1,e1,_,_⟩:=DataW.trod_int u1 g1
 rw [ct] at hcs
 have hlen:cs.toList.length=3:=by simpa using hcs
 obtain ⟨p,q,z,hm⟩:∃ p q z,cs.toList=[p,q,z]:=by
  match h:cs.toList,hlen with
  | [p,q,z],_=>exact ⟨p,q,z,rfl⟩
 simp only [Value.cells] at e0 e1 g2
 rw [hm] at e0 e1 g2
 simp at e0 e1 g2
 have hA:∃ A len cap,z= .slice A len cap:=by
  rcases Deep.open_strs u2 ue ce g2 with ⟨hcs,_⟩|⟨a,l,c,m,Sx,hcs,_⟩
  ·simp at hcs;exact ⟨_,_,_,hcs⟩
  ·simp at hcs;exact ⟨_,_,_,hcs⟩
 obtain ⟨A,len,cap,rfl⟩:=hA
 obtain ⟨ls,hr,hml⟩:=A6u u2 ue ce g2
 have:cs=#[.int .i64 s0,.int .i64 s1,.slice A len cap]:=by rw [<- Array.toArray_toList (xs:=cs),hm,e0,e1]
 exact ⟨s0,s1,A,len,cap,ls,by rw [this],hr,hml⟩
end Go.Proofs.YthilnfgnpdeofaaGreatDoor
