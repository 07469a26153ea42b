/-
  Texts of this proof, merged by a program of ours.
-/
import Derived.Test.YthilnfgnpdeofaaGreatDoorG29
import Derived.Test.YthilnfgnpdeofaaGreatDoorG21
import Derived.Test.YthilnfgnpdeofaaGreatDoorG22
import Derived.Deep.Strs
namespace Go.Proofs.YthilnfgnpdeofaaGreatDoor
set_option maxRecDepth 20000
open Go
structure HV where
 A:Option Addr
 n:Nat
 c:Nat
abbrev HV.v(s:HV):Value:=.slice s.A s.n s.c
instance:Enc HV:=⟨⟨fun s=>[.slice s.A s.n s.c],1,fun _=>rfl,fun s v hv=>by rw [List.mem_singleton.1 hv];rfl⟩⟩
def RowsV(h:Heap)(A:Option Addr)(n w:Nat)(M:Nat->Nat->Rat):Prop:=∃ hd:List HV,SlF h A hd/\hd.length=n/\∀ i,i<n->∃ s,hd[i]? = some s/\s.n=w/\w<=s.c/\RowV NQr h s.A w (M i)
theorem RowsV.mono{h h':Heap}{A:Option Addr}{n w:Nat}{M:Nat->Nat->Rat}(l:h.le h')(r:RowsV h A n w M):RowsV h' A n w M:=by
 obtain ⟨hd,s,e,r⟩:=r
 refine ⟨hd,s.mono l,e,fun i hi=>?_⟩
 obtain ⟨s,e1,e2,e3,r⟩:=r i hi
 exact ⟨s,e1,e2,e3,r.mono T6 l⟩
theorem RowsV.congr{h:Heap}{A:Option Addr}{n w:Nat}{M M':Nat->Nat->Rat}(r:RowsV h A n w M)(e:∀ i j,i<n->j<w->M i j=M' i j):RowsV h A n w M':=by
 obtain ⟨hd,s,e1,r⟩:=r
 refine ⟨hd,s,e1,fun i hi=>?_⟩
 obtain ⟨s,e1,e2,e3,r⟩:=r i hi
 exact ⟨s,e1,e2,e3,r.congr fun j hj=>e i j hi hj⟩
theorem RowsV.at{h:Heap}{A:Option Addr}{n w:Nat}{M:Nat->Nat->Rat}(r:RowsV h A n w M){i:Nat}(hi:i<n):∃ (a:Addr) (s:HV),A=some a/\s.n=w/\w<=s.c/\h.cell? (Addr.add a (i*1))=some (.slice s.A s.n s.c)/\RowV NQr h s.A w (M i):=by
 obtain ⟨hd,s,e,r⟩:=r
 obtain ⟨u,e1,e2,e3,r⟩:=r i hi
 obtain ⟨a,ha,hc⟩:=SlF.at (by decide) s (i:=i) (by omega)
 have hu:hd[i]=u:=by
  rw [List.getElem?_eq_getElem (by omega)] at e1;exact Option.some.inj e1
 have:=hc 0 _ (by rw [hu];rfl)
 rw [Kw] at this
 exact ⟨a,u,ha,e2,e3,this,r⟩
structure Mt (h g o:Heap) (bo:Nat) (rb:Nat->Nat) (n w:Nat) (M:Nat->Nat->Rat):Prop where
 sep:Sep h g o
 hd:∃ hd:List HV,RowB o bo hd/\hd.length=n/\∀ i,i<n->∃ c,hd[i]? = some ⟨some ⟨rb i,0,none⟩,w,c⟩/\w<=c
 nb:∀ i,i<n->rb i≠bo
 inj:∀ i j,i<n->j<n->rb i=rb j->i=j
 row:∀ i,i<n->∃ xs:List QV,RowB o (rb i) xs/\xs.length=w/\Row NQr g xs w (M i)
section
variable {h g o:Heap} {bo n w:Nat} {rb:Nat->Nat} {M:Nat->Nat->Rat}
theorem Mt.next(t:Mt h g o bo rb n w M){h' g':Heap}(s:Sep h' g' o)(l:g.le g'):Mt h' g' o bo rb n w M:=by
 refine ⟨s,t.hd,t.nb,t.inj,fun i hi=>?_⟩
 obtain ⟨xs,r,e,q⟩:=t.row i hi
 exact ⟨xs,r,e,q.mono T6 l⟩
theorem Mt.congr(t:Mt h g o bo rb n w M){M':Nat->Nat->Rat}(e:∀ i j,i<n->j<w->M i j=M' i j):Mt h g o bo rb n w M':=by
 refine ⟨t.sep,t.hd,t.nb,t.inj,fun i hi=>?_⟩
 obtain ⟨xs,r,e1,q⟩:=t.row i hi
 exact ⟨xs,r,e1,q.congr fun j hj=>e i j hi hj⟩
theorem Mt.keep(t:Mt h g o bo rb n w M){h' g' o':Heap}(s:Sep h' g' o')(l:g.le g')(hk:∀ k x,o k=some x->(k=bo\/∃ i,i<n/\k=rb i)->o' k=some x):Mt h' g' o' bo rb n w M:=by
 refine ⟨s,?_,t.nb,t.inj,fun i hi=>?_⟩
 ·obtain ⟨hd,⟨e,ex,hb⟩,h1,h2⟩:=t.hd
  exact ⟨hd,⟨e,ex,hk _ _ hb (.inl rfl)⟩,h1,h2⟩
 ·obtain ⟨xs,⟨e,ex,hb⟩,h1,h2⟩:=t.row i hi
  exact ⟨xs,⟨e,ex,hk _ _ hb (.inr ⟨i,hi,rfl⟩)⟩,h1,h2.mono T6 l⟩
theorem Mt.own(t:Mt h g o bo rb n w M):(∃ x,o bo=some x)/\∀ i,i<n->∃ x,o (rb i)=some x:=by
 obtain ⟨hd,⟨e,ex,hb⟩,_⟩:=t.hd
 refine ⟨⟨_,hb⟩,fun i hi=>?_⟩
 obtain ⟨xs,⟨e,ex,hb⟩,_⟩:=t.row i hi
 exact ⟨_,hb⟩
theorem Mt.rowsV(t:Mt h g o bo rb n w M):RowsV h (some ⟨bo,0,none⟩) n w M:=by
 obtain ⟨hd,r,e,q⟩:=t.hd
 refine ⟨hd,r.slF t.sep.ole,e,fun i hi=>?_⟩
 obtain ⟨c,e1,hc⟩:=q i hi
 obtain ⟨xs,rx,e2,qx⟩:=t.row i hi
 exact ⟨_,e1,rfl,hc,xs,rx.slF t.sep.ole,e2,qx.mono T6 t.sep.le⟩
theorem Mt.head(t:Mt h g o bo rb n w M){i:Nat}(hi:i<n):∃ c,w<=c/\o.cell? (Addr.add ⟨bo,0,none⟩ (i*1))=some (.slice (some ⟨rb i,0,none⟩) w c):=by
 obtain ⟨hd,r,e,q⟩:=t.hd
 obtain ⟨c,e1,hc⟩:=q i hi
 refine ⟨c,hc,?_⟩
 have hu:hd[i]=⟨some ⟨rb i,0,none⟩,w,c⟩:=by
  rw [List.getElem?_eq_getElem (by omega)] at e1;exact Option.some.inj e1
 rw [E5,Nat.zero_add]
 exact r.cell (i:=i) (by omega) (j:=0) (by rw [hu];rfl)
theorem Mt.elem(t:Mt h g o bo rb n w M){i j:Nat}(hi:i<n)(hj:j<w):∃ x:QV,NQ g x (M i j)/\o.cell? (Addr.add (Addr.add ⟨rb i,0,none⟩ (j*4)) 0)=some (.bool x.s)/\o.cell? (Addr.add (Addr.add ⟨rb i,0,none⟩ (j*4)) 1)=some (.slice x.A x.n x.c)/\o.cell? (Addr.add (Addr.add ⟨rb i,0,none⟩ (j*4)) 2)=some (.bool x.s2)/\o.cell? (Addr.add (Addr.add ⟨rb i,0,none⟩ (j*4)) 3)=some (.slice x.A2 x.n2 x.c2):=by
 obtain ⟨xs,r,e,q⟩:=t.row i hi
 obtain ⟨x,e1,hx⟩:=q j hj
 have hu:xs[j]=x:=by
  rw [List.getElem?_eq_getElem (by omega)] at e1;exact Option.some.inj e1
 have cell:∀ k v,(enc x)[k]? = some v->o.cell? (Addr.add (Addr.add ⟨rb i,0,none⟩ (j*4)) k)=some v:=by
  intro k v hk
  rw [E5,E5,Nat.zero_add]
  exact r.cell (i:=j) (by omega) (j:=k) (by rw [hu];exact hk)
 exact ⟨x,hx,cell 0 _ rfl,cell 1 _ rfl,cell 2 _ rfl,cell 3 _ rfl⟩
def B8u(M:Nat->Nat->Rat)(i j:Nat)(q:Rat):Nat->Nat->Rat:=fun a b=>if a=i/\b=j then q else M a b
theorem Mt.store(t:Mt h g o bo rb n w M){i j:Nat}(hi:i<n)(hj:j<w){x:QV}{q:Rat}(hx:NQ g x q){K:Unit->Heap->Prop}
 (k:∀ h' o',Mt h' g o' bo rb n w (B8u M i j q)->(∀ k,k≠rb i->o' k=o k)->K () h'):wpH Tryz.prog (Instr.storeAt D7 (.pointer (some (Addr.add ⟨rb i,0,none⟩ (j*4)))) x.v) K h:=by
 obtain ⟨xs,r,e,q'⟩:=t.row i hi
 rw [E5,Nat.zero_add]
 refine Sep.store (E:=inferInstanceAs (Enc QV)) Jg (v:=x.v) (y:=x) rfl t.sep r (i:=j) (by omega) rfl ?_
 intro h' o' x' eo s' r'
 refine k h' o' ⟨s',?_,t.nb,t.inj,fun a ha=>?_⟩ (fun k hk=>by rw [eo,B6 _ _ hk])
 ·obtain ⟨hd,rh,h1,h2⟩:=t.hd
  exact ⟨hd,by rw [eo];exact rh.other (t.nb i hi).symm _,h1,h2⟩
 ·by_cases ea:a=i
  ·subst ea
   refine ⟨_,r',by simpa using e,?_⟩
   refine (Row.upd q' (k:=j) (by omega) hx).congr fun b _=>?_
   unfold B8u
   by_cases eb:b=j
   ·rw [if_pos eb,if_pos ⟨rfl,eb⟩]
   ·rw [if_neg eb,if_neg (fun x=>eb x.2)]
  ·obtain ⟨ys,ry,ey,qy⟩:=t.row a ha
   refine ⟨ys,by rw [eo];exact ry.other (fun e=>ea (t.inj a i ha hi e)) _,ey,qy.congr fun b _=>?_⟩
   unfold B8u
   rw [if_neg (fun x=>ea x.1)]
theorem Mt.swap{P:Program}(t:Mt h g o bo rb n w M){i k:Nat}(hi:i<n)(hk:k<n){t':TypeId}(one:P.cellsOf t'=1/\(P.info? t').isSome=true){ci ck:Nat}(hci:o.cell? (Addr.add ⟨bo,0,none⟩ (i*1))=some (.slice (some ⟨rb i,0,none⟩) w ci))(hck:o.cell? (Addr.add ⟨bo,0,none⟩ (k*1))=some (.slice (some ⟨rb k,0,none⟩) w ck))(hcw:w<=ci)(hcw2:w<=ck){X:Unit->Heap->Prop}
 (xx:∀ h1,(∀ {K:Unit->Heap->Prop},(∀ h' o',Mt h' g o' bo (fun a=>rb (xch i k a)) n w (fun a=>M (xch i k a))->(∀ k,k≠bo->o' k=o k)->K () h')->wpH P (Instr.storeAt t' (.pointer (some (Addr.add ⟨bo,0,none⟩ (i*1)))) (.slice (some ⟨rb k,0,none⟩) w ck)) K h1)->X () h1):
 wpH P (Instr.storeAt t' (.pointer (some (Addr.add ⟨bo,0,none⟩ (k*1)))) (.slice (some ⟨rb i,0,none⟩) w ci)) X h:=by
 obtain ⟨hd,r,e,q⟩:=t.hd
 rw [E5,Nat.zero_add]
 refine Sep.store (E:=inferInstanceAs (Enc HV)) one (v:=.slice (some ⟨rb i,0,none⟩) w ci) (y:=(⟨some ⟨rb i,0,none⟩,w,ci⟩:HV)) rfl t.sep r (i:=k) (by omega) rfl ?_
 intro h1 o1 x1 eo1 s1 r1
 refine xx h1 (fun {K} kk=>?_)
 rw [E5,Nat.zero_add]
 refine Sep.store (E:=inferInstanceAs (Enc HV)) one (v:=.slice (some ⟨rb k,0,none⟩) w ck) (y:=(⟨some ⟨rb k,0,none⟩,w,ck⟩:HV)) rfl s1 r1 (i:=i) (by simpa using (by omega:i<hd.length)) rfl ?_
 intro h2 o2 x2 eo2 s2 r2
 have ko:∀ b,b≠bo->o2 b=o b:=fun b hb=>by rw [eo2,B6 _ _ hb,eo1,B6 _ _ hb]
 have hx:∀ a,a<n->xch i k a<n:=fun a ha=>Nk hi hk ha
 have hinj:∀ a b,xch i k a=xch i k b->a=b:=fun a b h=>by rw [<- A14 (k:=i) (l:=k) (i:=a),h,A14]
 refine kk h2 o2 ⟨s2,⟨_,r2,by simpa using e,fun a ha=>?_⟩,fun a ha=>t.nb _ (hx a ha),fun a b ha hb h=>hinj a b (t.inj _ _ (hx a ha) (hx b hb) h),fun a ha=>?_⟩ ko
 ·by_cases e1:a=i
  ·subst e1
   exact ⟨ck,by rw [List.getElem?_set_self (by simp;omega)];unfold xch;rw [if_pos rfl],hcw2⟩
  ·rw [List.getElem?_set_ne (fun x=>e1 x.symm)]
   by_cases e2:a=k
   ·subst e2
    exact ⟨ci,by rw [List.getElem?_set_self (by omega)];unfold xch;rw [if_neg e1,if_pos rfl],hcw⟩
   ·rw [List.getElem?_set_ne (fun x=>e2 x.symm)]
    obtain ⟨c,h1,h2⟩:=q a ha
    exact ⟨c,by rw [h1];unfold xch;rw [if_neg e1,if_neg e2],h2⟩
 ·obtain ⟨xs,rx,ex,qx⟩:=t.row _ (hx a ha)
  obtain ⟨e,ex',hb⟩:=rx
  exact ⟨xs,⟨e,ex',by rw [ko _ (t.nb _ (hx a ha))];exact hb⟩,ex,qx⟩
end
def RWr(w:Nat):Heap->HV->(Nat->Rat)->Prop:=fun h s f=>s.n=w/\w<=s.c/\RowV NQr h s.A w f
theorem B1o(w:Nat):Mon (RWr w):=fun _ _ _ _ l i=>⟨i.1,i.2.1,i.2.2.mono T6 l⟩
theorem RowsV.of{h:Heap}{A:Option Addr}{n w:Nat}{M:Nat->Nat->Rat}(r:RowV (RWr w) h A n M):RowsV h A n w M:=r
theorem A2l{α:Type}[E:Enc α]{P:Program}{t e ty:TypeId}{z:Value}{bytes:Nat}(st:SliceT P t e z E.default.size bytes){h g o:Heap}(s:Sep h g o){A:Option Addr}{B:Option Addr}{d m:Nat}{ys:List α}(hm:m=ys.length)(hne:ys≠[])(sy:SlF h B ys)
 (hb:(2*ys.length+192)*bytes<=281474976710656) (hn:ys.length<=9223372036854775807) {K:Value->Heap->Prop}
 (x:∀ b c' h' g' o' y,o'=o.put b y->h b=none->g.le g'->Sep h' g' o'->ys.length<=c'->RowB o' b ys->K (.slice (some ⟨b,0,none⟩) m c') h'):wpH P (Builtin.append_ #[t,t] ty #[.slice A 0 0,.slice B m d]) K h:=by
 have p:PrivF h h e A 0 ([]:List α):=PrivF.nil h e A
 refine Hc st p hm sy (by simpa using hb) (by simpa using hn) ?_
 intro A' c' h' g' hg hp
 rw [List.nil_append] at hp
 obtain ⟨b,y,hA,hgb,hh,_,rb⟩:=A9o hp hne
 obtain ⟨g2,lg2,s2⟩:=s.after hg
 have hlc:=hp.2.1
 have hbn:h b=none:=by
  cases hx:h b with
  | none=>rfl
  | some u=>rw [hg b u hx] at hgb;cases hgb
 subst hh
 obtain ⟨e',ex,hb'⟩:=rb
 rw [C0] at hb'
 have:=x b c' _ g2 (o.put b y) y rfl hbn lg2 (s2.new hgb y) hlc ⟨e',ex,by rw [C0];exact hb'⟩
 rw [hA,List.nil_append,<- hm]
 exact this
section
variable {h:Heap} {K:Value->Heap->Prop} {A:Option Addr} {n cap m w:Nat} {r c:Int} {ls:Nat->List UInt8} {M:Nat->Nat->Rat}
theorem Tv(rv':RowV SSr h A n ls)(hn:n<=1000000)(hl:∀ i,i<n->(ls i).length<=100000000)
 (hK1:∀ rows cols,MOk r c n ls rows cols->∀ b h',h.le h'->RowsV h' (some ⟨b,0,none⟩) rows cols (mtx (rvs ls) cols)->K (.tuple #[.slice (some ⟨b,0,none⟩) rows rows,.bool true]) h')
 (hK0:¬ Mx r c n ls->∀ h',h.le h'->K (.tuple #[.slice none 0 0,.bool false]) h'):FCall Tryz.prog Wx #[A4y r c A n cap] h K:=by
 refine B32 _ _ _ _ _ ?_
 unfold B8p
 have no:∀ (_:¬ A2u r c n),K (.tuple #[.slice none 0 0,.bool false]) h:=fun hs=>hK0 (fun x=>hs (Ut.1 x).1) h (B3 _)
 refine B7 (fun e=>no fun s=>by have:=s.1;omega) (fun h1=>B7 (fun e=>no fun s=>by have:=s.2.1;omega) (fun h2=>B7 (fun e=>no fun s=>by have:=s.2.2.1;omega) (fun h3=>B7 (fun e=>no fun s=>by have:=s.2.2.2.1;omega) (fun h4=>?_))))
 have hrc:r*c<=64*64:=Int.mul_le_mul (by omega) (by omega) (by omega) (by omega)
 have hrc0:0<=r*c:=Int.mul_nonneg (by omega) (by omega)
 have ew:B4 (r*c)=r*c:=B5 (by omega) (by omega)
 rw [ew]
 refine K9 (fun e=>no fun s=>e s.2.2.2.2) (fun h5=>?_)
 have sh:A2u r c n:=⟨by omega,by omega,by omega,by omega,h5⟩
 refine Fi rv' hn hl (fun hnum b h1' own=>?_) (fun hno h' l=>⟨_,_,_,_,rfl,hK0 (fun x=>hno (Ut.1 x).2) h' l⟩)
 have mk:=MOk.of sh hnum
 generalize r.toNat=rows at mk
 generalize c.toNat=cols at mk
 have:=mk.r1;have:=mk.r2;have:=mk.c1;have:=mk.c2
 obtain ⟨rfl,rfl,_,_,_,_,rfl,_⟩:=id mk
 have ov:=own.vis T6
 refine ⟨_,_,_,_,rfl,Q6 B8x (zx:=(⟨none,0,0⟩:HV)) rfl (by omega) (by omega) (by omega) (by omega) ?_⟩
 intro b2 hb2
 refine ⟨_,_,_,rfl,fun L hp=>∃ k:Nat,k<=rows/\L=[I (k:Int)]/\OwnK (RWr cols) h1' hp b2 rows k (mtx (rvs ls) cols),fun L _=>rows-(iAt L 0).toNat,⟨0,by omega,rfl,OwnK.zero hb2⟩,?_⟩
 rintro z hp ⟨k,hk,eL,g,o,xs,lg,s,rb,hx,rr⟩
 obtain rfl:z=(k:Int):=by simpa using eL
 refine B7 (fun hlt=>?_) (fun hge=>?_)
 ·have hkr:k<rows:=by omega
  have h2:(k+1)*cols<=rows*cols:=Nat.mul_le_mul_right _ hkr
  have h3:(k+1)*cols=k*cols+cols:=by rw [Nat.add_mul,Nat.one_mul]
  have hrc':rows*cols<=64*64:=Nat.mul_le_mul (by omega) (by omega)
  have e0:B4 ((k:Int)+1)=((k+1:Nat):Int):=B5 (by omega) (by omega)
  have e1:B4 ((k:Int)*(cols:Int))=((k*cols:Nat):Int):=by rw [<- Int.natCast_mul];exact Bf (by omega)
  have e2:B4 (B4 ((k:Int)+1)*(cols:Int))=(((k+1)*cols:Nat):Int):=by rw [e0,<- Int.natCast_mul];exact Bf (by omega)
  rw [e1,e2,e0]
  refine ⟨⟨by omega,by omega⟩,⟨by omega,by simp only [Int.toNat_natCast];omega⟩,_,rfl,by omega,by omega,?_⟩
  simp only [Int.toNat_natCast]
  have e5:(k+1)*cols-k*cols=cols:=by omega
  rw [e5]
  have row:RowV NQr h1' (J6 (some ⟨b,0,none⟩) (rows*cols) (k*cols) 4) cols (mtx (rvs ls) cols k):=ov.cut (c:=rows*cols) (l:=k*cols) (k:=cols) (by omega) (Nat.le_refl _)
  refine OwnK.store (B1o cols) Vb (y:=(⟨J6 (some ⟨b,0,none⟩) (rows*cols) (k*cols) 4,cols,rows*cols-k*cols⟩:HV)) lg (B3 _) s rb (by simpa using hx) rr hkr rfl ⟨rfl,by show cols<=rows*cols-k*cols;omega,row.mono T6 lg⟩ ?_
  intro h4 ow
  exact ⟨⟨k+1,by omega,rfl,ow⟩,by simp only [Gu];omega⟩
 ·have:k=rows:=by omega
  subst this
  have own2:Own (RWr cols) h1' hp b2 k (mtx (rvs ls) cols):=⟨g,o,xs,lg,s,rb,hx,rr⟩
  exact hK1 _ _ mk b2 hp (A0 own.le own2.le) (RowsV.of (own2.vis (B1o cols)))
theorem A55{rcap:Nat}(rs:RowsV h A n w M)(hn:n<=1000000)(hw1:1<=w)(hw:w<=1000000)(hn1:1<=n)
 (hK:∀ h' g' o' bo rb c',h.le g'->Mt h' g' o' bo rb n w M->K (.slice (some ⟨bo,0,none⟩) n c') h'):FCall Tryz.prog A2b #[.slice A n rcap] h K:=by
 refine B33 _ _ _ ?_
 unfold B8q
 refine ⟨fun L hp=>∃ (k:Nat) (g o:Heap) (hd:List HV) (rb:Nat->Nat) (A':Option Addr) (c':Nat),k<=n/\L=[.slice A' k c',I (k:Int)]/\h.le g/\Sep hp g o/\OwnSl o I8 A' c' hd/\hd.length=k/\(∀ i,i<k->∃ c,hd[i]? = some ⟨some ⟨rb i,0,none⟩,w,c⟩/\w<=c)/\(∀ i,i<k->A'≠some ⟨rb i,0,none⟩)/\(∀ i j,i<k->j<k->rb i=rb j->i=j)/\∀ i,i<k->∃ xs:List QV,RowB o (rb i) xs/\xs.length=w/\Row NQr g xs w (M i),fun L _=>n-(iAt L 1).toNat,
  ⟨0,h,Eg,[],fun _=>0,none,0,by omega,rfl,B3 _,Sep.refl h,OwnSl.nil,rfl,fun i hi=>by omega,fun i hi=>by omega,fun i j hi=>by omega,fun i hi=>by omega⟩,?_⟩
 rintro oA on oc z hp ⟨k,g,o,hd,rb,A',c',hk,eL,lg,s,ow,hhd,hhd2,hap,hinj,hrow⟩
 simp only [List.cons.injEq,Value.int.injEq,Value.slice.injEq,true_and,and_true] at eL
 obtain ⟨⟨rfl,rfl,rfl⟩,rfl⟩:=eL
 refine B7 (fun hlt=>?_) (fun hge=>?_)
 ·have hkn:on<n:=by omega
  refine Mc Of ?_
  intro be hbe
  have s1:=s.vis hbe (.cells #[] D7)
  have lgb:g.le (g.put be (.cells #[] D7)):=Heap.le_put _ (by
   cases hx:g be with
   | none=>rfl
   | some y=>rw [s.le _ _ hx] at hbe;cases hbe)
  have lh1:=A0 lg lgb
  obtain ⟨a,sv,ea,e1,e2,hc,xs,sx,hxl,qx⟩:=rs.at hkn
  refine ⟨_,_,_,rfl,a,ea,by omega,by omega,_,_,_,B9 (A0 lh1 s1.le) hc,?_⟩
  refine A2l Of s1 (ys:=xs) (by omega) (by rintro rfl;simp at hxl;omega) (sx.mono (A0 lh1 s1.le)) (by omega) (by omega) ?_
  intro b2 c2 h2 g2 o2 y eo hb2 l2 s2 hc2 rb2
  refine ⟨_,_,_,rfl,?_⟩
  have ob2:∀ q x,o q=some x->q≠b2:=by
   rintro q x e rfl
   have:=s1.ole q x e
   rw [this] at hb2;cases hb2
  have ow2:OwnSl o2 I8 oA oc hd:=ow.keep fun q x _ e=>by rw [eo,B6 _ _ (ob2 q x e)];exact e
  have hA2:oA≠some ⟨b2,0,none⟩:=by
   intro hA
   rcases ow.2 with ⟨_,h0⟩|⟨b',arr,hA',hbo,_⟩
   ·rw [hA] at h0;cases h0
   ·rw [hA] at hA'
    simp only [Option.some.injEq,Addr.mk.injEq,and_true] at hA'
    exact ob2 _ _ hbo hA'.symm
  refine Bd (ty:=Hp) B8x s2 ow2 hhd.symm (y:=(⟨some ⟨b2,0,none⟩,sv.n,c2⟩:HV)) rfl (by decide) (by rw [hhd];omega) (by rw [hhd];omega) ?_
  intro A3 c3 h3 g3 o3 l3 s3 ow3 kp
  have kq:∀ i,i<on->∃ x,o (rb i)=some x:=fun i hi=>by
   obtain ⟨xs,⟨e,ex,hb⟩,_⟩:=hrow i hi;exact ⟨_,hb⟩
  obtain ⟨e5,ex5,hb5⟩:=id rb2
  have k2:=kp b2 _ hb5 hA2
  rw [hhd,show B4 ((on:Int)+1)=((on+1:Nat):Int) by rw [B5]<;>omega]
  have gall:=A0 lgb (A0 l2 l3)
  refine ⟨⟨on+1,g3,o3,_,fun i=>if i=on then b2 else rb i,A3,c3,by omega,rfl,A0 lg gall,s3,ow3,by rw [List.length_append,hhd];rfl,fun i hi=>?_,fun i hi=>?_,fun i j hi hj h=>?_,fun i hi=>?_⟩,?_⟩
  ·show ∃ c,(hd++[(⟨some ⟨b2,0,none⟩,sv.n,c2⟩:HV)])[i]? = some ⟨some ⟨if i=on then b2 else rb i,0,none⟩,w,c⟩/\w<=c
   by_cases e:i=on
   ·subst e
    exact ⟨c2,by rw [List.getElem?_append_right (by omega),hhd,if_pos rfl,e1];simp,by omega⟩
   ·obtain ⟨c,h1,h2⟩:=hhd2 i (by omega)
    exact ⟨c,by rw [List.getElem?_append_left (by omega),if_neg e];exact h1,h2⟩
  ·show A3≠some ⟨if i=on then b2 else rb i,0,none⟩
   by_cases e:i=on
   ·rw [if_pos e];exact k2.2
   ·rw [if_neg e]
    obtain ⟨x,hx⟩:=kq i (by omega)
    exact (kp (rb i) x (by rw [eo,B6 _ _ (ob2 _ _ hx)];exact hx) (hap i (by omega))).2
  ·have h':(if i=on then b2 else rb i)=(if j=on then b2 else rb j):=h
   by_cases e1:i=on
   ·by_cases e2:j=on
    ·omega
    ·rw [if_pos e1,if_neg e2] at h'
     obtain ⟨x,hx⟩:=kq j (by omega)
     exact absurd h'.symm (ob2 _ _ hx)
   ·by_cases e2:j=on
    ·rw [if_neg e1,if_pos e2] at h'
     obtain ⟨x,hx⟩:=kq i (by omega)
     exact absurd h' (ob2 _ _ hx)
    ·rw [if_neg e1,if_neg e2] at h'
     exact hinj i j (by omega) (by omega) h'
  ·show ∃ xs:List QV,RowB o3 (if i=on then b2 else rb i) xs/\_
   by_cases e:i=on
   ·subst e
    rw [if_pos rfl]
    exact ⟨xs,⟨e5,ex5,k2.1⟩,hxl,qx.mono T6 (A0 lg gall)⟩
   ·rw [if_neg e]
    obtain ⟨ys,⟨ey,exy,hby⟩,hyl,qy⟩:=hrow i (by omega)
    refine ⟨ys,⟨ey,exy,?_⟩,hyl,qy.mono T6 gall⟩
    exact (kp (rb i) _ (by rw [eo,B6 _ _ (ob2 _ _ hby)];exact hby) (hap i (by omega))).1
  ·show n-((on+1:Nat):Int).toNat<n-((on:Nat):Int).toNat
   omega
 ·have hke:on=n:=by omega
  subst hke
  obtain ⟨bo,rfl,rbo⟩:=ow.rowB (by rintro rfl;simp at hhd;omega)
  exact hK hp g o bo rb oc lg ⟨s,⟨hd,rbo,hhd,hhd2⟩,fun i hi e=>hap i hi (by rw [e]),hinj,hrow⟩
end
section
variable {α:Type} [E:Enc α]
theorem OwnSl.app{P:Program}{t e ty:TypeId}{z:Value}{bytes:Nat}(st:SliceT P t e z E.default.size bytes){h g o:Heap}{A:Option Addr}{c:Nat}{xs:List α}(s:Sep h g o)(w:OwnSl o e A c xs){B:Option Addr}{d m n:Nat}{ys:List α}(hxn:n=xs.length)(hm:m=ys.length)(hne:ys≠[])(sy:SlF h B ys)(hb:(2*(xs.length+ys.length)+192)*bytes<=281474976710656)(hn:xs.length+ys.length<=9223372036854775807){K:Value->Heap->Prop}
 (x:∀ A' c' h' g' o',g.le g'->Sep h' g' o'->OwnSl o' e A' c' (xs++ys)->(∀ k u,o k=some u->A≠some ⟨k,0,none⟩->o' k=some u/\A'≠some ⟨k,0,none⟩)->K (.slice A' (xs.length+m) c') h'):
 wpH P (Builtin.append_ #[t,t] ty #[.slice A n c,.slice B m d]) K h:=by
 subst hxn
 obtain ⟨gb,p,hkeep⟩:=w.priv s
 refine Hc st p hm sy hb hn ?_
 intro A' c' h' g' hg hp
 rw [List.length_append,<- hm]
 have hgk:∀ k u,h k=some u->A≠some ⟨k,0,none⟩->g' k=some u:=by
  intro k u e1 hne
  exact hg k u (hkeep k u e1 hne)
 have hnA:∀ k u,g k=some u->A≠some ⟨k,0,none⟩:=by
  intro k u e1 hA
  rcases w.2 with ⟨_,h0⟩|⟨b',arr,hA',hb',_⟩
  ·rw [hA] at h0;cases h0
  ·rw [hA] at hA'
   simp only [Option.some.injEq,Addr.mk.injEq,and_true] at hA'
   subst hA'
   rw [s.dis k _ hb'] at e1;cases e1
 rcases hp.2.2 with ⟨hc0,_⟩|⟨b',arr,hA',hb',hh',ha,ht⟩
 ·exfalso
  have:=hp.2.1
  rw [List.length_append] at this
  have:ys.length≠0:=fun h=>hne (List.eq_nil_of_length_eq_zero h)
  omega
 ·subst hA'
  let o':Heap:=fun k=>if k=b' then some (.cells (List.toArray arr) e) else if A=some ⟨k,0,none⟩ then none else o k
  have ob:o' b'=some (.cells (List.toArray arr) e):=by show (if b'=b' then _ else _)=_;rw [if_pos rfl]
  have ok:∀ k,k≠b'->A≠some ⟨k,0,none⟩->o' k=o k:=fun k h1 h2=>by show (if k=b' then _ else if _ then _ else _)=_;rw [if_neg h1,if_neg h2]
  have ono:∀ k,k≠b'->A=some ⟨k,0,none⟩->o' k=none:=fun k h1 h2=>by show (if k=b' then _ else if _ then _ else _)=_;rw [if_neg h1,if_pos h2]
  let g2:Heap:=fun k=>match o' k with|some _=>none|none=>h' k
  have gs:∀ k u,o' k=some u->g2 k=none:=fun k u e1=>by show (match o' k with|some _=>none|none=>h' k)=_;rw [e1]
  have gn:∀ k,o' k=none->g2 k=h' k:=fun k e1=>by show (match o' k with|some _=>none|none=>h' k)=_;rw [e1]
  have hput:∀ k u,k≠b'->g' k=some u->h' k=some u:=fun k u h1 e1=>by rw [hh',B6 _ _ h1];exact e1
  have hown:∀ k u,o k=some u->A≠some ⟨k,0,none⟩->k≠b':=by
   rintro k u e1 h2 rfl
   have:=hgk k u (s.own k u e1) h2
   rw [hb'] at this;cases this
  refine x _ c' h' g2 o' (fun k u e1=>?_) ⟨fun k u e1=>?_,fun k e1=>(gn k e1).symm,gs⟩ ⟨hp.2.1,.inr ⟨b',arr,rfl,ob,ha,ht⟩⟩ (fun k u e1 h2=>?_)
  ·have hk0:o k=none:=by
    cases ho:o k with
    | none=>rfl
    | some y=>rw [s.dis k y ho] at e1;cases e1
   have hA:=hnA k u e1
   have e3:=hgk k u (s.le k u e1) hA
   have hkb':k≠b':=by rintro rfl;rw [hb'] at e3;cases e3
   rw [gn k (by rw [ok k hkb' hA];exact hk0)]
   exact hput k u hkb' e3
  ·by_cases hkb:k=b'
   ·subst hkb
    rw [ob] at e1;cases e1
    rw [hh',C0]
   ·by_cases hA:A=some ⟨k,0,none⟩
    ·rw [ono k hkb hA] at e1;cases e1
    ·rw [ok k hkb hA] at e1
     exact hput k u hkb (hgk k u (s.own k u e1) hA)
  ·have hkb:=hown k u e1 h2
   refine ⟨by rw [ok k hkb h2];exact e1,fun h3=>hkb ?_⟩
   simp only [Option.some.injEq,Addr.mk.injEq,and_true] at h3
   exact h3.symm
end
section
variable {h:Heap} {K:Value->Heap->Prop} {A:Option Addr} {n cap m w:Nat} {M:Nat->Nat->Rat}
end
abbrev ecE(M:Nat->Nat->Rat)(n c:Nat):ES:=A69 n ⟨M,[],1⟩ c
theorem A74{n:Nat}{s:ES}{c:Nat}(h:n<=(A69 n s c).cs.length):∀ d,A69 n s (c+d)=A69 n s c:=by
 intro d
 induction d with
 | zero=>rfl
 | succ d ih=>
  show Dg n (c+d) (A69 n s (c+d))=_
  rw [ih]
  unfold Dg
  rw [if_neg (by omega)]
theorem Mo(M:Nat->Nat->Rat)(n:Nat):∀ c,(ecE M n c).cs.length<=c/\(ecE M n c).cs.length<=n:=by
 intro c
 induction c with
 | zero=>exact ⟨Nat.le_refl _,Nat.zero_le _⟩
 | succ c ih=>
  show (Dg n c (ecE M n c)).cs.length<=c+1/\(Dg n c (ecE M n c)).cs.length<=n
  unfold Dg
  split
  ·split
   ·show ((ecE M n c).cs++[c]).length<=c+1/\((ecE M n c).cs++[c]).length<=n
    rw [List.length_append]
    exact ⟨Nat.succ_le_succ ih.1,by simp only [List.length_cons,List.length_nil];omega⟩
   ·show (ecE M n c).cs.length<=c+1/\_
    exact ⟨Nat.le_succ_of_le ih.1,ih.2⟩
  ·exact ⟨Nat.le_succ_of_le ih.1,ih.2⟩
def A8m(M:Nat->Nat->Rat)(n c:Nat):Rat:=if (ecE M n c).cs.length<c then 0 else (ecE M n c).det
abbrev qc(w:QV):List Value:=[.bool w.s,.slice w.A w.n w.c,.bool w.s2,.slice w.A2 w.n2 w.c2]
theorem B59{w:QV}{a b:Bool}{A B:Option Addr}{n c n' c':Nat}{l l':List Value}(h:(.bool a:Value) :: .slice A n c :: .bool b :: .slice B n' c'::l= .bool w.s :: .slice w.A w.n w.c :: .bool w.s2 :: .slice w.A2 w.n2 w.c2::l'):(⟨a,A,n,c,b,B,n',c'⟩:QV)=w/\l=l':=by
 simp only [List.cons.injEq,Value.bool.injEq,Value.slice.injEq] at h
 obtain ⟨rfl,⟨rfl,rfl,rfl⟩,rfl,⟨rfl,rfl,rfl⟩,h⟩:=h
 exact ⟨rfl,h⟩
def Si(bo:Nat)(rb:Nat->Nat)(n:Nat)(A:Option Addr):Prop:=A≠some ⟨bo,0,none⟩/\∀ i,i<n->A≠some ⟨rb i,0,none⟩
section
variable {g o h11 h14 h15 hp2:Heap} {bo n w r c i B:Nat} {rb:Nat->Nat} {R:Nat->Nat->Rat} {x:QV} {q:Rat} {Invv Invv3:List Value->Heap->Prop} {muv muv3:List Value->Heap->Nat}
theorem B9u(t:Mt h15 g o bo rb n w R)(hi:i<n)(hr:r<n)(hir:i≠r)(hcw:c<=w)(hn:n<=10000)(hw:w<=10000)(ix:NQ g x q)(s1:∀ b,b<w->Sz B (R i b))(s2:∀ b,b<w->Sz (B+B) (R r b))(s3:Sz B q)(hB:B*7<=100000000)
 (fin:∀ h' g' o',g.le g'->Mt h' g' o' bo rb n w (fun a b=>if a=i/\c<=b then R i b-q*R r b else R a b)->(∀ b,(∀ i,i<n->b≠rb i)->o' b=o b)->Invv3 [I (B4 ((i:Int)+1))] h'/\muv3 [I (B4 ((i:Int)+1))] h'<muv3 [I (i:Int)] h14):
 Im Tryz.prog (some ⟨bo,0,none⟩) n r (c:Int) Invv3 muv3 (i:Int) x.s x.A x.n x.c x.s2 x.A2 x.n2 x.c2 h15 h14:=by
 unfold Im
 refine ⟨fun L hq=>∃ (k:Nat) (g' o':Heap),c<=k/\k<=w/\L=[I (k:Int)]/\g.le g'/\Mt hq g' o' bo rb n w (fun a b=>if a=i/\c<=b/\b<k then R i b-q*R r b else R a b)/\(∀ b,(∀ i,i<n->b≠rb i)->o' b=o b),fun L _=>w-(iAt L 0).toNat,⟨c,g,o,Nat.le_refl _,hcw,rfl,B3 _,t.congr (fun a b _ _=>by rw [if_neg (by omega)]),fun _ _=>rfl⟩,?_⟩
 rintro z h16 ⟨k,g6,o6,hck,hkj,eL6,l6,t6,ko6⟩
 obtain rfl:z=(k:Int):=by simpa using eL6
 obtain ⟨c6,hc6,kh6⟩:=t6.head hi
 have hd6:=t6.sep.cell kh6
 refine ⟨_,rfl,by omega,by omega,_,_,_,hd6,B7 (fun hlt=>?_) (fun hge=>?_)⟩
 ·have hkj':k<w:=by omega
  obtain ⟨c7,hc7,kh7⟩:=t6.head hr
  obtain ⟨y,iy,y0,y1,y2,y3⟩:=t6.elem hi hkj'
  obtain ⟨v,iv,v0,v1,v2,v3⟩:=t6.elem hr hkj'
  rw [if_neg (by omega)] at iy
  rw [if_neg (fun x=>hir x.1.symm)] at iv
  refine ⟨_,rfl,by omega,by omega,_,_,_,hd6,_,rfl,by omega,by omega,_,_,_,hd6,_,rfl,by omega,by omega,_,_,_,_,_,_,_,_,t6.sep.cell y0,t6.sep.cell y1,t6.sep.cell y2,t6.sep.cell y3,_,rfl,by omega,by omega,_,_,_,t6.sep.cell kh7,_,rfl,by omega,by omega,_,_,_,_,_,_,_,_,t6.sep.cell v0,t6.sep.cell v1,t6.sep.cell v2,t6.sep.cell v3,?_⟩
  refine t6.sep.call (Pt (ix.mono l6) iv (s3.mono (show B<=B+B by omega)) (s2 k hkj') (by omega) ?_)
  intro w7 g7 l7 i7 h17 s17
  have t7:=t6.next s17 l7
  refine ⟨_,_,_,_,_,_,_,_,rfl,t6.sep.le_le s17 l7,?_⟩
  refine s17.call (A75 (iy.mono l7) i7 ((s1 k hkj').mono (show B<=B+(B+B) by omega)) (s3.mul (s2 k hkj')) (by omega) ?_)
  intro w8 g8 l8 i8 h18 s18
  have t8:=t7.next s18 l8
  refine ⟨_,_,_,_,_,_,_,_,rfl,s17.le_le s18 l8,_,rfl,by omega,by omega,?_⟩
  refine t8.store hi hkj' (x:=w8) i8 ?_
  intro h19 o19 t19 ko19
  rw [show B4 ((k:Int)+1)=((k+1:Nat):Int) by rw [B5]<;>omega]
  refine ⟨⟨k+1,g8,o19,by omega,by omega,rfl,A0 l6 (A0 l7 l8),t19.congr (fun a b _ _=>?_),fun b hb=>by rw [ko19 b (hb _ hi),ko6 b hb]⟩,by simp only [Gu];omega⟩
  show (if a=i/\b=k then R i k-q*R r k else if a=i/\c<=b/\b<k then R i b-q*R r b else R a b)=if a=i/\c<=b/\b<k+1 then R i b-q*R r b else R a b
  by_cases e1:a=i/\b=k
  ·obtain ⟨rfl,rfl⟩:=e1
   rw [if_pos ⟨rfl,rfl⟩,if_pos ⟨rfl,hck,by omega⟩]
  ·rw [if_neg e1]
   by_cases e2:a=i/\c<=b/\b<k
   ·rw [if_pos e2,if_pos ⟨e2.1,e2.2.1,by omega⟩]
   ·rw [if_neg e2,if_neg (by omega)]
 ·have hkj':k=w:=by omega
  subst hkj'
  refine fin h16 g6 o6 l6 (t6.congr (fun a b _ hb=>?_)) ko6
  by_cases e1:a=i/\c<=b
  ·rw [if_pos e1,if_pos ⟨e1.1,e1.2,hb⟩]
  ·rw [if_neg e1,if_neg (fun x=>e1 ⟨x.1,x.2.1⟩)]
theorem B9v{pA:Option Addr}{pc:Nat}{d0 d2 e0 e2:Bool}{d1A d3A e1A e3A:Option Addr}{d1n d1c d3n d3c e1n e1c e3n e3c:Nat}(t:Mt h11 g o bo rb n w (fun a b=>if a=r then R r b/R r c else R a b))(hr:r<n)(hcw:c<w)(hn:n<=10000)(hw:w<=10000)(hB1:1<=B)(hR:∀ a b,a<n->b<w->Sz B (R a b))(hB:B*7<=100000000)
 (fin:∀ h' g' o',g.le g'->Mt h' g' o' bo rb n w (elimE R r c)->(∀ b,(∀ i,i<n->b≠rb i)->o' b=o b)->wpH Tryz.prog (Instr.buildSlice De 1 #[(0,I (c:Int))]) (fun v hp20=>∃ (t167A:Option Addr) (t167n:Nat) (t167c:Nat),v= .slice t167A t167n t167c/\wpH Tryz.prog (Builtin.append_ #[De,De] De #[.slice pA r pc,.slice t167A t167n t167c]) (fun v1 hp21=>∃ (t168A:Option Addr) (t168n:Nat) (t168c:Nat),v1= .slice t168A t168n t168c/\Invv [.slice t168A t168n t168c,I (B4 ((c:Int)+(1:Int))),.bool e0,.slice e1A e1n e1c,.bool e2,.slice e3A e3n e3c] hp21/\muv [.slice t168A t168n t168c,I (B4 ((c:Int)+(1:Int))),.bool e0,.slice e1A e1n e1c,.bool e2,.slice e3A e3n e3c] hp21<muv [.slice pA r pc,I (c:Int),.bool d0,.slice d1A d1n d1c,.bool d2,.slice d3A d3n d3c] hp2) hp20) h'):
 Ed Tryz.prog (some ⟨bo,0,none⟩) n Invv muv pA r pc (c:Int) d0 d1A d1n d1c d2 d3A d3n d3c e0 e1A e1n e1c e2 e3A e3n e3c hp2 h11:=by
 unfold Ed
 refine ⟨fun L hq=>∃ (i:Nat) (g' o':Heap),i<=n/\L=[I (i:Int)]/\g.le g'/\Mt hq g' o' bo rb n w (fun a b=>if a=r then R r b/R r c else if a<i then elimE R r c a b else R a b)/\(∀ b,(∀ i,i<n->b≠rb i)->o' b=o b),fun L _=>n-(iAt L 0).toNat,⟨0,g,o,by omega,rfl,B3 _,t.congr (fun a b _ hb=>?_),fun _ _=>rfl⟩,?_⟩
 ·by_cases ea:a=r
  ·rw [if_pos ea,if_pos ea]
  ·rw [if_neg ea,if_neg ea,if_neg (by omega)]
 rintro z h14 ⟨i,g5,o5,hi,eL5,l5,t5,ko5⟩
 obtain rfl:z=(i:Int):=by simpa using eL5
 have ewi:B4 ((i:Int)+1)=((i+1:Nat):Int):=by rw [B5]<;>omega
 refine B7 (fun hilt=>?_) (fun hige=>?_)
 ·have hin:i<n:=by omega
  obtain ⟨c5,hc5,kh5⟩:=t5.head hin
  obtain ⟨x,ix,x0,x1,x2,x3⟩:=t5.elem hin hcw
  refine ⟨_,rfl,by omega,by omega,_,_,_,t5.sep.cell kh5,_,rfl,by omega,by omega,_,_,_,_,_,_,_,_,t5.sep.cell x0,t5.sep.cell x1,t5.sep.cell x2,t5.sep.cell x3,?_⟩
  have same:∀ (hq:i=r\/R i c=0),(∃ (i':Nat) (g' o':Heap),i'<=n/\[I (B4 ((i:Int)+1))]=[I (i':Int)]/\g.le g'/\Mt h14 g' o' bo rb n w (fun a b=>if a=r then R r b/R r c else if a<i' then elimE R r c a b else R a b)/\(∀ b,(∀ i,i<n->b≠rb i)->o' b=o b))/\n-(iAt [I (B4 ((i:Int)+1))] 0).toNat<n-(iAt [I (i:Int)] 0).toNat:=by
   intro hq
   rw [ewi]
   refine ⟨⟨i+1,g5,o5,by omega,rfl,l5,t5.congr (fun a b _ _=>?_),ko5⟩,by simp only [Gu];omega⟩
   by_cases ea:a=r
   ·rw [if_pos ea,if_pos ea]
   ·rw [if_neg ea,if_neg ea]
    by_cases h1:a<i
    ·rw [if_pos h1,if_pos (by omega)]
    ·rw [if_neg h1]
     by_cases h2:a<i+1
     ·rw [if_pos h2]
      have:a=i:=by omega
      subst this
      rcases hq with hq|hq
      ·exact absurd hq ea
      ·unfold elimE
       rw [if_neg ea,if_pos (.inl hq)]
     ·rw [if_neg h2]
  refine E4 (fun he=>same (.inl (by omega))) (fun he=>?_)
  have hir:i≠r:=by omega
  rw [if_neg hir,if_neg (Nat.lt_irrefl i)] at ix
  refine Ci (ix.mono t5.sep.le) ⟨_,rfl,E4 (fun e=>?_) (fun e=>?_)⟩
  ·exact same (.inr (by rw [Int.sign_eq_zero_iff_zero] at e;exact Rat.num_eq_zero.1 e))
  have hg0:R i c≠0:=fun h=>e (by rw [h];rfl)
  refine B9u (B:=B) t5 hin hr hir (by omega) hn hw ix (fun b hb=>by rw [if_neg hir,if_neg (Nat.lt_irrefl i)];exact hR i b hin hb) (fun b hb=>by rw [if_pos rfl];exact (hR r b hr hb).div (hR r c hr hcw) hB1) (hR i c hin hcw) hB ?_
  intro h16 g6 o6 l6 t6 ko6
  rw [ewi]
  refine ⟨⟨i+1,g6,o6,by omega,rfl,A0 l5 l6,t6.congr (fun a b _ hb=>?_),fun b hb=>by rw [ko6 b hb,ko5 b hb]⟩,by simp only [Gu];omega⟩
  by_cases ea:a=i
  ·subst ea
   rw [if_neg hir,if_pos (show a<a+1 by omega)]
   unfold elimE
   rw [if_neg hir]
   by_cases hcb:c<=b
   ·have hno:¬ (R a c=0\/b<c):=by
     rintro (h|h)
     ·exact hg0 h
     ·omega
    rw [if_pos ⟨rfl,hcb⟩,if_neg hir,if_neg (Nat.lt_irrefl a),if_pos rfl,if_neg hno]
   ·rw [if_neg (fun x=>hcb x.2),if_neg hir,if_neg (Nat.lt_irrefl a),if_pos (.inr (by omega))]
  ·rw [if_neg (fun x=>ea x.1)]
   by_cases er:a=r
   ·rw [if_pos er,if_pos er]
   ·rw [if_neg er,if_neg er]
    by_cases h1:a<i
    ·rw [if_pos h1,if_pos (by omega)]
    ·rw [if_neg h1,if_neg (by omega)]
 ·have hin:i=n:=by omega
  subst hin
  exact fin h14 g5 o5 l5 (t5.congr (fun a b ha _=>by
   by_cases ea:a=r
   ·rw [if_pos ea];unfold elimE;rw [if_pos ea]
   ·rw [if_neg ea,if_pos ha])) ko5
theorem B9w{h10:Heap}{xf:QV}{pA:Option Addr}{pc:Nat}{d0 d2 e0 e2:Bool}{d1A d3A e1A e3A:Option Addr}{d1n d1c d3n d3c e1n e1c e3n e3c:Nat}(t:Mt h10 g o bo rb n w R)(hr:r<n)(hcw:c<w)(hn:n<=10000)(hw:w<=10000)(ixf:NQ g xf (R r c))(hR:∀ b,b<w->Sz B (R r b))(hB:B*7<=100000000)
 (fin:∀ h' g' o',g.le g'->Mt h' g' o' bo rb n w (fun a b=>if a=r then R r b/R r c else R a b)->(∀ b,(∀ i,i<n->b≠rb i)->o' b=o b)->Ed Tryz.prog (some ⟨bo,0,none⟩) n Invv muv pA r pc (c:Int) d0 d1A d1n d1c d2 d3A d3n d3c e0 e1A e1n e1c e2 e3A e3n e3c hp2 h'):
 In Tryz.prog (some ⟨bo,0,none⟩) n Invv muv pA r pc (c:Int) d0 d1A d1n d1c d2 d3A d3n d3c xf.s xf.A xf.n xf.c xf.s2 xf.A2 xf.n2 xf.c2 e0 e1A e1n e1c e2 e3A e3n e3c h10 hp2:=by
 unfold In
 refine ⟨fun L hq=>∃ (j:Nat) (g' o':Heap),j<=w/\L=[I (j:Int)]/\g.le g'/\Mt hq g' o' bo rb n w (fun a b=>if a=r/\b<j then R r b/R r c else R a b)/\(∀ b,(∀ i,i<n->b≠rb i)->o' b=o b),fun L _=>w-(iAt L 0).toNat,⟨0,g,o,by omega,rfl,B3 _,t.congr (fun a b _ _=>by rw [if_neg (by omega)]),fun _ _=>rfl⟩,?_⟩
 rintro z h11 ⟨j,g4,o4,hj,eL4,l4,t4,ko4⟩
 obtain rfl:z=(j:Int):=by simpa using eL4
 obtain ⟨ch4,hch4,kh4⟩:=t4.head hr
 have hd4:=t4.sep.cell kh4
 refine ⟨_,rfl,by omega,by omega,_,_,_,hd4,B7 (fun hlt=>?_) (fun hge=>?_)⟩
 ·have hjw:j<w:=by omega
  obtain ⟨x,ix,x0,x1,x2,x3⟩:=t4.elem hr hjw
  rw [if_neg (by omega)] at ix
  refine ⟨_,rfl,by omega,by omega,_,_,_,hd4,_,rfl,by omega,by omega,_,_,_,hd4,_,rfl,by omega,by omega,_,_,_,_,_,_,_,_,t4.sep.cell x0,t4.sep.cell x1,t4.sep.cell x2,t4.sep.cell x3,?_⟩
  refine t4.sep.call (A78 ix (ixf.mono l4) (hR _ hjw) (hR _ hcw) (by omega) ?_)
  intro w5 g5 l5 i5 h12 s12
  refine ⟨_,_,_,_,_,_,_,_,rfl,t4.sep.le_le s12 l5,_,rfl,by omega,by omega,?_⟩
  have t5:=t4.next s12 l5
  refine t5.store hr hjw (x:=w5) i5 ?_
  intro h13 o13 t13 ko13
  rw [show B4 ((j:Int)+1)=((j+1:Nat):Int) by rw [B5]<;>omega]
  refine ⟨⟨j+1,g5,o13,by omega,rfl,A0 l4 l5,t13.congr (fun a b _ _=>?_),fun b hb=>by rw [ko13 b (hb _ hr),ko4 b hb]⟩,by simp only [Gu];omega⟩
  show (if a=r/\b=j then R r j/R r c else if a=r/\b<j then R r b/R r c else R a b)=if a=r/\b<j+1 then R r b/R r c else R a b
  by_cases e1:a=r/\b=j
  ·obtain ⟨rfl,rfl⟩:=e1
   rw [if_pos ⟨rfl,rfl⟩,if_pos ⟨rfl,by omega⟩]
  ·rw [if_neg e1]
   by_cases e2:a=r/\b<j
   ·rw [if_pos e2,if_pos ⟨e2.1,by omega⟩]
   ·rw [if_neg e2,if_neg (by omega)]
 ·have hjw:j=w:=by omega
  subst hjw
  refine fin h11 g4 o4 l4 (t4.congr (fun a b _ hb=>?_)) ko4
  by_cases ea:a=r
  ·rw [if_pos ⟨ea,hb⟩,if_pos ea]
  ·rw [if_neg (fun x=>ea x.1),if_neg ea]
end
section
variable {g o h5 h9 hp2:Heap} {bo n w r c B k:Nat} {rb:Nat->Nat} {R:Nat->Nat->Rat} {q:Rat} {Invv:List Value->Heap->Prop} {muv:List Value->Heap->Nat} {pA:Option Addr} {pc:Nat} {wd wd0:QV} {l:List Nat}
theorem B9x(hl:l.length=r)(t:Mt h9 g o bo rb n w R)(ow:OwnSl o F1 pA pc (zs l))(ap:Si bo rb n pA)(iq:NQ g wd q)(hr:r<n)(hcw:c<w)(hn:n<=10000)(hw:w<=10000)(hB1:1<=B)(hq:Sz B q)(hR:∀ a b,a<n->b<w->Sz B (R a b))(hB:B*7<=100000000)
 (fin:∀ h' g' o' A' c' wd',g.le g'->Mt h' g' o' bo rb n w (elimE R r c)->OwnSl o' F1 A' c' (zs (l++[c]))->Si bo rb n A'->NQ g' wd' (q*R r c)->Invv (.slice A' (r+1) c'::I (B4 ((c:Int)+1))::qc wd') h'/\muv (.slice A' (r+1) c'::I (B4 ((c:Int)+1))::qc wd') h'<muv (.slice pA r pc::I (c:Int)::qc wd0) hp2):
 Io Tryz.prog (some ⟨bo,0,none⟩) n Invv muv pA r pc (c:Int) wd0.s wd0.A wd0.n wd0.c wd0.s2 wd0.A2 wd0.n2 wd0.c2 wd.s wd.A wd.n wd.c wd.s2 wd.A2 wd.n2 wd.c2 hp2 h9:=by
 unfold Io
 obtain ⟨ch,hch,kh⟩:=t.head hr
 obtain ⟨xf,ixf,xf0,xf1,xf2,xf3⟩:=t.elem hr hcw
 refine ⟨_,rfl,by omega,by omega,_,_,_,t.sep.cell kh,_,rfl,by omega,by omega,_,_,_,_,_,_,_,_,t.sep.cell xf0,t.sep.cell xf1,t.sep.cell xf2,t.sep.cell xf3,?_⟩
 refine t.sep.call (Pt iq ixf hq (hR _ _ hr hcw) (by omega) ?_)
 intro wd4 g3 l3 i4 h10 s10
 refine ⟨_,_,_,_,_,_,_,_,rfl,?_⟩
 refine B9w (B:=B) (t.next s10 l3) hr hcw hn hw (ixf.mono l3) (fun b hb=>hR _ b hr hb) hB ?_
 intro h11 g4 o4 l4 t4 ko4
 refine B9v (B:=B) t4 hr hcw hn hw hB1 hR hB ?_
 intro h14 g5 o5 l5 tF ko5'
 have ko5:∀ b,(∀ i,i<n->b≠rb i)->o5 b=o b:=fun b hb=>by rw [ko5' b hb,ko4 b hb]
 have ow5:OwnSl o5 F1 pA pc (zs l):=ow.keep fun b x hA e=>by rw [ko5 b (fun i hi e=>ap.2 i hi (by rw [<- e];exact hA))];exact e
 have hzl0:(zs l).length=r:=by simp [hl]
 refine Bd (ty:=De) B50 tF.sep ow5 hzl0.symm (y:=((c:Nat):Int)) rfl (by decide) (by rw [hzl0];omega) (by rw [hzl0];omega) ?_
 intro A6 c6 h16 g6 o6 l6 s6 ow6 kp6
 obtain ⟨⟨y0,hy0⟩,hyr⟩:=tF.own
 have t6:=tF.keep s6 l6 (fun k x e hk=>by
  rcases hk with rfl|⟨q,hq,rfl⟩
  ·exact (kp6 _ _ e ap.1).1
  ·exact (kp6 _ _ e (ap.2 q hq)).1)
 rw [hzl0]
 refine fin h16 g6 o6 A6 c6 wd4 (A0 l3 (A0 l4 (A0 l5 l6))) t6 (by simpa [zs] using ow6) ⟨(kp6 _ _ hy0 ap.1).2,fun q hq=>?_⟩ (i4.mono (A0 l4 (A0 l5 l6)))
 obtain ⟨x,hx⟩:=hyr q hq
 exact (kp6 _ _ hx (ap.2 q hq)).2
theorem B9y(hl:l.length=r)(t:Mt h5 g o bo rb n w R)(ow:OwnSl o F1 pA pc (zs l))(ap:Si bo rb n pA)(iq:NQ g wd0 q)(hr:r<n)(hk:k<=n)(hcw:c<w)(hn:n<=10000)(hw:w<=10000)(hB1:1<=B)(hq:Sz B q)(hR:∀ a b,a<n->b<w->Sz B (R a b))(hB:B*7<=100000000)
 (fin0:k=n->Invv (.slice pA r pc::I (B4 ((c:Int)+1))::qc ⟨false,none,0,0,false,none,0,0⟩) h5/\muv (.slice pA r pc::I (B4 ((c:Int)+1))::qc ⟨false,none,0,0,false,none,0,0⟩) h5<muv (.slice pA r pc::I (c:Int)::qc wd0) hp2)
 (fin:k<n->∀ h' g' o' rb' A' c' wd',g.le g'->Mt h' g' o' bo rb' n w (elimE (fun i=>R (xch r k i)) r c)->OwnSl o' F1 A' c' (zs (l++[c]))->Si bo rb' n A'->NQ g' wd' ((if k=r then q else -q)*R k c)->Invv (.slice A' (r+1) c'::I (B4 ((c:Int)+1))::qc wd') h'/\muv (.slice A' (r+1) c'::I (B4 ((c:Int)+1))::qc wd') h'<muv (.slice pA r pc::I (c:Int)::qc wd0) hp2):
 Ip Tryz.prog (some ⟨bo,0,none⟩) n Invv muv pA r pc (c:Int) wd0.s wd0.A wd0.n wd0.c wd0.s2 wd0.A2 wd0.n2 wd0.c2 (k:Int) hp2 h5:=by
 unfold Ip
 refine E4 (fun e=>fin0 (by omega)) (fun hne=>?_)
 have hkn:k<n:=by omega
 have hxn:∀ i,i<n->xch r k i<n:=fun i hi=>Nk hr hkn hi
 have xk:xch r k r=k:=Ow _ _
 refine ⟨fun L hq=>∃ (g2 o2:Heap) (rb2:Nat->Nat) (wd:QV),L=qc wd/\g.le g2/\Mt hq g2 o2 bo rb2 n w (fun i=>R (xch r k i))/\OwnSl o2 F1 pA pc (zs l)/\Si bo rb2 n pA/\NQ g2 wd (if k=r then q else -q),?_,?_⟩
 ·refine K9 (fun hne2=>?_) (fun heq2=>?_)
  ·have hne':k≠r:=by omega
   obtain ⟨c1,hc1,k1⟩:=t.head hr
   obtain ⟨c2,hc2,k2⟩:=t.head hkn
   refine ⟨_,rfl,by omega,by omega,_,_,_,t.sep.cell k1,_,rfl,by omega,by omega,_,_,_,t.sep.cell k2,_,rfl,by omega,by omega,?_⟩
   refine t.swap hr hkn Vb k1 k2 hc1 hc2 (fun h6 hst=>⟨_,rfl,by omega,by omega,hst (fun h7 o7 t7 ko7=>?_)⟩)
   refine t7.sep.call (Yw iq (fun wd3 i3 h8 s8=>⟨_,_,_,_,_,_,_,_,rfl,?_⟩))
   refine ⟨g,o7,_,wd3,rfl,B3 _,t7.next s8 (B3 _),ow.keep fun b x hA e=>?_,⟨ap.1,fun i hi=>ap.2 _ (hxn i hi)⟩,by rw [if_neg hne'];exact i3⟩
   rw [ko7 b (fun e=>ap.1 (by rw [<- e];exact hA))];exact e
  ·have heq':k=r:=by omega
   refine ⟨g,o,rb,wd0,rfl,B3 _,t.congr (fun i j _ _=>?_),ow,ap,by rw [if_pos heq'];exact iq⟩
   rw [heq'];unfold xch;grind
 rintro e0 e1A e1n e1c e2 e3A e3n e3c h9 ⟨g2,o2,rb2,wd3,eL2,lg2,t2,ow2,ap2,iq2⟩
 obtain ⟨rfl,_⟩:=B59 eL2
 have hq2:Sz B (if k=r then q else -q):=by
  split
  ·exact hq
  ·exact hq.neg
 refine B9x (wd:=⟨e0,e1A,e1n,e1c,e2,e3A,e3n,e3c⟩) hl t2 ow2 ap2 iq2 hr hcw hn hw hB1 hq2 (fun a b ha hb=>hR _ b (hxn a ha) hb) hB ?_
 intro h' g' o' A' c' wd' lg' t' ow' ap' iq'
 rw [xk] at iq'
 exact fin hkn h' g' o' rb2 A' c' wd' (A0 lg2 lg') t' ow' ap' iq'
end
section
variable {h:Heap} {K:Value->Heap->Prop} {A:Option Addr} {n cap m w:Nat} {M:Nat->Nat->Rat}
theorem Wd{cols:Nat}(rs:RowsV h A n w M)(hn1:1<=n)(hn:n<=10000)(hw1:1<=w)(hw:w<=10000)(hc:cols<=w)(hm1:1<=m)(hs:∀ i j,i<n->j<w->Sz m (M i j))(hm:7^cols*m<=100000000)
 (hK:∀ h' g' o' bo rb c' A' cap' wd,h.le g'->Mt h' g' o' bo rb n w (ecE M n cols).R->OwnSl o' F1 A' cap' (zs (ecE M n cols).cs)->Si bo rb n A'->NQ g' wd (A8m M n cols)->
  K (.tuple #[.slice (some ⟨bo,0,none⟩) n c',.slice A' (ecE M n cols).cs.length cap',wd.v]) h'):FCall Tryz.prog Mm #[.slice A n cap,I (cols:Int)] h K:=by
 refine A2z _ _ _ _ ?_
 unfold A4c
 refine A55 rs (by omega) hw1 (by omega) hn1 ?_
 intro h1 g1 o1 bo rb0 c0 lg1 t1
 refine ⟨_,_,_,rfl,t1.sep.call (B7b ⟨by omega,by omega⟩ ?_)⟩
 intro wd g2 l2 id h2 s2
 have one:((1:Int):Rat)=1:=rfl
 rw [one] at id
 refine ⟨_,_,_,_,_,_,_,_,rfl,fun L hp=>∃ (c:Nat) (g o:Heap) (rb:Nat->Nat) (A':Option Addr) (cap':Nat) (wd:QV),c<=cols/\L= .slice A' (ecE M n c).cs.length cap'::I (c:Int)::qc wd/\h.le g/\Mt hp g o bo rb n w (ecE M n c).R/\OwnSl o F1 A' cap' (zs (ecE M n c).cs)/\Si bo rb n A'/\NQ g wd (ecE M n c).det,fun L _=>cols-(iAt L 1).toNat,
  ⟨0,g2,o1,rb0,none,0,wd,by omega,rfl,A0 lg1 l2,t1.next s2 l2,(OwnSl.nil:OwnSl o1 F1 none 0 ([]:List Int)),⟨by simp,fun i hi=>by simp⟩,id⟩,?_⟩
 rintro pA pn pc z d0 d1A d1n d1c d2 d3A d3n d3c hp ⟨c,g,o,rb,A',cap',wd2,hcc,eL,lg,t,ow,ap,iq⟩
 simp only [List.cons.injEq,Value.int.injEq,Value.slice.injEq,true_and] at eL
 obtain ⟨⟨rfl,rfl,rfl⟩,rfl,eL⟩:=eL
 obtain ⟨rfl,_⟩:=B59 (by simpa only [List.cons.injEq,Value.bool.injEq,Value.slice.injEq,and_true] using eL:(.bool d0:Value) :: .slice d1A d1n d1c :: .bool d2 :: .slice d3A d3n d3c::[]= .bool wd2.s :: .slice wd2.A wd2.n wd2.c :: .bool wd2.s2 :: .slice wd2.A2 wd2.n2 wd2.c2::[])
 have hlen:=Mo M n c
 have fin:∀ (he:ecE M n cols=ecE M n c),Br (decide ((((ecE M n c).cs.length:Nat):Int)<(cols:Int))) (K (.tuple #[.slice (some ⟨bo,0,none⟩) n c0,.slice pA (ecE M n c).cs.length pc,.agg #[.bool false,.slice none 0 0,.bool false,.slice none 0 0]]) hp)
  (K (.tuple #[.slice (some ⟨bo,0,none⟩) n c0,.slice pA (ecE M n c).cs.length pc,.agg #[.bool d0,.slice d1A d1n d1c,.bool d2,.slice d3A d3n d3c]]) hp):=by
  intro he
  rw [<- he] at t ow iq ⊢
  refine B7 (fun hlt=>?_) (fun hge=>?_)
  ·have e:A8m M n cols=0:=by unfold A8m;rw [if_pos (by omega)]
   exact hK hp g o bo rb c0 pA pc ⟨false,none,0,0,false,none,0,0⟩ lg t ow ap (by rw [e];exact NQ.zero)
  ·have e:A8m M n cols=(ecE M n cols).det:=by unfold A8m;rw [if_neg (by omega)]
   exact hK hp g o bo rb c0 pA pc ⟨d0,d1A,d1n,d1c,d2,d3A,d3n,d3c⟩ lg t ow ap (by rw [e];exact iq)
 refine B7 (fun hlt=>?_) (fun hge=>fin (by have:c=cols:=by omega
                                           rw [this]))
 have hccl:c<cols:=by omega
 have hcw:c<w:=by omega
 refine B7 (fun hfull=>?_) (fun hfull=>fin (by
  have:=A74 (n:=n) (s:=⟨M,[],1⟩) (c:=c) (by show n<=(ecE M n c).cs.length;omega) (cols-c)
  rw [show c+(cols-c)=cols by omega] at this
  exact this))
 have hrn:(ecE M n c).cs.length<n:=by omega
 have hsz:=(SzE.run (n:=n) (w:=w) (m:=m) (s:=⟨M,[],1⟩) ⟨fun a b ha hb=>by show Sz (7^0*m) (M a b);rw [Nat.pow_zero,Nat.one_mul];exact hs a b ha hb,by show Sz (7^0*m) 1;rw [Nat.pow_zero,Nat.one_mul];exact Sz.int (z:=1) (ZB.one hm1) hm1,Nat.zero_le _⟩ hm1 c (by omega))
 have hszc:SzE n w m (ecE M n c):=hsz
 have hstep:ecE M n (c+1)=Dg n c (ecE M n c):=rfl
 have hp7:7^(ecE M n c).cs.length*m*7<=7^cols*m:=by
  have h1:7^(ecE M n c).cs.length*7<=7^cols:=by rw [<- Nat.pow_succ];exact Nat.pow_le_pow_right (by decide) (by omega)
  calc 7^(ecE M n c).cs.length*m*7=7^(ecE M n c).cs.length*7*m:=by rw [Nat.mul_assoc,Nat.mul_comm m 7,<- Nat.mul_assoc]
   _<=7^cols*m:=Nat.mul_le_mul_right _ h1
 have hB1:=Oy (ecE M n c).cs.length m hm1
 obtain ⟨r1,r2,r3,r4⟩:=To n c (ecE M n c) hszc.len
 have ewc:B4 ((c:Int)+1)=((c+1:Nat):Int):=by rw [B5]<;>omega
 generalize hst:ecE M n c=st at *
 generalize hB:7^st.cs.length*m=B at *
 refine ⟨fun L hq=>L=[I ((Er n c st:Nat):Int)]/\hq=hp,⟨fun L hq=>∃ k:Nat,st.cs.length<=k/\k<=Er n c st/\L=[I (k:Int)]/\hq=hp,fun L _=>n-(iAt L 0).toNat,⟨st.cs.length,Nat.le_refl _,r1,rfl,rfl⟩,?_⟩,?_⟩
 ·rintro z hq ⟨k,hk1,hk2,eL,rfl⟩
  obtain rfl:z=(k:Int):=by simpa using eL
  refine B7 (fun hlt=>?_) (fun hge=>⟨by have:k=Er n c st:=by omega
                                        rw [this],rfl⟩)
  have hkn:k<n:=by omega
  obtain ⟨ch,hch,hcell⟩:=t.head hkn
  obtain ⟨x,ix,x0,x1,x2,x3⟩:=t.elem hkn hcw
  refine ⟨_,rfl,by omega,by omega,_,_,_,t.sep.cell hcell,_,rfl,by omega,by omega,_,_,_,_,_,_,_,_,t.sep.cell x0,t.sep.cell x1,t.sep.cell x2,t.sep.cell x3,?_⟩
  refine Ci (ix.mono t.sep.le) ⟨_,rfl,E4 (fun e=>?_) (fun e=>?_)⟩
  ·have e0:st.R k c=0:=by rw [Int.sign_eq_zero_iff_zero] at e;exact Rat.num_eq_zero.1 e
   have hlt2:k<Er n c st:=by
    by_cases hx:k<Er n c st
    ·exact hx
    ·exfalso
     have hk3:k=Er n c st:=by omega
     exact r3 (by omega) (by rw [<- hk3];exact e0)
   rw [show B4 ((k:Int)+1)=((k+1:Nat):Int) by rw [B5]<;>omega]
   exact ⟨⟨k+1,by omega,by omega,rfl,rfl⟩,by simp only [Gu];omega⟩
  ·have e0:st.R k c≠0:=fun h=>e (by rw [h];rfl)
   have:k=Er n c st:=by
    by_cases hx:k<Er n c st
    ·exact absurd (r4 k hk1 hx) e0
    ·omega
   exact ⟨by rw [this],rfl⟩
 rintro k1 hq ⟨eL,rfl⟩
 obtain rfl:k1=((Er n c st:Nat):Int):=by simpa using eL
 refine B9y (B:=B) (wd0:=⟨d0,d1A,d1n,d1c,d2,d3A,d3n,d3c⟩) rfl t ow ap iq hrn r2 hcw hn hw hB1 (by rw [<- hB];exact hszc.det) (fun a b ha hb=>by rw [<- hB];exact hszc.R a b ha hb) (by omega) (fun hno=>?_) (fun hrr=>?_)
 ·have hs':Dg n c st={ st with det:=0 }:=by unfold Dg;rw [if_pos hrn,if_neg (by omega)]
  rw [ewc]
  refine ⟨⟨c+1,g,o,rb,pA,pc,⟨false,none,0,0,false,none,0,0⟩,by omega,?_,lg,?_⟩,?_⟩
  ·rw [hstep,hs']
  ·rw [hstep,hs'];exact ⟨t,ow,ap,NQ.zero⟩
  ·show cols-((c+1:Nat):Int).toNat<cols-((c:Nat):Int).toNat
   omega
 ·intro h' g' o' rb' A6 c6 wd' lg' t' ow' ap' iq'
  have hs':Dg n c st={ R:=elimE (fun i=>st.R (xch st.cs.length (Er n c st) i)) st.cs.length c,cs:=st.cs++[c],det:=(if Er n c st=st.cs.length then st.det else-st.det)*st.R (Er n c st) c }:=by unfold Dg;rw [if_pos hrn,if_pos hrr]
  have elen:(st.cs++[c]).length=st.cs.length+1:=by simp
  rw [ewc]
  refine ⟨⟨c+1,g',o',rb',A6,c6,wd',by omega,?_,A0 lg lg',?_⟩,?_⟩
  ·rw [hstep,hs',elen]
  ·rw [hstep,hs'];exact ⟨t',ow',ap',iq'⟩
  ·show cols-((c+1:Nat):Int).toNat<cols-((c:Nat):Int).toNat
   omega
end
section
variable {h:Heap} {K:Value->Heap->Prop} {A B:Option Addr} {n m a b:Nat} {r c r2 c2:Int} {ls ls2:Nat->List UInt8}
theorem Qf{k:Int}(r:RowV SSr h A n ls)(hn:n<=1000000000)(hK1:(∀ i,i<n->((ls i).length:Int)<=k)->K (.bool true) h)(hK0:¬ (∀ i,i<n->((ls i).length:Int)<=k)->K (.bool false) h):FCall Tryz.prog Pe #[I k,.slice A n a] h K:=by
 refine B0d _ _ _ _ ?_
 unfold B4k
 refine ⟨fun L hp=>∃ i:Nat,i<=n/\L=[I (i:Int)]/\hp=h/\∀ j,j<i->((ls j).length:Int)<=k,fun L _=>n-(iAt L 0).toNat,⟨0,by omega,rfl,rfl,fun j hj=>by omega⟩,?_⟩
 rintro z hp ⟨i,hi,eL,rfl,hh⟩
 obtain rfl:z=(i:Int):=by simpa using eL
 refine B7 (fun hlt=>?_) (fun hge=>?_)
 ·have hin:i<n:=by omega
  obtain ⟨x,rfl,hc⟩:=r.sat hin
  refine ⟨x,rfl,by omega,by omega,_,hc,?_⟩
  rw [J7]
  refine B7 (fun e=>hK0 fun hx=>by have:=hx i hin;omega) (fun e=>?_)
  rw [show B4 ((i:Int)+1)=((i+1:Nat):Int) by rw [B5]<;>omega]
  refine ⟨⟨i+1,by omega,rfl,rfl,fun j hj=>?_⟩,by simp only [Gu];omega⟩
  by_cases e2:j=i
  ·subst e2;omega
  ·exact hh j (by omega)
 ·have:i=n:=by omega
  subst this
  exact hK1 hh
theorem Jx(x:RowV SSr h A n ls)(y:RowV SSr h B m ls2)(hn:n<=1000000000)(hK1:n=m->(∀ i,i<n->ls i=ls2 i)->K (.bool true) h)(hK0:¬ (n=m/\∀ i,i<n->ls i=ls2 i)->K (.bool false) h):FCall Tryz.prog Gx #[.slice A n a,.slice B m b] h K:=by
 refine A2x _ _ _ _ _ _ ?_
 unfold A4a
 refine K9 (fun e=>hK0 fun hx=>e (by omega)) (fun e=>?_)
 have e:n=m:=by omega
 subst e
 refine ⟨fun L hp=>∃ i:Nat,i<=n/\L=[I (i:Int)]/\hp=h/\∀ j,j<i->ls j=ls2 j,fun L _=>n-(iAt L 0).toNat,⟨0,by omega,rfl,rfl,fun j hj=>by omega⟩,?_⟩
 rintro z hp ⟨i,hi,eL,rfl,hh⟩
 obtain rfl:z=(i:Int):=by simpa using eL
 refine B7 (fun hlt=>?_) (fun hge=>?_)
 ·have hin:i<n:=by omega
  obtain ⟨u,rfl,hc⟩:=x.sat hin
  obtain ⟨v,rfl,hd⟩:=y.sat hin
  refine ⟨u,rfl,by omega,by omega,_,hc,v,rfl,by omega,by omega,_,hd,?_⟩
  rw [Ks]
  refine Da (B7 (fun e=>?_) (fun e=>hK0 fun hx=>e (hx.2 i hin)))
  rw [show B4 ((i:Int)+1)=((i+1:Nat):Int) by rw [B5]<;>omega]
  refine ⟨⟨i+1,by omega,rfl,rfl,fun j hj=>?_⟩,by simp only [Gu];omega⟩
  by_cases e2:j=i
  ·subst e2;exact e
  ·exact hh j (by omega)
 ·have:i=n:=by omega
  subst this
  exact hK1 rfl hh
theorem A2t{xs:List Int}(s:SlF h A xs){i:Nat}(hi:i<xs.length):∃ x,A=some x/\h.cell? (Addr.add x (i*1))=some (I xs[i]):=by
 obtain ⟨x,e,hc⟩:=SlF.at (by decide) s hi
 have:=hc 0 _ rfl
 rw [Kw] at this
 exact ⟨x,e,this⟩
theorem A52{xs ys:List Int}(x:SlF h A xs)(y:SlF h B ys)(hn:n=xs.length)(hm:m=ys.length)(hb:n<=1000000000)(hK1:xs=ys->K (.bool true) h)(hK0:xs≠ys->K (.bool false) h):FCall Tryz.prog A29 #[.slice A n a,.slice B m b] h K:=by
 refine B2z _ _ _ _ _ _ ?_
 unfold B8n
 refine K9 (fun e=>hK0 fun hx=>e (by rw [hn,hm,hx])) (fun e=>?_)
 have e:n=m:=by omega
 subst e
 refine ⟨fun L hp=>∃ i:Nat,i<=n/\L=[I (i:Int)]/\hp=h/\∀ j,j<i->xs[j]? = ys[j]?,fun L _=>n-(iAt L 0).toNat,⟨0,by omega,rfl,rfl,fun j hj=>by omega⟩,?_⟩
 rintro z hp ⟨i,hi,eL,rfl,hh⟩
 obtain rfl:z=(i:Int):=by simpa using eL
 refine B7 (fun hlt=>?_) (fun hge=>?_)
 ·have h1:i<xs.length:=by omega
  have h2:i<ys.length:=by omega
  obtain ⟨u,rfl,hc⟩:=A2t x h1
  obtain ⟨v,rfl,hd⟩:=A2t y h2
  refine ⟨u,rfl,by omega,by omega,_,hc,v,rfl,by omega,by omega,_,hd,?_⟩
  refine K9 (fun e=>hK0 fun hx=>e (by simp only [hx])) (fun e=>?_)
  rw [show B4 ((i:Int)+1)=((i+1:Nat):Int) by rw [B5]<;>omega]
  refine ⟨⟨i+1,by omega,rfl,rfl,fun j hj=>?_⟩,by simp only [Gu];omega⟩
  by_cases e2:j=i
  ·subst e2;rw [List.getElem?_eq_getElem h1,List.getElem?_eq_getElem h2,e]
  ·exact hh j (by omega)
 ·have:i=n:=by omega
  subst this
  refine hK1 (List.ext_getElem? fun j=>?_)
  by_cases hj:j<i
  ·exact hh j hj
  ·rw [List.getElem?_eq_none (by omega),List.getElem?_eq_none (by omega)]
structure Small (r c:Int) (n:Nat) (ls:Nat->List UInt8) (k d:Int):Prop where
 hr:r<=k
 hc:c<=k
 hn:(n:Int)<=k*k+2
 hl:∀ i,i<n->((ls i).length:Int)<=d
theorem A20{k d:Int}(x:RowV SSr h A n ls)(hk:0<=k/\k<=1000)(hK1:Small r c n ls k d->K (.bool true) h)(hK0:¬ Small r c n ls k d->K (.bool false) h):FCall Tryz.prog Bw #[A4y r c A n a,I k,I d] h K:=by
 refine Se _ _ _ _ _ _ _ ?_
 unfold Od
 have hkk:k*k<=1000*1000:=Int.mul_le_mul hk.2 hk.2 hk.1 (by omega)
 have hkk0:0<=k*k:=Int.mul_nonneg hk.1 hk.1
 have e1:B4 (k*k)=k*k:=B5 (by omega) (by omega)
 have e2:B4 (k*k+2)=k*k+2:=B5 (by omega) (by omega)
 rw [e1,e2]
 refine B7 (fun h1=>B7 (fun h2=>B7 (fun h3=>?_) (fun e=>hK0 fun x=>e x.hn)) (fun e=>hK0 fun x=>e x.hc)) (fun e=>hK0 fun x=>e x.hr)
 exact Qf x (by omega) (fun hx=>⟨_,rfl,hK1 ⟨h1,h2,h3,hx⟩⟩) (fun hx=>⟨_,rfl,hK0 fun y=>hx y.hl⟩)
theorem A1y(x:RowV SSr h A n ls)(hK1:Small r c n ls 6 12->K (.bool true) h)(hK0:¬ Small r c n ls 6 12->K (.bool false) h):FCall Tryz.prog Wv #[A4y r c A n a] h K:=by
 refine B0b _ _ _ _ _ ?_
 unfold B4i
 exact A20 x (by omega) (fun hx=>⟨_,rfl,hK1 hx⟩) (fun hx=>⟨_,rfl,hK0 hx⟩)
end
theorem B1v(ls:List (List UInt8)):(ls.flatMap fun l=>[Value.string (bs l)])=ls.map fun l=>Value.string (bs l):=by
 induction ls with
 | nil=>rfl
 | cons x l ih=>rw [List.flatMap_cons,ih];rfl
theorem Jn{h:Heap}{A:Option Addr}{ls:List (List UInt8)}(s:SlV h A (ls.map fun l=>Value.string (bs l))):RowV SSr h A ls.length (fun i=>ls.getD i []):=by
 refine ⟨ls,?_,rfl,fun i hi=>⟨ls[i],List.getElem?_eq_getElem hi,?_⟩⟩
 ·show SlV h A (ls.flatMap fun l=>[Value.string (bs l)])
  rw [B1v];exact s
 ·show ls[i]=ls.getD i []
  simp [hi]
theorem Vh(l:List Rat):rvs (fun i=>(l.map N3).getD i [])=fun i=>l.getD i 0:=by
 funext i
 show rv ((l.map N3).getD i [])=_
 by_cases hi:i<l.length
 ·rw [List.getD_eq_getElem?_getD,List.getD_eq_getElem?_getD,List.getElem?_map,List.getElem?_eq_getElem hi]
  exact Tn _
 ·rw [List.getD_eq_getElem?_getD,List.getD_eq_getElem?_getD,List.getElem?_map,List.getElem?_eq_none (by omega)]
  exact B37 (by rintro ⟨q,hq⟩;exact absurd hq.symm (by
   have:=A6p q
   obtain ⟨c,r,e,_⟩:=this
   rw [e];simp))
theorem B6q:N3 1=[49]:=by
 have:L9 1=[49]:=by decide +kernel
 simp [N3,Ir,this]
theorem B73:N3 2=[50]:=by
 have:L9 2=[50]:=by decide +kernel
 have h1:(2:Rat).den=1:=by decide +kernel
 have h2:(2:Rat).num=2:=by decide +kernel
 simp [N3,Ir,this,h1,h2]
theorem C06:N3 3=[51]:=by
 have:L9 3=[51]:=by decide +kernel
 have h1:(3:Rat).den=1:=by decide +kernel
 have h2:(3:Rat).num=3:=by decide +kernel
 simp [N3,Ir,this,h1,h2]
theorem B8w:N3 4=[52]:=by
 have:L9 4=[52]:=by decide +kernel
 have h1:(4:Rat).den=1:=by decide +kernel
 have h2:(4:Rat).num=4:=by decide +kernel
 simp [N3,Ir,this,h1,h2]
theorem B9g:N3 (-2)=[45,50]:=by
 have:L9 2=[50]:=by decide +kernel
 have h1:(-2:Rat).den=1:=by decide +kernel
 have h2:(-2:Rat).num= -2:=by decide +kernel
 simp [N3,Ir,this,h1,h2]
theorem aw1:(elE (fun i=>([2,4,1,2]:List Rat).getD i 0) 2 2 2).cs=[0]:=by decide +kernel
theorem aw2:∀ k,k<4->B58 (fun i=>([2,4,1,2]:List Rat).getD i 0) 2 2 k=([1,2,0,0]:List Rat).getD k 0:=by decide +kernel
theorem aw3:B6y (fun i=>([1,2,3,4]:List Rat).getD i 0) 2= -2:=by decide +kernel
theorem A5f{h:Heap}{K:Value->Heap->Prop}(gl:Gl h)(hK:∀ h',h.le h'->K (.bool true) h'):FCall Tryz.prog Bm #[] h K:=by
 refine B0c ?_
 unfold B4j
 have sz:∀ (ls:List (List UInt8)),(∀ x∈ls,x.length<=1)->∀ i,i<ls.length->(ls.getD i []).length<=1:=by
  intro ls h i hi
  rw [List.getD_eq_getElem?_getD,List.getElem?_eq_getElem hi]
  exact h _ (List.getElem_mem hi)
 refine A1z Je (ls:=[2,4,1,2].map N3) rfl (by simp) (by rw [show ([2,4,1,2]:List Rat).map N3=[[50],[52],[49],[50]] by simp [B6q,B73,B8w]];rfl) ?_
 intro b1 h1 l1 s1
 have r1:=Jn s1
 have z1:=sz (([2,4,1,2]:List Rat).map N3) (by simp [B6q,B73,B8w])
 refine ⟨_,_,_,rfl,?_⟩
 have hb:∀ rows cols,MOk 2 2 4 (fun i=>(([2,4,1,2]:List Rat).map N3).getD i []) rows cols->2*(3^cols*bnd cols 4)+1<=40000000:=by
  intro rows cols mk
  have:=mk.ec
  have:cols=2:=by omega
  subst this
  decide
 refine Zf (m:=4) (gl.mono l1) r1 (by simp) (fun i hi=>Nat.le_trans (z1 i hi) (by omega)) (fun i hi=>B1h (k:=1) (z1 i hi) (by omega)) hb ?_ ?_
 ·intro rows cols mk b2 h2 A' cap' own
  have e1:=mk.er;have e2:=mk.ec
  have:rows=2:=by omega
  subst this
  have:cols=2:=by omega
  subst this
  have lo:=own.le
  have so:=own.strs
  have io:=own.ints
  rw [Vh] at so io
  rw [aw1] at io
  refine ⟨_,_,_,_,_,_,_,_,_,rfl,?_⟩
  rw [Vh,aw1]
  refine A1z Je (ls:=[1,2,3,4].map N3) rfl (by simp) (by rw [show ([1,2,3,4]:List Rat).map N3=[[49],[50],[51],[52]] by simp [B6q,B73,C06,B8w]];rfl) ?_
  intro b3 h3 l3 s3
  have r3:=Jn s3
  have z3:=sz (([1,2,3,4]:List Rat).map N3) (by simp [B6q,B73,C06,B8w])
  refine ⟨_,_,_,rfl,?_⟩
  have l13:=A0 l1 (A0 lo l3)
  have num3:Mx 2 2 4 (fun i=>(([1,2,3,4]:List Rat).map N3).getD i []):=by
   refine Ut.2 ⟨⟨by omega,by omega,by omega,by omega,by omega⟩,fun i hi=>?_⟩
   have hi':i<([1,2,3,4]:List Rat).length:=hi
   exact ⟨([1,2,3,4]:List Rat)[i],by rw [List.getD_eq_getElem?_getD,List.getElem?_map,List.getElem?_eq_getElem hi'];rfl⟩
  refine A7r (m:=4) (gl.mono l13) r3 (by simp) (fun i hi=>Nat.le_trans (z3 i hi) (by omega)) (fun i hi=>B1h (k:=1) (z3 i hi) (by omega)) ?_ ?_ (fun _ e=>absurd rfl e) (fun hno=>absurd num3 hno)
  ·intro rows cols mk
   have:=mk.ec
   have:cols=2:=by omega
   subst this
   decide
  ·intro q mk h4 l4
   have:q=2:=by have:=mk.er;omega
   subst this
   rw [Vh,aw3]
   refine ⟨_,_,rfl,E4 (fun _=>?_) (fun e=>absurd rfl e)⟩
   refine A1z Je (ls:=[1,2,0,0].map N3) rfl (by simp) (by rw [show ([1,2,0,0]:List Rat).map N3=[[49],[50],[48],[48]] by simp [B6q,B73,Yn]];rfl) ?_
   intro b5 h5 l5 s5
   have r5:=Jn s5
   refine ⟨_,_,_,rfl,?_⟩
   have l25:=A0 l3 (A0 l4 l5)
   refine Jx (so.mono Cl l25) r5 (by simp) (fun _ _=>⟨_,rfl,?_⟩) (fun hno=>absurd ⟨rfl,fun i hi=>?_⟩ hno)
   ·refine T7 B50 rfl ?_
    intro b6 h6
    refine ⟨_,_,_,rfl,?_⟩
    have l6:=Heap.le_put (.cells #[I (0:Int)] F1) h6
    refine A52 (io.1.mono (A0 l25 l6)) (Ii F1 h5 b6 ([0]:List Int)) rfl rfl (by simp) (fun _=>⟨_,rfl,?_⟩) (fun hno=>absurd rfl hno)
    have:(ByteArray.toList (bs (N3 (-2)))==ByteArray.toList ({ data:=#[45,50] }:ByteArray))=true:=by
     rw [B9g]
     exact (Ks _ _).trans (by decide)
    rw [this]
    have:=hK _ (A0 l13 (A0 l4 (A0 l5 l6)))
    exact this
   ·show N3 (B58 (fun i=>([2,4,1,2]:List Rat).getD i 0) 2 2 i)=(([1,2,0,0]:List Rat).map N3).getD i []
    have hi':i<([1,2,0,0]:List Rat).length:=hi
    rw [aw2 i hi,List.getD_eq_getElem?_getD,List.getD_eq_getElem?_getD,List.getElem?_map,List.getElem?_eq_getElem hi']
    rfl
 ·intro hno
  exfalso
  refine hno (Ut.2 ⟨⟨by omega,by omega,by omega,by omega,by simp⟩,fun i hi=>?_⟩)
  have hi':i<([2,4,1,2]:List Rat).length:=hi
  exact ⟨([2,4,1,2]:List Rat)[i],by rw [List.getD_eq_getElem?_getD,List.getElem?_map,List.getElem?_eq_getElem hi'];rfl⟩
section
variable {h:Heap} {K:Value->Heap->Prop} {A B:Option Addr} {n cap m:Nat} {r c:Int} {ls:Nat->List UInt8}
theorem A7q{E:Nat->Rat}{rows cols:Nat}(hs:∀ i,i<rows*cols->Sz m (E i)):∀ i j,i<rows->j<cols->Sz m (mtx E cols i j):=fun _ _ hi hj=>hs _ (Eh hi hj)
theorem B7s{M:Nat->Nat->Rat}{n w c:Nat}(hs:∀ i j,i<n->j<w->Sz m (M i j))(hm:1<=m)(hc:c<=w){b:Nat}(hb:7^c*m<=b):(∀ i j,i<n->j<w->Sz b ((ecE M n c).R i j))/\Sz b (ecE M n c).det:=by
 have z:SzE n w m ⟨M,[],1⟩:=⟨fun i j hi hj=>by simpa using hs i j hi hj,by simpa using (⟨ZB.one hm,ZB.one hm⟩:Sz m 1),Nat.zero_le _⟩
 have y:=z.run hm c hc
 have hl:=(Mo M n c).1
 have hle:7^(ecE M n c).cs.length*m<=7^c*m:=Nat.mul_le_mul_right _ (Nat.pow_le_pow_right (by decide) hl)
 exact ⟨fun i j hi hj=>(y.R i j hi hj).mono (by show 7^(ecE M n c).cs.length*m<=b;omega),y.det.mono (by show 7^(ecE M n c).cs.length*m<=b;omega)⟩
end
theorem B5j(cs:List Nat){i:Nat}(hi:i<cs.length):(zs cs)[i]'(by rw [List.length_map];exact hi)=((cs.getD i 0:Nat):Int):=by
 rw [List.getElem_map,List.getD_eq_getElem?_getD,List.getElem?_eq_getElem hi];rfl
theorem B39{h:Heap}{A:Option Addr}{cs:List Nat}(s:SlF h A (zs cs)){i:Nat}(hi:i<cs.length):∃ x,A=some x/\h.cell? (Addr.add x (i*1))=some (I ((cs.getD i 0:Nat):Int)):=by
 obtain ⟨x,e,hc⟩:=A2t s (i:=i) (by rw [List.length_map];exact hi)
 rw [B5j cs hi] at hc
 exact ⟨x,e,hc⟩
theorem A7y{cs:List Nat}{c:Nat}(h:Asc cs c){i:Nat}(hi:i<cs.length):cs.getD i 0<c:=by
 rw [List.getD_eq_getElem?_getD,List.getElem?_eq_getElem hi];exact h.lt _ (List.getElem_mem hi)
section
variable {h:Heap} {K:Value->Heap->Prop} {A:Option Addr} {n cap m w:Nat} {r c:Int} {ls:Nat->List UInt8} {M:Nat->Nat->Rat}
end
section
variable {α β:Type} {R:Heap->α->β->Prop} {g:Heap}
theorem Row.app{xs ys:List α}{f:Nat->β}{p q:Nat}(hp:xs.length=p)(r:Row R g xs p f)(r2:Row R g ys q (fun j=>f (p+j))):Row R g (xs++ys) (p+q) f:=fun i hi=>by
 by_cases h:i<p
 ·obtain ⟨w,e,x⟩:=r i h
  exact ⟨w,by rw [List.getElem?_append_left (by omega)];exact e,x⟩
 ·obtain ⟨w,e,x⟩:=r2 (i-p) (by omega)
  refine ⟨w,by rw [List.getElem?_append_right (by omega),hp];exact e,?_⟩
  have e2:p+(i-p)=i:=by omega
  show R g w (f i)
  rw [<- e2];exact x
end
section
variable {h:Heap} {K:Value->Heap->Prop} {A:Option Addr} {n cap m:Nat} {r c:Int} {ls:Nat->List UInt8}
theorem A1b{z:Int}(hz: -9223372036854775808<=z/\z<=9223372036854775807)(hK:∀ w h',h.le h'->RQ h' w (z:Rat)->K w.v h'):FCall Tryz.prog Wl #[I z] h K:=by
 refine A9l _ ?_
 unfold B48
 exact Es hz.1 hz.2 fun s1 A1 n1 c1 h' l i=>⟨_,_,_,_,rfl,hK _ h' l (Vj i)⟩
end
def I0(E b:Nat->Rat)(cols:Nat):Nat->Rat:=fun k=>if k%(cols+1)<cols then E (k/(cols+1)*cols+k%(cols+1)) else b (k/(cols+1))
theorem dm1{i j c:Nat}(hj:j<c):(i*c+j)/c=i/\(i*c+j)%c=j:=by
 rw [Nat.add_comm,Nat.add_mul_mod_self_right,Nat.mod_eq_of_lt hj,Nat.add_mul_div_right _ _ (by omega),Nat.div_eq_of_lt hj,Nat.zero_add]
 exact ⟨rfl,rfl⟩
theorem Iu(E b:Nat->Rat){cols i j:Nat}(hj:j<cols):mtx (I0 E b cols) (cols+1) i j=mtx E cols i j:=by
 obtain ⟨e1,e2⟩:=dm1 (i:=i) (show j<cols+1 by omega)
 show I0 E b cols (i*(cols+1)+j)=_
 unfold I0
 rw [e1,e2,if_pos hj]
 rfl
theorem Gk(E b:Nat->Rat)(cols i:Nat):mtx (I0 E b cols) (cols+1) i cols=b i:=by
 obtain ⟨e1,e2⟩:=dm1 (i:=i) (show cols<cols+1 by omega)
 show I0 E b cols (i*(cols+1)+cols)=_
 unfold I0
 rw [e1,e2,if_neg (Nat.lt_irrefl cols)]
theorem A31{E b:Nat->Rat}{rows cols m:Nat}(hs:∀ i,i<rows*cols->Sz m (E i))(hb:∀ i,i<rows->Sz m (b i)):∀ i,i<rows*(cols+1)->Sz m (I0 E b cols i):=by
 intro i hi
 have h1:i/(cols+1)<rows:=Nat.div_lt_of_lt_mul (by rw [Nat.mul_comm];exact hi)
 unfold I0
 by_cases e:i%(cols+1)<cols
 ·rw [if_pos e];exact hs _ (Eh h1 e)
 ·rw [if_neg e];exact hb _ h1
abbrev Jj(E b:Nat->Rat)(rows cols:Nat):ES:=elE (I0 E b cols) rows (cols+1) cols
def Il(E b:Nat->Rat)(rows cols:Nat):Prop:=∀ i,i<rows->(Jj E b rows cols).cs.length<=i->(Jj E b rows cols).R i cols=0
def A10(E b:Nat->Rat)(rows cols:Nat):Nat->Rat:=Vg (fun _=>0) (fun m=>(Jj E b rows cols).R m cols) 0 (Jj E b rows cols).cs
def A6a(f:Nat->Rat)(cs:List Nat):Nat->Nat->Rat
 | 0=>fun _=>0
 | k+1=>fun j=>if j=cs.getD k 0 then f k else A6a f cs k j
theorem A7b(f:Nat->Rat)(cs:List Nat):∀ k,k<=cs.length->Vg (A6a f cs k) f k (cs.drop k)=Vg (fun _=>0) f 0 cs:=by
 intro k
 induction k with
 | zero=>intro _;rfl
 | succ k ih=>
  intro hk
  rw [<- ih (by omega),List.drop_eq_getElem_cons (show k<cs.length by omega)]
  have e:cs.getD k 0=cs[k]:=by rw [List.getD_eq_getElem?_getD,List.getElem?_eq_getElem (by omega)];rfl
  show Vg (A6a f cs (k+1)) f (k+1) (cs.drop (k+1))=Vg (fun j=>if j=cs[k] then f k else A6a f cs k j) f (k+1) (cs.drop (k+1))
  rw [<- e]
  rfl
theorem Vo(f:Nat->Rat)(cs:List Nat):A6a f cs cs.length=Vg (fun _=>0) f 0 cs:=by
 have:=A7b f cs cs.length (Nat.le_refl _)
 rw [List.drop_length] at this
 exact this
theorem A3b(E b:Nat->Rat)(rows cols:Nat):EqA rows (cols+1) cols (mtx (I0 E b cols) (cols+1)) (Jj E b rows cols):=EqA.run _ cols (by omega)
theorem A93{cs:List Nat}{c:Nat}(h:Asc cs c):cs.Nodup:=h.asc.imp fun h=>Nat.ne_of_lt h
theorem A73{E b:Nat->Rat}{rows cols:Nat}(h:Il E b rows cols){i:Nat}(hi:i<rows):sm cols (fun j=>mtx E cols i j*A10 E b rows cols j)=b i:=by
 have nd:(Jj E b rows cols).cs.Nodup:=A93 (Vi rows ⟨_,[],1⟩ rfl cols)
 have:=(A3b E b rows cols).sol nd h hi
 rw [Gk] at this
 rw [<- this]
 exact D9 fun j hj=>by rw [Iu E b hj];rfl
theorem B76{E b:Nat->Rat}{rows cols:Nat}(x:Nat->Rat)(h:∀ i,i<rows->sm cols (fun j=>mtx E cols i j*x j)=b i):Il E b rows cols:=by
 intro i hi hk
 obtain ⟨T,hT⟩:=(A3b E b rows cols).comb
 rw [hT i cols hi (by omega)]
 have hz:∀ j,j<cols->sm rows (fun l=>T i l*mtx E cols l j)=0:=by
  intro j hj
  rw [D9 (g:=fun l=>T i l*mtx (I0 E b cols) (cols+1) l j) fun l _=>by rw [Iu E b hj],<- hT i j hi (by omega)]
  exact (A3b E b rows cols).zero i j hi hk hj
 rw [D9 (g:=fun l=>sm cols fun j=>T i l*mtx E cols l j*x j) fun l hl=>by
  rw [Gk,<- h l hl,<- Ji]
  exact D9 fun j _=>(Rat.mul_assoc _ _ _).symm]
 rw [A72]
 refine Lo fun j hj=>?_
 rw [D9 (g:=fun l=>x j*(T i l*mtx E cols l j)) fun l _=>Rat.mul_comm _ _,Ji,hz j hj,Rat.mul_zero]
theorem B1a{E b:Nat->Rat}{rows cols:Nat}(h:¬ Il E b rows cols):∃ y:Nat->Rat,(∀ j,j<cols->sm rows (fun l=>y l*mtx E cols l j)=0)/\sm rows (fun l=>y l*b l)=1:=by
 have:∃ i,i<rows/\(Jj E b rows cols).cs.length<=i/\(Jj E b rows cols).R i cols≠0:=by
  refine Classical.byContradiction fun hn=>h fun i hi hk=>Classical.byContradiction fun hne=>hn ⟨i,hi,hk,hne⟩
 obtain ⟨i,hi,hk,hne⟩:=this
 obtain ⟨y,h1,h2⟩:=(A3b E b rows cols).none hi hk hne
 refine ⟨y,fun j hj=>?_,?_⟩
 ·rw [<- h1 j hj]
  exact D9 fun l _=>by rw [Iu E b hj]
 ·rw [<- h2]
  exact D9 fun l _=>by rw [Gk]
def Yc(E b:Nat->Rat)(rows cols:Nat):Nat->Rat:=fun k=>if k<cols*rows then E (k%rows*cols+k/rows) else b (k-cols*rows)
def A4r(cols:Nat):Nat->Rat:=fun i=>if i=cols then 1 else 0
theorem A3g(E b:Nat->Rat){rows cols i j:Nat}(hi:i<cols)(hj:j<rows):mtx (Yc E b rows cols) rows i j=mtx E cols j i:=by
 obtain ⟨e1,e2⟩:=dm1 (i:=i) hj
 show Yc E b rows cols (i*rows+j)=_
 unfold Yc
 rw [if_pos (Eh hi hj),e1,e2]
 rfl
theorem Yy(E b:Nat->Rat){rows cols j:Nat}:mtx (Yc E b rows cols) rows cols j=b j:=by
 show Yc E b rows cols (cols*rows+j)=_
 unfold Yc
 rw [if_neg (by omega),Nat.add_sub_cancel_left]
theorem B38{E b:Nat->Rat}{rows cols:Nat}(h:¬ Il E b rows cols):Il (Yc E b rows cols) (A4r cols) (cols+1) rows:=by
 obtain ⟨y,h1,h2⟩:=B1a h
 refine B76 y fun i hi=>?_
 unfold A4r
 by_cases e:i=cols
 ·subst e
  rw [if_pos rfl,<- h2]
  exact D9 fun j _=>by rw [Yy,Rat.mul_comm]
 ·rw [if_neg e,<- h1 i (by omega)]
  exact D9 fun j hj=>by rw [A3g E b (by omega) hj,Rat.mul_comm]
theorem B57{E b:Nat->Rat}{rows cols:Nat}(h:¬ Il E b rows cols):(∀ j,j<cols->sm rows (fun l=>mtx E cols l j*A10 (Yc E b rows cols) (A4r cols) (cols+1) rows l)=0)/\sm rows (fun l=>A10 (Yc E b rows cols) (A4r cols) (cols+1) rows l*b l)=1:=by
 have hk:=B38 h
 refine ⟨fun j hj=>?_,?_⟩
 ·have:=A73 hk (i:=j) (by omega)
  unfold A4r at this
  rw [if_neg (by omega)] at this
  rw [<- this]
  exact D9 fun l hl=>by rw [A3g E b hj hl];rfl
 ·have:=A73 hk (i:=cols) (by omega)
  unfold A4r at this
  rw [if_pos rfl] at this
  rw [<- this]
  exact D9 fun l hl=>by rw [Yy,Rat.mul_comm];rfl
theorem B53{E b:Nat->Rat}{rows cols m B:Nat}(hB:1<=B)(hs:∀ i j,i<rows->j<cols+1->Sz B ((Jj E b rows cols).R i j))(j:Nat):Sz B (A10 E b rows cols j):=by
 have hl:(Jj E b rows cols).cs.length<=rows:=(Mo (mtx (I0 E b cols) (cols+1)) rows cols).2
 unfold A10
 rw [<- Vo]
 have:∀ k,k<=(Jj E b rows cols).cs.length->Sz B (A6a (fun m=>(Jj E b rows cols).R m cols) (Jj E b rows cols).cs k j):=by
  intro k
  induction k with
  | zero=>intro _;exact Sz.zero hB
  | succ k ih=>
   intro hk
   show Sz B (if j=_ then _ else _)
   split
   ·exact hs k cols (by omega) (by omega)
   ·exact ih (by omega)
 exact this _ (Nat.le_refl _)
theorem B1b(E b:Nat->Rat)(rows cols:Nat):fnd (fun i=>decide ((elP (I0 E b cols) rows (cols+1) cols).M i cols≠0)) (rows-(Jj E b rows cols).cs.length) (Jj E b rows cols).cs.length=rows↔Il E b rows cols:=by
 have rel:=Ub (I0 E b cols) (rows:=rows) (cols:=cols+1) (c:=cols) (by omega)
 have hl:(Jj E b rows cols).cs.length<=rows:=(Mo (mtx (I0 E b cols) (cols+1)) rows cols).2
 have hv:∀ i,i<rows->(Jj E b rows cols).cs.length<=i->((elP (I0 E b cols) rows (cols+1) cols).M i cols=0↔(Jj E b rows cols).R i cols=0):=by
  intro i hi hk
  have h1:=rel.val i cols hi (by omega)
  rw [if_neg (by have:(elE (I0 E b cols) rows (cols+1) cols).cs.length<=i:=hk;omega)] at h1
  have h2:=Ah rel.last
  have h3:=rel.scale i hi
  constructor
  ·intro e
   rw [e] at h1
   have h0:((0:Int):Rat)=0:=rfl
   rw [h0] at h1
   rcases Rat.mul_eq_zero.1 h1.symm with e1|e1
   ·exact absurd e1 h2
   ·rcases Rat.mul_eq_zero.1 e1 with e2|e2
    ·exact absurd e2 h3
    ·exact e2
  ·intro e
   have e':(elE (I0 E b cols) rows (cols+1) cols).R i cols=0:=e
   rw [e',Rat.mul_zero,Rat.mul_zero] at h1
   exact_mod_cast h1
 have hmiss:=Pb (fun i=>decide ((elP (I0 E b cols) rows (cols+1) cols).M i cols≠0)) (rows-(Jj E b rows cols).cs.length) (Jj E b rows cols).cs.length
 constructor
 ·intro e i hi hk
  have:=hmiss i hk (by omega)
  exact (hv i hi hk).1 (by simpa using this)
 ·intro h
  refine A81 _ hl (by omega) (fun j h1 h2=>?_) (fun hx=>by omega)
  simpa using (hv j h2 h1).2 (h j h2 h1)
section
variable {h:Heap} {K:Value->Heap->Prop} {A B:Option Addr} {n n2 cap cap2 m rows cols nb:Nat} {E b:Nat->Rat}
theorem Nq(gl:Gl h)(ra:RowV RQr h A (rows*cols) E)(hcap:rows*cols<=cap)(rb:RowV RQr h B nb b)(hnb:rows<=nb)(hr:1<=rows)(hr2:rows<=1000)(hc:1<=cols)(hc2:cols<=1000)(hs:∀ i,i<rows*cols->Sz m (E i))(hsb:∀ i,i<rows->Sz m (b i))(hm:2*(3^cols*bnd (cols+1) m)+1<=40000000)
 (hK1:Il E b rows cols->∀ b' h',h.le h'->RowV RQr h' (some ⟨b',0,none⟩) cols (A10 E b rows cols)->K (.tuple #[.slice (some ⟨b',0,none⟩) cols cols,.bool true]) h')
 (hK0:¬ Il E b rows cols->∀ h',h.le h'->K (.tuple #[.slice none 0 0,.bool false]) h'):FCall Tryz.prog Kn #[.slice A (rows*cols) cap,I (rows:Int),I (cols:Int),.slice B nb cap2] h K:=by
 refine A61 _ _ _ _ _ _ _ _ ?_
 unfold B07
 have hrc:rows*cols<=1000*1000:=Nat.mul_le_mul hr2 hc2
 have hrw:rows*(cols+1)<=1000*1001:=Nat.mul_le_mul hr2 (by omega)
 refine ⟨fun L hp=>∃ (k:Nat) (g o:Heap) (xs:List QV) (A':Option Addr) (c':Nat),k<=rows/\L=[.slice A' (k*(cols+1)) c',I (k:Int)]/\h.le g/\Sep hp g o/\OwnSl o L3 A' c' xs/\xs.length=k*(cols+1)/\Row RQr g xs (k*(cols+1)) (I0 E b cols),fun L _=>rows-(iAt L 1).toNat,
  ⟨0,h,Eg,[],none,0,by omega,by rw [Nat.zero_mul];rfl,B3 _,Sep.refl h,OwnSl.nil,by simp,by rw [Nat.zero_mul];exact Row.nil⟩,?_⟩
 rintro wA wn wc z hp ⟨k,g,o,xs,A',c',hk,eL,lg,s,ow,hxl,rr⟩
 simp only [List.cons.injEq,Value.int.injEq,Value.slice.injEq,true_and,and_true] at eL
 obtain ⟨⟨rfl,rfl,rfl⟩,rfl⟩:=eL
 refine B7 (fun hlt=>?_) (fun hge=>?_)
 ·have hkr:k<rows:=by omega
  have h2:(k+1)*cols<=rows*cols:=Nat.mul_le_mul_right _ hkr
  have h3:(k+1)*cols=k*cols+cols:=by rw [Nat.add_mul,Nat.one_mul]
  have h4:(k+1)*(cols+1)=k*(cols+1)+cols+1:=by rw [Nat.add_mul,Nat.one_mul];omega
  have h5:(k+1)*(cols+1)<=rows*(cols+1):=Nat.mul_le_mul_right _ hkr
  have e0:B4 ((k:Int)+1)=((k+1:Nat):Int):=B5 (by omega) (by omega)
  have e1:B4 ((k:Int)*(cols:Int))=((k*cols:Nat):Int):=by rw [<- Int.natCast_mul];exact Bf (by omega)
  have e2:B4 (B4 ((k:Int)+1)*(cols:Int))=(((k+1)*cols:Nat):Int):=by rw [e0,<- Int.natCast_mul];exact Bf (by omega)
  rw [e1,e2,e0]
  refine ⟨⟨by omega,by omega⟩,⟨by omega,by simp only [Int.toNat_natCast];omega⟩,?_⟩
  simp only [Int.toNat_natCast]
  have e5:(k+1)*cols-k*cols=cols:=by omega
  rw [e5]
  have row:RowV RQr h (J6 A cap (k*cols) 4) cols (fun j=>E (k*cols+j)):=ra.cut (c:=cap) (l:=k*cols) (k:=cols) (by omega) hcap
  obtain ⟨ys,sy,hyl,qy⟩:=row
  refine OwnSl.app (ty:=W8) B16 s ow hxl.symm hyl.symm (by rintro rfl;simp at hyl;omega) (sy.mono (A0 lg s.le)) (by rw [hxl,hyl];omega) (by rw [hxl,hyl];omega) ?_
  intro A2 c2 h2' g2 o2 l2 s2 ow2 _
  have lh2:=A0 lg l2
  obtain ⟨a6,u,ea6,iu,d0,d1,d2,d3⟩:=(rb.mono N7 lh2).qat (i:=k) (by omega)
  refine ⟨_,_,_,rfl,a6,ea6,by omega,by omega,_,_,_,_,_,_,_,_,B9 s2.le d0,B9 s2.le d1,B9 s2.le d2,B9 s2.le d3,?_⟩
  have hl2:(xs++ys).length=k*(cols+1)+cols:=by rw [List.length_append,hxl,hyl]
  rw [hxl]
  refine Bd (ty:=W8) B16 s2 ow2 hl2.symm (y:=u) rfl (by decide) (by rw [hl2];omega) (by rw [hl2];omega) ?_
  intro A3 c3 h3' g3 o3 l3 s3 ow3 _
  rw [hl2]
  have r1:Row RQr g2 (xs++ys) (k*(cols+1)+cols) (I0 E b cols):=by
   refine Row.app hxl (rr.mono N7 l2) ((qy.mono N7 lh2).congr fun j hj=>?_)
   obtain ⟨f1,f2⟩:=dm1 (i:=k) (show j<cols+1 by omega)
   unfold I0
   rw [f1,f2,if_pos hj]
  refine ⟨⟨k+1,g3,o3,_,A3,c3,by omega,by rw [h4],A0 lh2 l3,s3,ow3,by rw [List.length_append,hl2,h4];rfl,?_⟩,?_⟩
  ·have rB:=Row.push (R:=RQr) (g:=g3) (xs:=xs++ys) (f:=I0 E b cols) (by rw [hl2];exact r1.mono N7 l3) (w:=u) (by
    obtain ⟨f1,f2⟩:=dm1 (i:=k) (show cols<cols+1 by omega)
    show RQ g3 u (I0 E b cols (xs++ys).length)
    unfold I0
    rw [hl2,f1,f2,if_neg (Nat.lt_irrefl cols)]
    exact N7 _ _ _ _ l3 iu)
   rw [List.length_append,hl2] at rB
   rw [h4]
   exact rB
  ·show rows-((k+1:Nat):Int).toNat<rows-(k:Int).toNat
   omega
 have hkr:k=rows:=by omega
 subst hkr
 have ew:B4 ((cols:Int)+1)=((cols+1:Nat):Int):=B5 (by omega) (by omega)
 rw [ew]
 have lhp:=A0 lg s.le
 have rq:RowV RQr hp wA (k*(cols+1)) (I0 E b cols):=⟨xs,ow.slF s.ole,hxl,rr.mono N7 s.le⟩
 have hsw:=A31 (cols:=cols) hs hsb
 have hB1:=Oz cols (bnd (cols+1) m) (by unfold bnd;omega)
 refine Hr (E:=I0 E b cols) (cc:=cols) (m:=m) (gl.mono lhp) rq (by have:=ow.1;omega) (by omega) (by omega) (by omega) (by omega) (by omega) hsw (by omega) ?_
 intro T h2 hred l2 e1 e2
 refine ⟨_,rfl,FCall.mono hred ?_⟩
 rintro r3 h3 ⟨g3,o3,A3,cap3,w,l3,t3,ow3,ap3,iw3,rfl⟩
 refine ⟨_,_,_,_,_,_,_,_,rfl,?_⟩
 have hzb:=A8j (E:=I0 E b cols) (rows:=k) (cols:=cols+1) (c:=cols) hsw (by omega)
 have hbd:=Xe (I0 E b cols) k (cols+1) cols (bnd (cols+1) m)
 have hlast:=A8k (I0 E b cols) k (cols+1) cols
 have hdiv:∀ i,i<(Jj E b k cols).cs.length->i<k->Rat.divInt ((elP (I0 E b cols) k (cols+1) cols).M i cols) (elP (I0 E b cols) k (cols+1) cols).last=(Jj E b k cols).R i cols:=fun i h1 hi=>B3v (I0 E b cols) (by omega) hi (by omega) (.inl h1)
 have asc:Asc (Jj E b k cols).cs cols:=Vi k ⟨_,[],1⟩ rfl cols
 have hlen:(Jj E b k cols).cs.length<=cols/\(Jj E b k cols).cs.length<=k:=Mo _ k cols
 have hfind:=B1b E b k cols
 have eX:A10 E b k cols=A6a (fun m=>(Jj E b k cols).R m cols) (Jj E b k cols).cs (Jj E b k cols).cs.length:=(Vo _ _).symm
 rw [B5r _ (by omega)] at ow3 ⊢
 change (elE (I0 E b cols) k (cols+1) cols).cs.length<=cols/\_ at hlen
 rw [eX] at hK1
 clear eX
 unfold Jj at hK1 hfind hdiv asc hlen
 generalize elP (I0 E b cols) k (cols+1) cols=st at *
 generalize (elE (I0 E b cols) k (cols+1) cols).cs=cs at *
 generalize (elE (I0 E b cols) k (cols+1) cols).R=R at *
 have hzM:=hzb.M
 have hzL:=hzb.last
 clear hzb
 generalize 3^st.cs.length*bnd (cols+1) m=bb at hzM hzL hbd
 have sp:=ow3.slF t3.sep.ole
 have lh3:h.le h3:=A0 lhp (A0 l3 t3.sep.le)
 have iw:ZIr h3 w st.last:=Vv _ _ _ _ t3.sep.le iw3
 have e1':T.rows=k:=e1
 refine Zr t3 (start:=cs.length) (col:=cols) (by omega) (by omega) (fun hlt=>⟨_,_,rfl,hK0 (fun hx=>by rw [e1'] at hlt;have:=hfind.2 hx;omega) h3 lh3⟩) (fun heq=>⟨_,_,rfl,?_⟩)
 have hk1:=hK1 (hfind.1 (by rw [e1'] at heq;exact heq))
 have tabIn:∀ g',h3.le g'->∃ gT,Tab g' gT o3 T st.M st.S:=fun g' l=>by
  obtain ⟨gT,l',s'⟩:=t3.sep.after l
  exact ⟨gT,t3.next s' l'⟩
 clear t3 ow3 ap3 iw3 hred hK1 hK0
 refine Q6 B16 (zx:=Cc) rfl (by omega) (by omega) (by omega) (by omega) ?_
 intro b2 hb2
 simp only [Int.toNat_natCast]
 refine ⟨_,_,_,rfl,?_⟩
 have s5:=(Sep.refl h3).new hb2 (.cells ((List.replicate cols Cc).flatMap enc).toArray L3)
 have r0:Row RQr h3 (List.replicate cols Cc) cols (A6a (fun m=>R m cols) cs 0):=fun i hi=>⟨Cc,by rw [List.getElem?_replicate,if_pos hi],RQ.zero⟩
 refine ⟨fun L q=>∃ (i:Nat) (g' o':Heap) (ys:List QV),i<=cs.length/\L=[I (i:Int)]/\h3.le g'/\Sep q g' o'/\RowX o' b2 ys/\ys.length=cols/\Row RQr g' ys cols (A6a (fun m=>R m cols) cs i),fun L _=>cs.length-(iAt L 0).toNat,⟨0,h3,_,_,by omega,rfl,B3 _,s5,RowX.mk,List.length_replicate,r0⟩,?_⟩
 rintro z q ⟨i,g6,o6,ys,hi,eL,l6,s6,rx6,hy,rr6⟩
 obtain rfl:z=(i:Int):=by simpa using eL
 refine B7 (fun hlt=>?_) (fun hge=>?_)
 ·have hil:i<cs.length:=by omega
  obtain ⟨u,eu,hcu⟩:=B39 (sp.mono (A0 l6 s6.le)) hil
  have hgl:=A7y asc hil
  obtain ⟨gT,tT⟩:=tabIn g6 l6
  refine ⟨u,eu,by omega,by omega,_,hcu,?_⟩
  refine s6.call (Dj tT (i:=i) (by omega) ?_)
  intro h7 s7
  obtain ⟨wv,zv,c0,c1⟩:=tT.at (i:=i) (j:=cols) (by omega) (by omega)
  refine ⟨_,_,_,rfl,s6.le_le s7 (B3 _),_,rfl,by omega,by omega,_,_,_,_,B9 s7.le c0,B9 s7.le c1,?_⟩
  refine s7.call (Z2 (gl.mono (A0 lh3 l6)).tz (Vv _ _ _ _ tT.sep.le zv) (Vv _ _ _ _ l6 iw) (hzM _ _ (by omega) (by omega)) hzL (by omega) ?_)
  intro w9 g9 l9 i9 h9 s9
  rw [hdiv i hil (by omega)] at i9
  refine ⟨_,_,_,_,_,_,_,_,rfl,s7.le_le s9 l9,_,rfl,by omega,by omega,?_⟩
  refine Al Jf (y:=w9) rfl s9 rx6 (i:=cs.getD i 0) (by omega) ?_
  intro h10 o10 x10 eo10 s10 rx10
  rw [show B4 ((i:Int)+1)=((i+1:Nat):Int) by rw [B5]<;>omega]
  exact ⟨⟨i+1,g9,o10,_,by omega,rfl,A0 l6 l9,s10,rx10,by rw [List.length_set];exact hy,(rr6.mono N7 l9).upd (by omega) i9⟩,by simp only [Gu];omega⟩
 ·have:i=cs.length:=by omega
  subst this
  exact hk1 b2 q (A0 lh3 (A0 l6 s6.le)) ⟨ys,rx6.rowB.slF s6.ole,hy,rr6.mono N7 s6.le⟩
end
section
variable {h:Heap} {K:Value->Heap->Prop} {A:Option Addr} {n cap m w:Nat} {r c:Int} {ls:Nat->List UInt8} {R:Nat->Nat->Rat}
theorem A24(hn:n<=10000)(hw:w<=10000)
 (hK:∀ h' g' o' bo rb,h.le g'->Mt h' g' o' bo rb n w (fun _ _=>0)->K (.slice (some ⟨bo,0,none⟩) n n) h'):FCall Tryz.prog Wy #[I (n:Int),I (w:Int)] h K:=by
 refine B0h _ _ ?_
 unfold B4n
 refine Q6 B8x (zx:=(⟨none,0,0⟩:HV)) rfl (by omega) (by omega) (by omega) (by omega) ?_
 intro bo hbo
 simp only [Int.toNat_natCast]
 refine ⟨_,_,_,rfl,fun L hp=>∃ (k:Nat) (g o:Heap) (hd:List HV) (rb:Nat->Nat),k<=n/\L=[I (k:Int)]/\h.le g/\Sep hp g o/\RowX o bo hd/\hd.length=n/\(∀ i,i<k->hd[i]? = some ⟨some ⟨rb i,0,none⟩,w,w⟩)/\(∀ i,i<k->rb i≠bo)/\(∀ i j,i<k->j<k->rb i=rb j->i=j)/\(∀ i,i<k->RowX o (rb i) (List.replicate w Cc)),fun L _=>n-(iAt L 0).toNat,
  ⟨0,h,Eg.put bo _,List.replicate n ⟨none,0,0⟩,fun _=>0,by omega,rfl,B3 _,Hd hbo,RowX.mk,List.length_replicate,fun i hi=>by omega,fun i hi=>by omega,fun i j hi=>by omega,fun i hi=>by omega⟩,?_⟩
 rintro z hp ⟨k,g,o,hd,rb,hk,eL,lg,s,rx,hl,h1,h2,h3,h4⟩
 obtain rfl:z=(k:Int):=by simpa using eL
 refine B7 (fun hlt=>?_) (fun hge=>?_)
 ·have hkn:k<n:=by omega
  refine Q6 Of (zx:=Cc) rfl (by omega) (by omega) (by omega) (by omega) ?_
  intro b2 hb2
  simp only [Int.toNat_natCast]
  have ob2:∀ q x,o q=some x->q≠b2:=by
   rintro q x e rfl
   rw [s.own q x e] at hb2;cases hb2
  have nbo:bo≠b2:=by obtain ⟨e,he⟩:=rx;exact ob2 _ _ he
  have nrb:∀ i,i<k->rb i≠b2:=fun i hi=>by obtain ⟨e,he⟩:=h4 i hi;exact ob2 _ _ he
  refine ⟨_,_,_,rfl,_,rfl,by omega,by omega,?_⟩
  refine Al Vb (y:=(⟨some ⟨b2,0,none⟩,w,w⟩:HV)) rfl (s.new hb2 _) (rx.other nbo _) (i:=k) (by omega) ?_
  intro h5 o5 x5 eo5 s5 rx5
  rw [show B4 ((k:Int)+1)=((k+1:Nat):Int) by rw [B5]<;>omega]
  refine ⟨⟨k+1,g,o5,_,fun i=>if i=k then b2 else rb i,by omega,rfl,lg,s5,rx5,by rw [List.length_set];exact hl,fun i hi=>?_,fun i hi=>?_,fun i j hi hj e=>?_,fun i hi=>?_⟩,by simp only [Gu];omega⟩
  ·show (hd.set k _)[i]? = some (⟨some ⟨if i=k then b2 else rb i,0,none⟩,w,w⟩:HV)
   by_cases e:i=k
   ·subst e
    rw [if_pos rfl,List.getElem?_set_self (by omega)]
   ·rw [if_neg e,List.getElem?_set_ne (fun x=>e x.symm)]
    exact h1 i (by omega)
  ·show (if i=k then b2 else rb i)≠bo
   by_cases e:i=k
   ·rw [if_pos e];exact nbo.symm
   ·rw [if_neg e];exact h2 i (by omega)
  ·change (if i=k then b2 else rb i)=(if j=k then b2 else rb j) at e
   by_cases e1:i=k
   ·by_cases e2:j=k
    ·omega
    ·rw [if_pos e1,if_neg e2] at e
     exact absurd e.symm (nrb j (by omega))
   ·by_cases e2:j=k
    ·rw [if_neg e1,if_pos e2] at e
     exact absurd e (nrb i (by omega))
    ·rw [if_neg e1,if_neg e2] at e
     exact h3 i j (by omega) (by omega) e
  ·show RowX o5 (if i=k then b2 else rb i) _
   by_cases e:i=k
   ·rw [if_pos e,eo5]
    exact RowX.mk.other nbo.symm _
   ·rw [if_neg e,eo5]
    exact ((h4 i (by omega)).other (nrb i (by omega)) _).other (h2 i (by omega)) _
 ·have:k=n:=by omega
  subst this
  refine hK hp g o bo rb lg ⟨s,⟨hd,rx.rowB,hl,fun i hi=>⟨w,h1 i hi,Nat.le_refl _⟩⟩,h2,h3,fun i hi=>⟨_,(h4 i hi).rowB,List.length_replicate,fun j hj=>⟨Cc,by rw [List.getElem?_replicate,if_pos hj],NQ.zero⟩⟩⟩
def A4e(R:Nat->Nat->Rat)(i k:Nat):Nat->Nat->Rat:=fun a b=>if b<i\/(b=i/\a<k) then R b a else 0
theorem A54(rs:RowsV h A n w R)(hn1:1<=n)(hn:n<=10000)(hw:w<=10000)
 (hK:∀ bo h',h.le h'->RowsV h' (some ⟨bo,0,none⟩) w n (fun a b=>R b a)->K (.slice (some ⟨bo,0,none⟩) w w) h'):FCall Tryz.prog A2a #[.slice A n cap] h K:=by
 refine B31 _ _ _ ?_
 unfold B8o
 obtain ⟨a,sv,ea,e1,e2,hc,_⟩:=rs.at (i:=0) (by omega)
 refine ⟨a,ea,by omega,by omega,_,_,_,hc,?_⟩
 rw [e1]
 refine A24 hw hn ?_
 intro h1 g1 o1 bo rb l1 t1
 refine ⟨_,_,_,rfl,fun L hp=>∃ (i:Nat) (g o:Heap),i<=n/\L=[I (i:Int)]/\h.le g/\Mt hp g o bo rb w n (A4e R i 0),fun L _=>n-(iAt L 0).toNat,⟨0,g1,o1,by omega,rfl,l1,t1.congr fun a b _ _=>by unfold A4e;rw [if_neg (by omega)]⟩,?_⟩
 rintro z hp ⟨i,g,o,hi,eL,lg,t⟩
 obtain rfl:z=(i:Int):=by simpa using eL
 refine B7 (fun hlt=>?_) (fun hge=>?_)
 ·have hin:i<n:=by omega
  obtain ⟨a1,s1,ea1,f1,f2,hc1,row⟩:=rs.at hin
  refine ⟨fun L hp=>∃ (k:Nat) (g o:Heap),k<=w/\L=[I (k:Int)]/\h.le g/\Mt hp g o bo rb w n (A4e R i k),fun L _=>w-(iAt L 0).toNat,⟨0,g,o,by omega,rfl,lg,t⟩,?_⟩
  rintro z hp2 ⟨k,g2,o2,hk,eL2,lg2,t2⟩
  obtain rfl:z=(k:Int):=by simpa using eL2
  have lhp:=A0 lg2 t2.sep.le
  refine ⟨a1,ea1,by omega,by omega,_,_,_,B9 lhp hc1,?_⟩
  rw [f1]
  refine B7 (fun hlt2=>?_) (fun hge2=>?_)
  ·have hkw:k<w:=by omega
   obtain ⟨cc,hcc,hh⟩:=t2.head hkw
   obtain ⟨a5,w5,e5,n5,c0,c1,c2',c3⟩:=(row.mono T6 lg2).qat hkw
   refine ⟨_,rfl,by omega,by omega,_,_,_,t2.sep.cell hh,a1,ea1,by omega,by omega,_,_,_,B9 lhp hc1,a5,e5,by omega,by omega,_,_,_,_,_,_,_,_,B9 t2.sep.le c0,B9 t2.sep.le c1,B9 t2.sep.le c2',B9 t2.sep.le c3,_,rfl,by omega,by omega,?_⟩
   refine t2.store hkw hin n5 ?_
   intro h6 o6 t6 _
   rw [show B4 ((k:Int)+1)=((k+1:Nat):Int) by rw [B5]<;>omega]
   refine ⟨⟨k+1,g2,o6,by omega,rfl,lg2,t6.congr fun a b _ _=>?_⟩,by simp only [Gu];omega⟩
   unfold B8u A4e
   by_cases e:a=k/\b=i
   ·rw [if_pos e,if_pos (by omega),e.1,e.2]
   ·rw [if_neg e]
    by_cases e3:b<i\/(b=i/\a<k)
    ·rw [if_pos e3,if_pos (by omega)]
    ·rw [if_neg e3,if_neg (by omega)]
  ·have:k=w:=by omega
   subst this
   rw [show B4 ((i:Int)+1)=((i+1:Nat):Int) by rw [B5]<;>omega]
   refine ⟨⟨i+1,g2,o2,by omega,rfl,lg2,t2.congr fun a b ha _=>?_⟩,by simp only [Gu];omega⟩
   unfold A4e
   by_cases e3:b<i\/(b=i/\a<k)
   ·rw [if_pos e3,if_pos (by omega)]
   ·rw [if_neg e3,if_neg (by omega)]
 ·have:i=n:=by omega
  subst this
  exact hK bo hp (A0 lg t.sep.le) ((t.rowsV).congr fun a b _ hb=>by unfold A4e;rw [if_pos (.inl hb)])
theorem A5t{α:Type}[E:Enc α]{o:Heap}{b:Nat}{e:TypeId}{c:Nat}{zx:α}:OwnSl (o.put b (.cells ((List.replicate c zx).flatMap enc).toArray e)) e (some ⟨b,0,none⟩) c ([]:List α):=
 ⟨Nat.zero_le _,.inr ⟨b,_,rfl,C0 _ _ _,by rw [J8,List.length_replicate],by simp⟩⟩
def OwnS(h h':Heap)(A:Option Addr)(c n:Nat)(f:Nat->List UInt8):Prop:=∃ g o xs,h.le g/\Sep h' g o/\OwnSl o Y8 A c xs/\xs.length=n/\Row SSr g xs n f
theorem OwnS.le{h h':Heap}{c n:Nat}{f:Nat->List UInt8}(w:OwnS h h' A c n f):h.le h':=by
 obtain ⟨g,o,xs,lg,s,_⟩:=w
 exact A0 lg s.le
theorem OwnS.vis{h h':Heap}{c n:Nat}{f:Nat->List UInt8}(w:OwnS h h' A c n f):RowV SSr h' A n f:=by
 obtain ⟨g,o,xs,lg,s,ow,e,q⟩:=w
 exact ⟨xs,ow.slF s.ole,e,q.mono Cl s.le⟩
theorem OwnS.weak{h0 h h':Heap}{c n:Nat}{f:Nat->List UInt8}(l:h0.le h)(w:OwnS h h' A c n f):OwnS h0 h' A c n f:=by
 obtain ⟨g,o,xs,lg,x⟩:=w
 exact ⟨g,o,xs,A0 l lg,x⟩
end
theorem Br.nt{X Y:Prop}(y:Y):Br (!true) X Y:=y
theorem Yb{X Y:Prop}(x:X):Br (!false) X Y:=x
structure MOut where
 r:Int
 c:Int
 n:Nat
 f:Nat->List UInt8
 e:Int
def noM(e:Int):MOut:=⟨0,0,0,fun _=>[],e⟩
def CombO(r c:Int)(n:Nat)(la:Nat->List UInt8)(r2 c2:Int)(n2:Nat)(lb:Nat->List UInt8)(q:Rat)(o:MOut):Prop:=
 (¬ (Mx r c n la/\Mx r2 c2 n2 lb)/\o=noM 1)\/(Mx r c n la/\Mx r2 c2 n2 lb/\(r≠r2\/c≠c2)/\o=noM 4)\/(Mx r c n la/\Mx r2 c2 n2 lb/\r=r2/\c=c2/\o=⟨r,c,n,fun k=>N3 (rv (la k)+q*rv (lb k)),0⟩)
theorem CombO.eq{r c r2 c2:Int}{n n2:Nat}{la lb:Nat->List UInt8}{q:Rat}{o p:MOut}(x:CombO r c n la r2 c2 n2 lb q o)(y:CombO r c n la r2 c2 n2 lb q p):o=p:=by
 rcases x with ⟨h1,rfl⟩|⟨h1,h2,h3,rfl⟩|⟨h1,h2,h3,h4,rfl⟩<;>rcases y with ⟨g1,rfl⟩|⟨g1,g2,g3,rfl⟩|⟨g1,g2,g3,g4,rfl⟩<;>first|rfl|(exfalso;exact h1 ⟨g1,g2⟩)|(exfalso;exact g1 ⟨h1,h2⟩)|(exfalso;omega)
def ScalO(s:List UInt8)(r c:Int)(n:Nat)(la:Nat->List UInt8)(o:MOut):Prop:=
 (¬ (IsNum s/\Mx r c n la)/\o=noM 1)\/(IsNum s/\Mx r c n la/\o=⟨r,c,n,fun k=>N3 (rv s*rv (la k)),0⟩)
theorem ScalO.eq{s:List UInt8}{r c:Int}{n:Nat}{la:Nat->List UInt8}{o p:MOut}(x:ScalO s r c n la o)(y:ScalO s r c n la p):o=p:=by
 rcases x with ⟨h1,rfl⟩|⟨h1,h2,rfl⟩<;>rcases y with ⟨g1,rfl⟩|⟨g1,g2,rfl⟩<;>first|rfl|(exfalso;exact h1 ⟨g1,g2⟩)|(exfalso;exact g1 ⟨h1,h2⟩)
section
variable {h:Heap} {K:Value->Heap->Prop} {A B:Option Addr} {n n2 cap cap2 m w:Nat} {r c r2 c2:Int} {la lb:Nat->List UInt8}
end
structure VV where
 A:Option Addr
 n:Nat
 c:Nat
 s:Bool
 B:Option Addr
 bn:Nat
 bc:Nat
abbrev VV.v(w:VV):Value:=.agg #[.slice w.A w.n w.c,.bool w.s,.slice w.B w.bn w.bc]
instance:Enc VV:=⟨⟨fun w=>[.slice w.A w.n w.c,.bool w.s,.slice w.B w.bn w.bc],3,fun _=>rfl,fun w v hv=>by
 simp only [List.mem_cons,List.not_mem_nil,or_false] at hv
 rcases hv with rfl|rfl|rfl<;>rfl⟩⟩
def VQr(w:Nat):Heap->VV->(Nat->Rat)->Prop:=fun h v f=>v.n=w/\ZI h v.s v.B v.bn v.bc (Is f w:Int)/\RowV ZIr h v.A w (fun j=>scl (f j) (Is f w:Int))
section
variable {h:Heap} {K:Value->Heap->Prop} {A B:Option Addr} {n cap m w:Nat} {f f2:Nat->Rat}
end
section
variable {h:Heap} {K:Value->Heap->Prop} {A:Option Addr} {cap m rows cols:Nat} {E:Nat->Rat}
end
section
variable {h:Heap} {K:Value->Heap->Prop} {A B:Option Addr} {n n2 cap cap2 m:Nat} {r c r2 c2:Int} {la lb:Nat->List UInt8} {w:QV} {q:Rat}
end
section
variable {h:Heap} {K:Value->Heap->Prop} {A B:Option Addr} {n w cap cap2 m:Nat} {f f2:Nat->Rat} {R:Nat->Nat->Rat}
theorem B9j(hs:∀ i,i<w->Sz m (f i))(hs2:∀ i,i<w->Sz m (f2 i)):∀ k,k<=w->Sz (1+k*(2*m+1)) (sm k (fun j=>f j*f2 j)):=by
 intro k
 induction k with
 | zero=>intro _;exact Sz.zero (by omega)
 | succ k ih=>
  intro hk
  have h1:=ih (by omega)
  have h2:=(hs k (by omega)).mul (hs2 k (by omega))
  have e:1+(k+1)*(2*m+1)=1+k*(2*m+1)+(m+m)+1:=by rw [Nat.add_mul];omega
  rw [e]
  exact h1.add h2
theorem Zs(ra:RowV NQr h A w f)(rb:RowV NQr h B w f2)(hw:w<=10000)(hs:∀ i,i<w->Sz m (f i))(hs2:∀ i,i<w->Sz m (f2 i))(hm:1+w*(2*m+1)+2*m<=400000000)
 (hK:∀ v h',h.le h'->NQ h' v (sm w (fun j=>f j*f2 j))->K v.v h'):FCall Tryz.prog A3s #[.slice A w cap,.slice B w cap2] h K:=by
 refine B6k _ _ _ _ _ _ ?_
 unfold C12
 refine ⟨fun L hp=>∃ (k:Nat) (v:QV),k<=w/\L=I (k:Int)::qc v/\h.le hp/\NQ hp v (sm k (fun j=>f j*f2 j)),fun L _=>w-(iAt L 0).toNat,⟨0,Cc,by omega,rfl,B3 _,NQ.zero⟩,?_⟩
 rintro z d0 d1A d1n d1c d2 d3A d3n d3c hp ⟨k,v,hk,eL,l,iv⟩
 simp only [List.cons.injEq,Value.int.injEq,true_and] at eL
 obtain ⟨rfl,eL⟩:=eL
 obtain ⟨rfl,_⟩:=B59 (by simpa only [List.cons.injEq,Value.bool.injEq,Value.slice.injEq,and_true] using eL:(.bool d0:Value) :: .slice d1A d1n d1c :: .bool d2 :: .slice d3A d3n d3c::[]= .bool v.s :: .slice v.A v.n v.c :: .bool v.s2 :: .slice v.A2 v.n2 v.c2::[])
 refine B7 (fun hlt=>?_) (fun hge=>?_)
 ·have hkw:k<w:=by omega
  obtain ⟨a5,w5,e5,n5,c0,c1,c2,c3⟩:=(ra.mono T6 l).qat hkw
  obtain ⟨a6,w6,e6,n6,g0,g1,g2,g3⟩:=(rb.mono T6 l).qat hkw
  have hkm:k*(2*m+1)<=w*(2*m+1):=Nat.mul_le_mul_right _ hk
  refine ⟨a5,e5,by omega,by omega,_,_,_,_,_,_,_,_,c0,c1,c2,c3,a6,e6,by omega,by omega,_,_,_,_,_,_,_,_,g0,g1,g2,g3,?_⟩
  refine Pt (a:=w5) (b:=w6) n5 n6 (hs k hkw) (hs2 k hkw) (by omega) ?_
  intro w7 h7 l7 i7
  refine ⟨_,_,_,_,_,_,_,_,rfl,l7,?_⟩
  refine Yz (a:=⟨d0,d1A,d1n,d1c,d2,d3A,d3n,d3c⟩) (b:=w7) (m:=1+k*(2*m+1)+2*m) (NQ.mono l7 iv) i7 ((B9j hs hs2 k hk).mono (by omega)) (((hs k hkw).mul (hs2 k hkw)).mono (by omega)) (by omega) ?_
  intro w8 h8 l8 i8
  rw [show B4 ((k:Int)+1)=((k+1:Nat):Int) by rw [B5]<;>omega]
  refine ⟨_,_,_,_,_,_,_,_,rfl,l8,⟨k+1,w8,by omega,rfl,A0 l (A0 l7 l8),i8⟩,?_⟩
  show w-((k+1:Nat):Int).toNat<w-(k:Int).toNat
  omega
 ·have:k=w:=by omega
  subst this
  exact hK ⟨d0,d1A,d1n,d1c,d2,d3A,d3n,d3c⟩ hp l iv
theorem A85(rs:RowsV h A n w R)(rx:RowV NQr h B w f)(hn:n<=10000)(hw:w<=10000)(hs:∀ i j,i<n->j<w->Sz m (R i j))(hs2:∀ i,i<w->Sz m (f i))(hm:1+w*(2*m+1)+2*m<=400000000)
 (hK:∀ b h',Own NQr h h' b n (fun i=>sm w (fun j=>R i j*f j))->K (.slice (some ⟨b,0,none⟩) n n) h'):FCall Tryz.prog A8e #[.slice A n cap,.slice B w cap2] h K:=by
 refine B6l _ _ _ _ _ _ ?_
 unfold C13
 refine Q6 Of (zx:=Cc) rfl (by omega) (by omega) (by omega) (by omega) ?_
 intro b hb
 simp only [Int.toNat_natCast]
 refine ⟨_,_,_,rfl,fun L hp=>∃ k:Nat,k<=n/\L=[I (k:Int)]/\OwnK NQr h hp b n k (fun i=>sm w (fun j=>R i j*f j)),fun L _=>n-(iAt L 0).toNat,⟨0,by omega,rfl,OwnK.zero hb⟩,?_⟩
 rintro z hp ⟨k,hk,eL,g,o,xs,lg,s,rb,hx,rr⟩
 obtain rfl:z=(k:Int):=by simpa using eL
 refine B7 (fun hlt=>?_) (fun hge=>?_)
 ·have hkn:k<n:=by omega
  obtain ⟨a1,s1,ea1,f1,f2',hc1,row1⟩:=rs.at hkn
  refine ⟨a1,ea1,by omega,by omega,_,_,_,B9 (A0 lg s.le) hc1,?_⟩
  rw [f1]
  refine s.call (Zs (row1.mono T6 lg) (rx.mono T6 lg) hw (fun j hj=>hs k j hkn hj) hs2 hm ?_)
  intro v g2 l2 iv h2 s2
  refine ⟨_,_,_,_,_,_,_,_,rfl,_,rfl,by omega,by omega,?_⟩
  refine OwnK.store T6 Jg (y:=v) lg l2 s2 rb hx rr hkn rfl iv ?_
  intro h3 ow
  rw [show B4 ((k:Int)+1)=((k+1:Nat):Int) by rw [B5]<;>omega]
  exact ⟨⟨k+1,by omega,rfl,ow⟩,by simp only [Gu];omega⟩
 ·have:k=n:=by omega
  subst this
  exact hK b hp ⟨g,o,xs,lg,s,rb,hx,rr⟩
end
structure VOut where
 n:Nat
 f:Nat->List UInt8
 e:Int
def noV(e:Int):VOut:=⟨0,fun _=>[],e⟩
def ApplO(r c:Int)(n:Nat)(la:Nat->List UInt8)(n2:Nat)(lx:Nat->List UInt8)(o:VOut):Prop:=
 (¬ (Mx r c n la/\∀ i,i<n2->IsNum (lx i))/\o=noV 1)\/(Mx r c n la/\(∀ i,i<n2->IsNum (lx i))/\(n2:Int)≠c/\o=noV 4)\/(∃ rows cols,MOk r c n la rows cols/\(∀ i,i<n2->IsNum (lx i))/\(n2:Int)=c/\o=⟨rows,fun i=>N3 (sm cols (fun j=>mtx (rvs la) cols i j*rv (lx j))),0⟩)
theorem ApplO.eq{r c:Int}{n n2:Nat}{la lx:Nat->List UInt8}{o p:VOut}(x:ApplO r c n la n2 lx o)(y:ApplO r c n la n2 lx p):o=p:=by
 rcases x with ⟨h1,rfl⟩|⟨h1,h2,h3,rfl⟩|⟨r1,c1,h1,h2,h3,rfl⟩<;>rcases y with ⟨g1,rfl⟩|⟨g1,g2,g3,rfl⟩|⟨r2,c2,g1,g2,g3,rfl⟩
 ·rfl
 ·exact absurd ⟨g1,g2⟩ h1
 ·exact absurd ⟨⟨_,_,g1⟩,g2⟩ h1
 ·exact absurd ⟨h1,h2⟩ g1
 ·rfl
 ·exact absurd g3 h3
 ·exact absurd ⟨⟨_,_,h1⟩,h2⟩ g1
 ·exact absurd h3 g3
 ·obtain rfl:r2=r1:=by have:=h1.er;have:=g1.er;omega
  obtain rfl:c2=c1:=by have:=h1.ec;have:=g1.ec;omega
  rfl
section
variable {h:Heap} {K:Value->Heap->Prop} {A B:Option Addr} {n n2 cap cap2 m:Nat} {r c:Int} {la lx:Nat->List UInt8}
end
section
variable {h:Heap} {K:Value->Heap->Prop} {A B:Option Addr} {n n2 cap cap2 m:Nat} {r c:Int} {la lx:Nat->List UInt8}
end
def MulO(r c:Int)(n:Nat)(la:Nat->List UInt8)(r2 c2:Int)(n2:Nat)(lb:Nat->List UInt8)(o:MOut):Prop:=
 (¬ (Mx r c n la/\Mx r2 c2 n2 lb)/\o=noM 1)\/(Mx r c n la/\Mx r2 c2 n2 lb/\c≠r2/\o=noM 4)\/(∃ rows mid cols,MOk r c n la rows mid/\MOk r2 c2 n2 lb mid cols/\o=⟨r,c2,rows*cols,fun k=>N3 (sm mid (fun j=>mtx (rvs la) mid (k/cols) j*mtx (rvs lb) cols j (k%cols))),0⟩)
theorem MulO.n_le{r c r2 c2:Int}{n n2:Nat}{la lb:Nat->List UInt8}{o:MOut}(x:MulO r c n la r2 c2 n2 lb o):o.n<=4096:=by
 rcases x with ⟨_,rfl⟩|⟨_,_,_,rfl⟩|⟨a1,b1,c1,h1,h2,rfl⟩
 ·exact Nat.zero_le _
 ·exact Nat.zero_le _
 ·have:a1*c1<=64*64:=Nat.mul_le_mul h1.r2 h2.c2
  exact this
theorem A51{f f':Nat->Rat}: ∀ n,(∀ i,i<n->f i=f' i)->Is f n=Is f' n:=by
 intro n
 induction n with
 | zero=>intro _;rfl
 | succ n ih=>
  intro e
  show Nat.lcm (Is f n) (f n).den=Nat.lcm (Is f' n) (f' n).den
  rw [ih fun i hi=>e i (by omega),e n (by omega)]
theorem VQr.congr{h:Heap}{w:Nat}{v:VV}{f f':Nat->Rat}(x:VQr w h v f)(e:∀ i,i<w->f i=f' i):VQr w h v f':=by
 have hd:Is f w=Is f' w:=A51 w e
 obtain ⟨a,b,c⟩:=x
 rw [hd] at b c
 exact ⟨a,b,c.congr fun j hj=>by rw [e j hj]⟩
section
variable {h:Heap} {K:Value->Heap->Prop} {A B:Option Addr} {n n2 cap cap2 m:Nat} {r c r2 c2:Int} {la lb:Nat->List UInt8} {E:Nat->Rat}
theorem Vu{rows cols:Nat}(rv':RowV RQr h A (rows*cols) E)(hr:rows<=10000)(hc:cols<=10000)
 (hK:∀ A' c' h' g' o' xs,h.le g'->Sep h' g' o'->OwnSl o' L3 A' c' xs->xs.length=rows*cols->Row RQr g' xs (rows*cols) (fun k=>E (k%rows*cols+k/rows))->K (.slice A' (rows*cols) c') h'):FCall Tryz.prog Dv #[.slice A (rows*cols) cap,I (rows:Int),I (cols:Int)] h K:=by
 refine Tg _ _ _ _ _ ?_
 unfold Sc
 have hrc:rows*cols<=10000*10000:=Nat.mul_le_mul hr hc
 refine Q6 B16 (zx:=Cc) rfl (by omega) (by omega) (by omega) (by omega) ?_
 intro b hb
 simp only [Int.toNat_natCast]
 refine ⟨_,_,_,rfl,fun L hp=>∃ (j:Nat) (g o:Heap) (xs:List QV) (A':Option Addr) (c':Nat),j<=cols/\L=[.slice A' (j*rows) c',I (j:Int)]/\h.le g/\Sep hp g o/\OwnSl o L3 A' c' xs/\xs.length=j*rows/\Row RQr g xs (j*rows) (fun k=>E (k%rows*cols+k/rows)),fun L _=>cols-(iAt L 1).toNat,
  ⟨0,h,Eg.put b _,[],some ⟨b,0,none⟩,rows*cols,by omega,by rw [Nat.zero_mul];rfl,B3 _,Hd hb,A5t,by simp,by rw [Nat.zero_mul];exact Row.nil⟩,?_⟩
 rintro rA rn rc z hp ⟨j,g,o,xs,A',c',hj,eL,lg,s,ow,hxl,rr⟩
 simp only [List.cons.injEq,Value.int.injEq,Value.slice.injEq,true_and,and_true] at eL
 obtain ⟨⟨rfl,rfl,rfl⟩,rfl⟩:=eL
 refine B7 (fun hlt=>?_) (fun hge=>?_)
 ·have hjc:j<cols:=by omega
  have hj1:(j+1)*rows=j*rows+rows:=by rw [Nat.add_mul,Nat.one_mul]
  have hjr:(j+1)*rows<=cols*rows:=Nat.mul_le_mul_right _ hjc
  rw [Nat.mul_comm cols rows] at hjr
  refine ⟨fun L hp=>∃ (i:Nat) (g o:Heap) (xs:List QV) (A':Option Addr) (c':Nat),i<=rows/\L=[.slice A' (j*rows+i) c',I (i:Int)]/\h.le g/\Sep hp g o/\OwnSl o L3 A' c' xs/\xs.length=j*rows+i/\Row RQr g xs (j*rows+i) (fun k=>E (k%rows*cols+k/rows)),fun L _=>rows-(iAt L 1).toNat,
   ⟨0,g,o,xs,rA,rc,by omega,rfl,lg,s,ow,hxl,rr⟩,?_⟩
  rintro qA qn qc z hp2 ⟨i,g2,o2,ys,A2,c2,hi,eL,lg2,s2,ow2,hyl,rr2⟩
  simp only [List.cons.injEq,Value.int.injEq,Value.slice.injEq,true_and,and_true] at eL
  obtain ⟨⟨rfl,rfl,rfl⟩,rfl⟩:=eL
  refine B7 (fun hlt2=>?_) (fun hge2=>?_)
  ·have hir:i<rows:=by omega
   have hidx:=Eh hir hjc
   have ew:B4 (B4 ((i:Int)*(cols:Int))+(j:Int))=((i*cols+j:Nat):Int):=by
    rw [<- Int.natCast_mul,Bf (by omega)]
    exact Bf (n:=i*cols+j) (by omega)
   rw [ew]
   obtain ⟨a,w,ea,iw,c0,c1,c2',c3⟩:=(rv'.mono N7 lg2).qat hidx
   refine ⟨a,ea,by omega,by omega,_,_,_,_,_,_,_,_,B9 s2.le c0,B9 s2.le c1,B9 s2.le c2',B9 s2.le c3,?_⟩
   refine Bd (ty:=W8) B16 s2 ow2 hyl.symm (y:=w) rfl (by decide) (by rw [hyl];omega) (by rw [hyl];omega) ?_
   intro A3 c3 h3 g3 o3 l3 s3 ow3 _
   rw [hyl,show B4 ((i:Int)+1)=((i+1:Nat):Int) by rw [B5]<;>omega]
   refine ⟨⟨i+1,g3,o3,_,A3,c3,by omega,by rw [Nat.add_assoc],A0 lg2 l3,s3,ow3,by rw [List.length_append,hyl];rfl,?_⟩,?_⟩
   ·have rB:=Row.push (R:=RQr) (g:=g3) (xs:=ys) (f:=fun k=>E (k%rows*cols+k/rows)) (by rw [hyl];exact rr2.mono N7 l3) (w:=w) (by
     show RQ g3 w (E (ys.length%rows*cols+ys.length/rows))
     rw [hyl,Nat.add_comm (j*rows) i,Nat.add_mul_mod_self_right,Nat.mod_eq_of_lt hir,Nat.add_mul_div_right _ _ (by omega),Nat.div_eq_of_lt hir,Nat.zero_add]
     exact N7 _ _ _ _ l3 iw)
    rw [List.length_append,hyl] at rB
    exact rB
   ·show rows-((i+1:Nat):Int).toNat<rows-(i:Int).toNat
    omega
  ·have:i=rows:=by omega
   subst this
   rw [show B4 ((j:Int)+1)=((j+1:Nat):Int) by rw [B5]<;>omega,<- hj1]
   rw [<- hj1] at hyl rr2
   refine ⟨⟨j+1,g2,o2,ys,qA,qc,by omega,rfl,lg2,s2,ow2,hyl,rr2⟩,?_⟩
   show cols-((j+1:Nat):Int).toNat<cols-(j:Int).toNat
   omega
 ·have:j=cols:=by omega
  subst this
  rw [Nat.mul_comm j rows] at hxl rr ⊢
  exact hK rA rc hp g o xs lg s ow hxl rr
end
def SolvO(r c:Int)(n:Nat)(la:Nat->List UInt8)(n2:Nat)(lx:Nat->List UInt8)(o:VOut):Prop:=
 (¬ (Mx r c n la/\∀ i,i<n2->IsNum (lx i))/\o=noV 1)\/(Mx r c n la/\(∀ i,i<n2->IsNum (lx i))/\(n2:Int)≠r/\o=noV 4)\/(∃ rows cols,MOk r c n la rows cols/\(∀ i,i<n2->IsNum (lx i))/\(n2:Int)=r/\((Il (rvs la) (rvs lx) rows cols/\o=⟨cols,fun i=>N3 (A10 (rvs la) (rvs lx) rows cols i),0⟩)\/(¬ Il (rvs la) (rvs lx) rows cols/\o=noV 8)))
theorem SolvO.eq{r c:Int}{n n2:Nat}{la lx:Nat->List UInt8}{o p:VOut}(x:SolvO r c n la n2 lx o)(y:SolvO r c n la n2 lx p):o=p:=by
 rcases x with ⟨h1,rfl⟩|⟨h1,h2,h3,rfl⟩|⟨r1,c1,h1,h2,h3,h4⟩<;>rcases y with ⟨g1,rfl⟩|⟨g1,g2,g3,rfl⟩|⟨r2,c2,g1,g2,g3,g4⟩
 ·rfl
 ·exact absurd ⟨g1,g2⟩ h1
 ·exact absurd ⟨⟨_,_,g1⟩,g2⟩ h1
 ·exact absurd ⟨h1,h2⟩ g1
 ·rfl
 ·exact absurd g3 h3
 ·exact absurd ⟨⟨_,_,h1⟩,h2⟩ g1
 ·exact absurd h3 g3
 ·obtain rfl:r2=r1:=by have:=h1.er;have:=g1.er;omega
  obtain rfl:c2=c1:=by have:=h1.ec;have:=g1.ec;omega
  rcases h4 with ⟨a,rfl⟩|⟨a,rfl⟩<;>rcases g4 with ⟨b,rfl⟩|⟨b,rfl⟩
  ·rfl
  ·exact absurd a b
  ·exact absurd b a
  ·rfl
def C1c(r c:Int)(n:Nat)(la:Nat->List UInt8)(n2:Nat)(lx:Nat->List UInt8)(e:Int)(ny:Nat)(fy:Nat->List UInt8):Prop:=
 (e≠8/\ny=0)\/(e=8/\∃ rows cols,MOk r c n la rows cols/\(∀ i,i<n2->IsNum (lx i))/\(n2:Int)=r/\¬ Il (rvs la) (rvs lx) rows cols/\ny=rows/\fy=fun i=>N3 (A10 (Yc (rvs la) (rvs lx) rows cols) (A4r cols) (cols+1) rows i))
theorem Ve{E b:Nat->Rat}{rows cols m:Nat}(hs:∀ i,i<rows*cols->Sz m (E i))(hb:∀ i,i<rows->Sz m (b i))(hm:1<=m):∀ j,Sz (7^cols*m) (A10 E b rows cols j):=
 B53 (m:=m) (Oy cols m hm) (B7s (n:=rows) (w:=cols+1) (c:=cols) (A7q (A31 hs hb)) hm (by omega) (Nat.le_refl _)).1
theorem A1n{E b:Nat->Rat}{rows cols m:Nat}(hr:1<=rows)(hs:∀ i,i<rows*cols->Sz m (E i))(hb:∀ i,i<rows->Sz m (b i)):∀ i,i<(cols+1)*rows->Sz m (Yc E b rows cols i):=by
 intro i hi
 rw [Nat.add_mul,Nat.one_mul] at hi
 unfold Yc
 by_cases e:i<cols*rows
 ·rw [if_pos e]
  refine hs _ (Eh (Nat.mod_lt i (by omega)) (Nat.div_lt_of_lt_mul (by rw [Nat.mul_comm];exact e)))
 ·rw [if_neg e];exact hb _ (by omega)
theorem A1o{cols m:Nat}(hm:1<=m):∀ i,i<cols+1->Sz m (A4r cols i):=by
 intro i _
 unfold A4r
 split
 ·exact ⟨ZB.one hm,ZB.one hm⟩
 ·exact Sz.zero hm
section
variable {h:Heap} {K:Value->Heap->Prop} {A B:Option Addr} {n n2 cap cap2 m:Nat} {r c:Int} {la lx:Nat->List UInt8}
theorem A1x(gl:Gl h)(ra:RowV SSr h A n la)(rx:RowV SSr h B n2 lx)(hn:n<=1000000)(hn2:n2<=1000000)(hl:∀ i,i<n->(la i).length<=100000000)(hl2:∀ i,i<n2->(lx i).length<=100000000)(hs:∀ i,i<n->Sz m (rv (la i)))(hs2:∀ i,i<n2->Sz m (rv (lx i)))(hm1:1<=m)
 (hb1:∀ rows cols,MOk r c n la rows cols->2*(3^cols*bnd (cols+1) m)+1<=40000000/\2*(3^rows*bnd (rows+1) m)+1<=40000000/\7^cols*m<=40000000/\7^rows*m<=40000000)
 (hK:∀ o,SolvO r c n la n2 lx o->∀ ny fy,C1c r c n la n2 lx o.e ny fy->∀ A' cap' A2 cap2' h',h.le h'->RowV SSr h' A' o.n o.f->RowV SSr h' A2 ny fy->K (.tuple #[.slice A' o.n cap',.slice A2 ny cap2',I o.e]) h'):FCall Tryz.prog Wt #[A4y r c A n cap,.slice B n2 cap2] h K:=by
 refine B06 _ _ _ _ _ _ _ _ ?_
 unfold B4g
 have bad:¬ (Mx r c n la/\∀ i,i<n2->IsNum (lx i))->∀ h',h.le h'->K (.tuple #[.slice none 0 0,.slice none 0 0,I 1]) h':=fun hx h' l=>hK (noV 1) (.inl ⟨hx,rfl⟩) 0 (fun _=>[]) (.inl ⟨by decide,rfl⟩) none 0 none 0 h' l RowV.nil RowV.nil
 refine Ly gl ra hn hl (fun rows cols mk b1 h1 own=>?_) (fun hno h1 l1=>⟨_,_,_,_,rfl,?_⟩)
 ·have l1:=own.le
  refine ⟨_,_,_,_,rfl,Fg (gl.mono l1) (rx.mono Cl l1) hn2 hl2 (fun hnum b2 h2 own2=>⟨_,_,_,_,rfl,Br.nt (Br.nt ?_)⟩) (fun hno h2 l2=>⟨_,_,_,_,rfl,Br.nt (Yb (bad (fun x=>hno x.2) h2 (A0 l1 l2)))⟩)⟩
  have l2:=own2.le
  have lh2:=A0 l1 l2
  refine K9 (fun e=>hK (noV 4) (.inr (.inl ⟨⟨_,_,mk⟩,hnum,e,rfl⟩)) 0 (fun _=>[]) (.inl ⟨by decide,rfl⟩) none 0 none 0 h2 lh2 RowV.nil RowV.nil) (fun e=>?_)
  have good:=fun x=>hK ⟨cols,fun i=>N3 (A10 (rvs la) (rvs lx) rows cols i),0⟩ (.inr (.inr ⟨rows,cols,mk,hnum,e,.inl ⟨x,rfl⟩⟩)) 0 (fun _=>[]) (.inl ⟨show (0:Int)≠8 by decide,rfl⟩)
  have ill:=fun w=>hK (noV 8) (.inr (.inr ⟨rows,cols,mk,hnum,e,.inr ⟨w,rfl⟩⟩)) rows (fun i=>N3 (A10 (Yc (rvs la) (rvs lx) rows cols) (A4r cols) (cols+1) rows i)) (.inr ⟨rfl,rows,cols,mk,hnum,e,w,rfl,rfl⟩)
  obtain ⟨k1,k2,k3,k4⟩:=hb1 rows cols mk
  have:=mk.r1;have:=mk.r2;have:=mk.c1;have:=mk.c2
  obtain rfl:n2=rows:=by have:=mk.er;omega
  obtain ⟨rfl,rfl,_,_,_,_,rfl,_⟩:=id mk
  have hrc:n2*cols<=64*64:=Nat.mul_le_mul (by omega) (by omega)
  have hX:=Ve hs hs2 hm1
  refine Nq (E:=rvs la) (b:=rvs lx) (m:=m) (gl.mono lh2) ((own.vis N7).mono N7 l2) (Nat.le_refl _) (own2.vis N7) (Nat.le_refl _) (by omega) (by omega) (by omega) (by omega) hs hs2 k1 (fun hok b3 h3 l3 rq=>⟨_,_,_,_,rfl,?_⟩) (fun hno h3 l3=>⟨_,_,_,_,rfl,?_⟩)
  ·refine Fd (m:=7^cols*m) (gl.mono (A0 lh2 l3)) rq (by omega) (fun i _=>hX i) k3 ?_
   intro b4 h4 own4
   exact ⟨_,_,_,rfl,good hok _ _ none 0 h4 (A0 lh2 (A0 l3 own4.le)) (own4.vis Cl) RowV.nil⟩
  ·refine Vu ((own.vis N7).mono N7 (A0 l2 l3)) (by omega) (by omega) ?_
   intro A4 c4 h4 g4 o4 xs l4 s4 ow4 hxl rr4
   refine ⟨_,_,_,rfl,?_⟩
   have lh4:=A0 lh2 (A0 l3 l4)
   obtain ⟨ys,sy,hyl,qy⟩:=(own2.vis N7).mono N7 (A0 l3 l4)
   refine OwnSl.app (ty:=W8) B16 s4 ow4 hxl.symm hyl.symm (by rintro rfl;simp at hyl;omega) (sy.mono s4.le) (by rw [hxl,hyl];omega) (by rw [hxl,hyl];omega) ?_
   intro A5 c5 h5 g5 o5 l5 s5 ow5 _
   refine ⟨_,_,_,rfl,?_⟩
   have e2:n2*cols+n2=(cols+1)*n2:=by rw [Nat.add_mul,Nat.one_mul,Nat.mul_comm cols n2]
   have hlen5:(xs++ys).length=(cols+1)*n2:=by rw [List.length_append,hxl,hyl,e2]
   have r5:RowV RQr h5 A5 ((cols+1)*n2) (Yc (rvs la) (rvs lx) n2 cols):=by
    refine ⟨xs++ys,ow5.slF s5.ole,hlen5,?_⟩
    rw [<- e2]
    refine Row.app hxl (((rr4.mono N7 l5).mono N7 s5.le).congr fun k hk=>?_) (((qy.mono N7 l5).mono N7 s5.le).congr fun k hk=>?_)
    ·unfold Yc
     rw [if_pos (by rw [Nat.mul_comm];exact hk)]
    ·unfold Yc
     rw [Nat.mul_comm cols n2,if_neg (by omega),Nat.add_sub_cancel_left]
   have hc5:(cols+1)*n2<=c5:=by have:=ow5.1;omega
   have lh5:=A0 lh4 (A0 l5 s5.le)
   have l25:h2.le h5:=A0 l3 (A0 l4 (A0 l5 s5.le))
   rw [hxl,e2]
   clear s4 ow4 rr4 s5 ow5 qy sy
   have ew:B4 ((cols:Int)+1)=((cols+1:Nat):Int):=B5 (by omega) (by omega)
   rw [ew]
   refine Q6 B16 (zx:=Cc) rfl (by omega) (by omega) (by omega) (by omega) ?_
   intro b6 hb6
   simp only [Int.toNat_natCast]
   have s6:=(Sep.refl h5).new hb6 (.cells ((List.replicate (cols+1) Cc).flatMap enc).toArray L3)
   refine ⟨_,_,_,rfl,s6.call (A1b ⟨by omega,by omega⟩ ?_)⟩
   intro w7 g7 l7 i7 h7 s7
   have one:((1:Int):Rat)=1:=rfl
   rw [one] at i7
   refine ⟨_,_,_,_,_,_,_,_,rfl,s6.le_le s7 l7,_,rfl,by omega,by omega,?_⟩
   refine Al Jf (y:=w7) rfl s7 RowX.mk (i:=cols) (by rw [List.length_replicate];omega) ?_
   intro h8 o8 x8 eo8 s8 rx8
   have lh8:=A0 lh5 (A0 l7 s8.le)
   have l58:=A0 l7 s8.le
   have r0:Row RQr g7 (List.replicate (cols+1) Cc) (cols+1) (fun _=>0):=fun i hi=>⟨Cc,by rw [List.getElem?_replicate,if_pos hi],RQ.zero⟩
   have r8:RowV RQr h8 (some ⟨b6,0,none⟩) (cols+1) (A4r cols):=⟨_,rx8.rowB.slF s8.ole,by rw [List.length_set,List.length_replicate],((r0.upd (by rw [List.length_replicate];omega) i7).mono N7 s8.le)⟩
   have hX2:=Ve (A1n (by omega) hs hs2) (A1o (cols:=cols) hm1) hm1
   refine Nq (E:=Yc (rvs la) (rvs lx) n2 cols) (b:=A4r cols) (rows:=cols+1) (cols:=n2) (m:=m) (gl.mono lh8) (r5.mono N7 l58) hc5 r8 (Nat.le_refl _) (by omega) (by omega) (by omega) (by omega) (A1n (by omega) hs hs2) (A1o hm1) k2 (fun hok b9 h9 l9 rq=>⟨_,_,_,_,rfl,?_⟩) (fun hno2 _ _=>absurd (B38 hno) hno2)
   refine Fd (m:=7^n2*m) (gl.mono (A0 lh8 l9)) rq (by omega) (fun i _=>hX2 i) k4 ?_
   intro b10 h10 own10
   exact ⟨_,_,_,rfl,ill hno none 0 _ _ h10 (A0 lh8 (A0 l9 own10.le)) RowV.nil (own10.vis Cl)⟩
 ·refine Fg (gl.mono l1) (rx.mono Cl l1) hn2 hl2 (fun hnum b2 h2 own2=>⟨_,_,_,_,rfl,Yb (bad (fun x=>hno x.1) h2 (A0 l1 own2.le))⟩) (fun _ h2 l2=>⟨_,_,_,_,rfl,Yb (bad (fun x=>hno x.1) h2 (A0 l1 l2))⟩)
end
section
variable {h g o:Heap} {wA B:Option Addr} {wc be m d:Nat} {hd:List HV} {xs ys:List QV}
theorem Sep.free(s:Sep h g o){b:Nat}(hb:h b=none):g b=none:=by
 cases hx:g b with
 | none=>rfl
 | some y=>rw [s.le _ _ hx] at hb;cases hb
theorem Cb{α:Type}[E:Enc α]{e:TypeId}{A:Option Addr}{c:Nat}{zs:List α}(s:Sep h g o)(w:OwnSl o e A c zs)(hb:h be=none):A≠some ⟨be,0,none⟩:=by
 rcases w.2 with ⟨_,h0⟩|⟨b,arr,hA,hb',_⟩
 ·rw [h0];simp
 ·rw [hA]
  intro e
  simp only [Option.some.injEq,Addr.mk.injEq,and_true] at e
  subst e
  rw [s.own _ _ hb'] at hb;cases hb
theorem A4z{u:QV}{v:Value}(hv:v.cells=(enc u).toArray){K:Value->Heap->Prop}(x:∀ b,h b=none->K (.slice (some ⟨b,0,none⟩) 1 1) (h.put b (.cells ([u].flatMap enc).toArray D7))):wpH Tryz.prog (Instr.buildSlice U7 1 #[(0,v)]) K h:=by
 refine Jw Of (vs:=[v]) (fun w hw=>by rw [List.mem_singleton.1 hw,hv];rfl) rfl (by simp) rfl ?_
 intro b hb
 have hfl:[v].flatMap (fun v=>v.cells.toList)=[u].flatMap enc:=by simp [hv]
 rw [hfl]
 exact x b hb
theorem Lq(s:Sep h g o)(hb:o be=some (.cells #[] D7))(ow:OwnSl o I8 wA wc hd)(hne:wA≠some ⟨be,0,none⟩)(sx:SlF h B xs)(hx:xs≠[])(hm:m=xs.length)(hl:xs.length<=10000){K:Value->Heap->Prop}
 (x:∀ A2 c2 h2 g2 o2,g.le g2->Sep h2 g2 o2->OwnSl o2 D7 A2 c2 xs->OwnSl o2 I8 wA wc hd->(∀ b,wA=some ⟨b,0,none⟩->A2≠wA)->K (.slice A2 m c2) h2):wpH Tryz.prog (Builtin.append_ #[U7,U7] U7 #[.slice (some ⟨be,0,none⟩) 0 0,.slice B m d]) K h:=by
 have w0:OwnSl o D7 (some ⟨be,0,none⟩) 0 ([]:List QV):=⟨Nat.le_refl _,.inr ⟨be,[],rfl,hb,by simp,rfl⟩⟩
 refine OwnSl.app (ty:=U7) Of s w0 (n:=0) rfl hm hx sx (by simp;omega) (by simp;omega) ?_
 intro A2 c2 h2 g2 o2 l2 s2 ow2 kp
 rw [List.nil_append] at ow2
 have kq:∀ b y,wA=some ⟨b,0,none⟩->o b=some y->o2 b=some y/\A2≠some ⟨b,0,none⟩:=fun b y e hy=>kp b y hy (fun e2=>hne (by rw [e];exact e2.symm))
 have:=x A2 c2 h2 g2 o2 l2 s2 ow2 (ow.keep fun b y e hy=>(kq b y e hy).1) (fun b e=>by
  rcases ow.2 with ⟨_,h0⟩|⟨b',arr,hA,hb',_⟩
  ·rw [h0] at e;cases e
  ·rw [hA] at e
   simp only [Option.some.injEq,Addr.mk.injEq,and_true] at e
   subst e
   rw [hA]
   exact (kq _ _ hA hb').2)
 simpa using this
theorem Lp{A2:Option Addr}{c2 n1 wn:Nat}(s:Sep h g o)(ow2:OwnSl o D7 A2 c2 xs)(ow:OwnSl o I8 wA wc hd)(ha:∀ b,wA=some ⟨b,0,none⟩->A2≠wA)(sy:SlF h B ys)(hy:ys≠[])(hn1:n1=xs.length)(hm:m=ys.length)(hwn:wn=hd.length)(hl:xs.length<=10000)(hl2:ys.length<=10000)(hl3:hd.length<=10000){K:Option Addr->Nat->Nat->Heap->Prop}
 (x:∀ A3 c3 A9 c9 h9 g9 o9,g.le g9->Sep h9 g9 o9->xs.length+ys.length<=c3->SlF g9 A3 (xs++ys)->OwnSl o9 I8 A9 c9 (hd++[(⟨A3,xs.length+ys.length,c3⟩:HV)])->K A9 (hd.length+1) c9 h9):
 wpH Tryz.prog (Builtin.append_ #[U7,U7] U7 #[.slice A2 n1 c2,.slice B m d]) (fun v3 hp4=>∃ (a:Option Addr) (b c:Nat),v3= .slice a b c/\wpH Tryz.prog (Instr.buildSlice Hp 1 #[(0,.slice a b c)]) (fun v4 hp5=>∃ (a2:Option Addr) (b2 c2:Nat),v4= .slice a2 b2 c2/\Heap.le hp4 hp5/\wpH Tryz.prog (Builtin.append_ #[Hp,Hp] Hp #[.slice wA wn wc,.slice a2 b2 c2]) (fun v5 hp6=>∃ (a3:Option Addr) (b3 c3:Nat),v5= .slice a3 b3 c3/\K a3 b3 c3 hp6) hp5) hp4) h:=by
 subst hwn
 refine OwnSl.app (ty:=U7) Of s ow2 hn1 hm hy sy (by omega) (by omega) ?_
 intro A3 c3 h3 g3 o3 l3 s3 ow3 kp
 have kq:∀ b y,wA=some ⟨b,0,none⟩->o b=some y->o3 b=some y/\A3≠some ⟨b,0,none⟩:=fun b y e hy=>kp b y hy (fun e2=>ha b e (by rw [e];exact e2))
 have ow':OwnSl o3 I8 wA wc hd:=ow.keep fun b y e hy=>(kq b y e hy).1
 have hA3:∀ b,wA=some ⟨b,0,none⟩->A3≠wA:=fun b e=>by
  rcases ow.2 with ⟨_,h0⟩|⟨b',arr,hA,hb',_⟩
  ·rw [h0] at e;cases e
  ·rw [hA] at e
   simp only [Option.some.injEq,Addr.mk.injEq,and_true] at e
   subst e
   rw [hA]
   exact (kq _ _ hA hb').2
 obtain ⟨g4,l4,s4⟩:=s3.give (Zc o3 wA)
 have sl:SlF g4 A3 (xs++ys):=by
  obtain ⟨b3,rfl,e3,ex3,hb3⟩:=ow3.rowB (by simp [hy])
  have hn3:Qc o3 wA b3=none:=Qb o3 (fun e=>hA3 b3 e e.symm)
  have hg4:g4 b3=some (.cells ((xs++ys).flatMap enc++ex3).toArray e3):=by
   rw [<- s4.rest b3 hn3]
   exact s3.own _ _ hb3
  exact RowB.slF (o:=g4) ⟨e3,ex3,hg4⟩ (B3 _)
 have hcap:=ow3.1
 rw [List.length_append] at hcap
 rw [hm]
 refine ⟨_,_,_,rfl,?_⟩
 refine OwnSl.push (ty:=Hp) B8x s4 ow'.only (y:=(⟨A3,xs.length+ys.length,c3⟩:HV)) (K1:=fun hp5=>Heap.le h3 hp5) rfl (by decide) (by omega) (by omega) (fun h1 l1=>l1) ?_
 intro A9 c9 h9 g9 o9 l9 s9 ow9 _
 exact x A3 c3 A9 c9 h9 g9 o9 (A0 l3 (A0 l4 l9)) s9 hcap (sl.mono l9) ow9
end
section
variable {h:Heap} {K:Value->Heap->Prop} {A B:Option Addr} {n n2 cap cap2 m w:Nat} {r c:Int} {la lx:Nat->List UInt8} {E b:Nat->Rat}
theorem So(rs:RowsV h A n w (mtx E w))(rb:RowV NQr h B n b)(hn1:1<=n)(hn:n<=1000)(hw1:1<=w)(hw:w<=1000)(hm1:1<=m)(hs:∀ i j,i<n->j<w->Sz m (mtx E w i j))(hs2:∀ i,i<n->Sz m (b i))(hm:7^w*m<=100000000)
 (hK1:Il E b n w->∀ b' h',h.le h'->RowV NQr h' (some ⟨b',0,none⟩) w (A10 E b n w)->K (.tuple #[.slice (some ⟨b',0,none⟩) w w,.bool true]) h')
 (hK0:¬ Il E b n w->∀ h',h.le h'->K (.tuple #[.slice none 0 0,.bool false]) h'):FCall Tryz.prog Ig #[.slice A n cap,.slice B n cap2] h K:=by
 refine A0r _ _ _ _ _ _ ?_
 unfold A0s
 obtain ⟨a0,sv0,ea0,f01,f02,hc0,_⟩:=rs.at (i:=0) (by omega)
 refine ⟨a0,ea0,by omega,by omega,_,_,_,hc0,?_⟩
 rw [f01]
 have wM:∀ k,k<n->∀ j,j<w+1->mtx (I0 E b w) (w+1) k j=if j<w then mtx E w k j else b k:=by
  intro k _ j hj
  by_cases e:j<w
  ·rw [if_pos e,Iu E b e]
  ·rw [if_neg e,show j=w by omega,Gk]
 refine ⟨fun L hp=>∃ (k:Nat) (g o:Heap) (hd:List HV) (A':Option Addr) (c':Nat),k<=n/\L=[.slice A' k c',I (k:Int)]/\h.le g/\Sep hp g o/\OwnSl o I8 A' c' hd/\hd.length=k/\Row (RWr (w+1)) g hd k (mtx (I0 E b w) (w+1)),fun L _=>n-(iAt L 1).toNat,
  ⟨0,h,Eg,[],none,0,by omega,rfl,B3 _,Sep.refl h,OwnSl.nil,rfl,Row.nil⟩,?_⟩
 rintro wA wn wc z hp ⟨k,g,o,hd,A',c',hk,eL,lg,s,ow,hhd,rr⟩
 simp only [List.cons.injEq,Value.int.injEq,Value.slice.injEq,true_and,and_true] at eL
 obtain ⟨⟨rfl,rfl,rfl⟩,rfl⟩:=eL
 refine B7 (fun hlt=>?_) (fun hge=>?_)
 ·have hkn:wn<n:=by omega
  obtain ⟨a1,s1,ea1,f1,f2,hc1,xs,sx,hxl,qx⟩:=rs.at hkn
  obtain ⟨a2,u,ea2,iu,d0,d1,d2,d3⟩:=rb.qat hkn
  have hxne:xs≠[]:=by rintro rfl;simp at hxl;omega
  have hgle:g.le hp:=s.le
  have done:∀ {A3:Option Addr} {c3:Nat} {A9:Option Addr} {c9:Nat} {h9 g9 o9:Heap},g.le g9->Sep h9 g9 o9->xs.length+[u].length<=c3->SlF g9 A3 (xs++[u])->OwnSl o9 I8 A9 c9 (hd++[(⟨A3,xs.length+[u].length,c3⟩:HV)])->
   ((∃ (k:Nat) (g o:Heap) (hd':List HV) (A':Option Addr) (c':Nat),k<=n/\[Value.slice A9 (hd.length+1) c9,I (B4 ((wn:Int)+1))]=[.slice A' k c',I (k:Int)]/\h.le g/\Sep h9 g o/\OwnSl o I8 A' c' hd'/\hd'.length=k/\Row (RWr (w+1)) g hd' k (mtx (I0 E b w) (w+1)))/\n-(iAt [Value.slice A9 (hd.length+1) c9,I (B4 ((wn:Int)+1))] 1).toNat<n-(iAt [Value.slice wA wn wc,I (wn:Int)] 1).toNat):=by
   intro A3 c3 A9 c9 h9 g9 o9 l9 s9 hc3 sl ow9
   rw [hhd,show B4 ((wn:Int)+1)=((wn+1:Nat):Int) by rw [B5]<;>omega]
   refine ⟨⟨wn+1,g9,o9,_,A9,c9,by omega,rfl,A0 lg l9,s9,ow9,by rw [List.length_append,hhd];rfl,?_⟩,?_⟩
   ·have rA:Row (RWr (w+1)) g9 hd hd.length (mtx (I0 E b w) (w+1)):=by rw [hhd];exact rr.mono (B1o (w+1)) l9
    have rB:=rA.push (w:=(⟨A3,xs.length+[u].length,c3⟩:HV)) (by
     rw [hhd]
     refine ⟨by rw [hxl];rfl,by rw [hxl] at hc3;exact hc3,xs++[u],sl,by rw [List.length_append,hxl];rfl,?_⟩
     have q1:Row NQr g9 xs xs.length (mtx (I0 E b w) (w+1) wn):=by
      rw [hxl]
      exact (qx.mono T6 (A0 lg l9)).congr fun j hj=>by rw [wM wn hkn j (by omega),if_pos hj]
     have q2:=q1.push (w:=u) (by
      rw [hxl,wM wn hkn w (by omega),if_neg (Nat.lt_irrefl w)]
      exact T6 _ _ _ _ (A0 lg l9) iu)
     rw [List.length_append,hxl] at q2
     exact q2)
    rw [List.length_append,hhd] at rB
    exact rB
   ·show n-((wn+1:Nat):Int).toNat<n-(wn:Int).toNat
    omega
  have lhp:h.le hp:=A0 lg hgle
  have hl1:xs.length<=10000:=by omega
  have hl3:hd.length<=10000:=by omega
  have hu:∀ {q:Heap} {b1:Nat} {e:TypeId},q b1=none->SlF (q.put b1 (.cells ([u].flatMap enc).toArray e)) (some ⟨b1,0,none⟩) [u]:=fun hb=>Ii _ _ _ [u]
  have cells:∀ {q:Heap},hp.le q->q.cell? (Addr.add (Addr.add a2 (wn*4)) 0)=some (.bool u.s)/\q.cell? (Addr.add (Addr.add a2 (wn*4)) 1)=some (.slice u.A u.n u.c)/\q.cell? (Addr.add (Addr.add a2 (wn*4)) 2)=some (.bool u.s2)/\q.cell? (Addr.add (Addr.add a2 (wn*4)) 3)=some (.slice u.A2 u.n2 u.c2):=fun l=>⟨B9 (A0 lhp l) d0,B9 (A0 lhp l) d1,B9 (A0 lhp l) d2,B9 (A0 lhp l) d3⟩
  refine ⟨a1,ea1,by omega,by omega,_,_,_,B9 lhp hc1,a2,ea2,by omega,by omega,?_,?_⟩
  ·obtain ⟨p0,p1,p2,p3⟩:=cells (B3 hp)
   refine ⟨_,_,_,_,_,_,_,_,p0,p1,p2,p3,?_,?_⟩
   ·refine Mc Of ?_
    intro be hbe
    have hne:=Cb s ow hbe
    have ow1:OwnSl (o.put be (.cells #[] D7)) I8 wA wc hd:=ow.keep fun b y e hy=>by rw [B6 _ _ (fun e2=>hne (by rw [e,e2]))];exact hy
    have s1':=s.new hbe (.cells #[] D7)
    refine ⟨_,_,_,rfl,Heap.le_put _ hbe,?_,?_⟩
    ·refine Lq s1' (C0 _ _ _) ow1 hne (sx.mono (A0 lg s1'.le)) hxne (by omega) hl1 ?_
     intro A2 c2 h2 g2 o2 l2 s2 owr oww ha
     refine ⟨_,_,_,rfl,A4z (u:=u) rfl ?_⟩
     intro b1 hb1
     exact ⟨_,_,_,rfl,Heap.le_put _ hb1,Lp (s2.vis hb1 _) owr oww ha (hu hb1) (by simp) (by omega) rfl hhd.symm hl1 (by simp) hl3 fun A3 c3 A9 c9 h9 g9 o9 l9 s9 hc3 sl ow9=>done (A0 l2 (A0 (Heap.le_put _ (s2.free hb1)) l9)) s9 hc3 sl ow9⟩
    ·refine A4z (u:=u) rfl ?_
     intro b1 hb1
     have s3:=s1'.vis hb1 (.cells ([u].flatMap enc).toArray D7)
     have l3:=Heap.le_put (h:=g) (.cells ([u].flatMap enc).toArray D7) (s1'.free hb1)
     refine ⟨_,_,_,rfl,Heap.le_put _ hb1,?_⟩
     refine Lq s3 (C0 _ _ _) ow1 hne (sx.mono (A0 lg (A0 l3 s3.le))) hxne (by omega) hl1 ?_
     intro A2 c2 h2 g2 o2 l2 s2 owr oww ha
     refine ⟨_,_,_,rfl,?_⟩
     exact Lp s2 owr oww ha ((Ii D7 g b1 [u]).mono (A0 l2 s2.le)) (by simp) (by omega) rfl hhd.symm hl1 (by simp) hl3 fun A3 c3 A9 c9 h9 g9 o9 l9 s9 hc3 sl ow9=>done (A0 l3 (A0 l2 l9)) s9 hc3 sl ow9
   ·refine A4z (u:=u) rfl ?_
    intro b1 hb1
    have s1':=s.vis hb1 (.cells ([u].flatMap enc).toArray D7)
    have l1:=Heap.le_put (h:=g) (.cells ([u].flatMap enc).toArray D7) (s.free hb1)
    refine ⟨_,_,_,rfl,Heap.le_put _ hb1,Mc Of ?_⟩
    intro be hbe
    have hne:=Cb s1' ow hbe
    have ow1:OwnSl (o.put be (.cells #[] D7)) I8 wA wc hd:=ow.keep fun b y e hy=>by rw [B6 _ _ (fun e2=>hne (by rw [e,e2]))];exact hy
    have s3:=s1'.new hbe (.cells #[] D7)
    refine ⟨_,_,_,rfl,Heap.le_put _ hbe,?_⟩
    refine Lq s3 (C0 _ _ _) ow1 hne (sx.mono (A0 lg (A0 l1 s3.le))) hxne (by omega) hl1 ?_
    intro A2 c2 h2 g2 o2 l2 s2 owr oww ha
    refine ⟨_,_,_,rfl,?_⟩
    exact Lp s2 owr oww ha ((Ii D7 g b1 [u]).mono (A0 l2 s2.le)) (by simp) (by omega) rfl hhd.symm hl1 (by simp) hl3 fun A3 c3 A9 c9 h9 g9 o9 l9 s9 hc3 sl ow9=>done (A0 l1 (A0 l2 l9)) s9 hc3 sl ow9
  ·refine Mc Of ?_
   intro be hbe
   have hne:=Cb s ow hbe
   have ow1:OwnSl (o.put be (.cells #[] D7)) I8 wA wc hd:=ow.keep fun b y e hy=>by rw [B6 _ _ (fun e2=>hne (by rw [e,e2]))];exact hy
   have s1':=s.new hbe (.cells #[] D7)
   refine ⟨_,_,_,rfl,Heap.le_put _ hbe,?_,?_⟩
   ·obtain ⟨p0,p1,p2,p3⟩:=cells (Heap.le_put (.cells #[] D7) hbe)
    refine ⟨_,_,_,_,_,_,_,_,p0,p1,p2,p3,?_,?_⟩
    ·refine Lq s1' (C0 _ _ _) ow1 hne (sx.mono (A0 lg s1'.le)) hxne (by omega) hl1 ?_
     intro A2 c2 h2 g2 o2 l2 s2 owr oww ha
     refine ⟨_,_,_,rfl,A4z (u:=u) rfl ?_⟩
     intro b1 hb1
     exact ⟨_,_,_,rfl,Heap.le_put _ hb1,Lp (s2.vis hb1 _) owr oww ha (hu hb1) (by simp) (by omega) rfl hhd.symm hl1 (by simp) hl3 fun A3 c3 A9 c9 h9 g9 o9 l9 s9 hc3 sl ow9=>done (A0 l2 (A0 (Heap.le_put _ (s2.free hb1)) l9)) s9 hc3 sl ow9⟩
    ·refine A4z (u:=u) rfl ?_
     intro b1 hb1
     have s3:=s1'.vis hb1 (.cells ([u].flatMap enc).toArray D7)
     have l3:=Heap.le_put (h:=g) (.cells ([u].flatMap enc).toArray D7) (s1'.free hb1)
     refine ⟨_,_,_,rfl,Heap.le_put _ hb1,?_⟩
     refine Lq s3 (C0 _ _ _) ow1 hne (sx.mono (A0 lg (A0 l3 s3.le))) hxne (by omega) hl1 ?_
     intro A2 c2 h2 g2 o2 l2 s2 owr oww ha
     refine ⟨_,_,_,rfl,?_⟩
     exact Lp s2 owr oww ha ((Ii D7 g b1 [u]).mono (A0 l2 s2.le)) (by simp) (by omega) rfl hhd.symm hl1 (by simp) hl3 fun A3 c3 A9 c9 h9 g9 o9 l9 s9 hc3 sl ow9=>done (A0 l3 (A0 l2 l9)) s9 hc3 sl ow9
   ·refine Lq s1' (C0 _ _ _) ow1 hne (sx.mono (A0 lg s1'.le)) hxne (by omega) hl1 ?_
    intro A2 c2 h2 g2 o2 l2 s2 owr oww ha
    have lq:h.le h2:=A0 lg (A0 l2 s2.le)
    refine ⟨_,_,_,rfl,_,_,_,_,_,_,_,_,B9 lq d0,B9 lq d1,B9 lq d2,B9 lq d3,A4z (u:=u) rfl ?_⟩
    intro b1 hb1
    exact ⟨_,_,_,rfl,Heap.le_put _ hb1,Lp (s2.vis hb1 _) owr oww ha (hu hb1) (by simp) (by omega) rfl hhd.symm hl1 (by simp) hl3 fun A3 c3 A9 c9 h9 g9 o9 l9 s9 hc3 sl ow9=>done (A0 l2 (A0 (Heap.le_put _ (s2.free hb1)) l9)) s9 hc3 sl ow9⟩
 have hkn:wn=n:=by omega
 subst hkn
 have rsw:RowsV hp wA wn (w+1) (mtx (I0 E b w) (w+1)):=RowsV.of ⟨hd,ow.slF s.ole,hhd,rr.mono (B1o (w+1)) s.le⟩
 have hsw:∀ i j,i<wn->j<w+1->Sz m (mtx (I0 E b w) (w+1) i j):=fun i j hi hj=>by
  rw [wM i hi j hj]
  split
  ·rename_i e;exact hs i j hi e
  ·exact hs2 i hi
 have lhp:h.le hp:=A0 lg s.le
 refine Wd (m:=m) rsw hn1 (by omega) (by omega) (by omega) (by omega) hm1 hsw hm ?_
 intro h2 g2 o2 bo rb' c2 A2 cap2' wd l2 t owp ap iq
 refine ⟨_,_,_,_,_,_,_,_,_,_,_,_,_,_,rfl,?_⟩
 have asc:Asc (ecE (mtx (I0 E b w) (w+1)) wn w).cs w:=Vi wn ⟨_,[],1⟩ rfl w
 have hlen:(ecE (mtx (I0 E b w) (w+1)) wn w).cs.length<=w/\(ecE (mtx (I0 E b w) (w+1)) wn w).cs.length<=wn:=Mo _ wn w
 have hok:Il E b wn w ↔ ∀ i,i<wn->(ecE (mtx (I0 E b w) (w+1)) wn w).cs.length<=i->(ecE (mtx (I0 E b w) (w+1)) wn w).R i w=0:=Iff.rfl
 have eX:A10 E b wn w=A6a (fun m=>(ecE (mtx (I0 E b w) (w+1)) wn w).R m w) (ecE (mtx (I0 E b w) (w+1)) wn w).cs (ecE (mtx (I0 E b w) (w+1)) wn w).cs.length:=(Vo _ _).symm
 have rv2:=t.rowsV
 have sp:=owp.slF t.sep.ole
 have lh:=A0 lhp (A0 l2 t.sep.le)
 clear t owp ap iq
 rw [eX] at hK1
 clear eX
 generalize (ecE (mtx (I0 E b w) (w+1)) wn w).cs=cs at *
 generalize (ecE (mtx (I0 E b w) (w+1)) wn w).R=R at *
 refine ⟨fun L q=>∃ i:Nat,cs.length<=i/\i<=wn/\L=[I (i:Int)]/\q=h2/\∀ j,j<i->cs.length<=j->R j w=0,fun L _=>wn-(iAt L 0).toNat,⟨cs.length,Nat.le_refl _,hlen.2,rfl,rfl,fun j h1 h2=>by omega⟩,?_⟩
 rintro z q ⟨i,hi1,hi2,eL,rfl,hz⟩
 obtain rfl:z=(i:Int):=by simpa using eL
 refine B7 (fun hlt=>?_) (fun hge=>?_)
 ·have hin:i<wn:=by omega
  obtain ⟨a1,s1,ea1,f1,f2,hc1,row1⟩:=rv2.at hin
  obtain ⟨a5,w5,e5,n5,c0,c1,c2',c3⟩:=row1.qat (i:=w) (by omega)
  refine ⟨a1,ea1,by omega,by omega,_,_,_,hc1,a5,e5,by omega,by omega,_,_,_,_,_,_,_,_,c0,c1,c2',c3,?_⟩
  refine Ci n5 ⟨_,rfl,K9 (fun hne=>hK0 (fun hx=>hne (by rw [hok.1 hx i hin hi1];rfl)) _ lh) (fun he=>?_)⟩
  have he':R i w=0:=by rw [Int.sign_eq_zero_iff_zero] at he;exact Rat.num_eq_zero.1 he
  rw [show B4 ((i:Int)+1)=((i+1:Nat):Int) by rw [B5]<;>omega]
  refine ⟨⟨i+1,by omega,by omega,rfl,rfl,fun j h1 h2=>?_⟩,by simp only [Gu];omega⟩
  by_cases e:j=i
  ·rw [e];exact he'
  ·exact hz j (by omega) h2
 have hin:i=wn:=by omega
 subst hin
 have hk1:=hK1 (hok.2 fun j h1 h2=>hz j h1 h2)
 refine Q6 Of (zx:=Cc) rfl (by omega) (by omega) (by omega) (by omega) ?_
 intro b2 hb2
 simp only [Int.toNat_natCast]
 refine ⟨_,_,_,rfl,?_⟩
 have s5:=(Sep.refl q).new hb2 (.cells ((List.replicate w Cc).flatMap enc).toArray D7)
 have r0:Row NQr q (List.replicate w Cc) w (A6a (fun m=>R m w) cs 0):=fun i hi=>⟨Cc,by rw [List.getElem?_replicate,if_pos hi],NQ.zero⟩
 refine ⟨fun L q'=>∃ (i:Nat) (o':Heap) (ys:List QV),i<=cs.length/\L=[I (i:Int)]/\Sep q' q o'/\RowX o' b2 ys/\ys.length=w/\Row NQr q ys w (A6a (fun m=>R m w) cs i),fun L _=>cs.length-(iAt L 0).toNat,⟨0,_,_,by omega,rfl,s5,RowX.mk,List.length_replicate,r0⟩,?_⟩
 rintro z q6 ⟨k,o6,ys,hk,eL,s6,rx6,hy,rr6⟩
 obtain rfl:z=(k:Int):=by simpa using eL
 refine B7 (fun hlt=>?_) (fun hge=>?_)
 ·have hil:k<cs.length:=by omega
  obtain ⟨u,eu,hcu⟩:=B39 (sp.mono s6.le) hil
  have hgl:=A7y asc hil
  obtain ⟨a1,s1,ea1,f1,f2,hc1,row1⟩:=rv2.at (i:=k) (by omega)
  obtain ⟨a5,w5,e5,n5,c0,c1,c2',c3⟩:=row1.qat (i:=w) (by omega)
  refine ⟨u,eu,by omega,by omega,_,hcu,a1,ea1,by omega,by omega,_,_,_,B9 s6.le hc1,a5,e5,by omega,by omega,_,_,_,_,_,_,_,_,B9 s6.le c0,B9 s6.le c1,B9 s6.le c2',B9 s6.le c3,_,rfl,by omega,by omega,?_⟩
  refine Al Jg (y:=w5) rfl s6 rx6 (i:=cs.getD k 0) (by omega) ?_
  intro h7 o7 x7 eo7 s7 rx7
  rw [show B4 ((k:Int)+1)=((k+1:Nat):Int) by rw [B5]<;>omega]
  exact ⟨⟨k+1,o7,_,by omega,rfl,s7,rx7,by rw [List.length_set];exact hy,rr6.upd (by omega) n5⟩,by simp only [Gu];omega⟩
 ·have:k=cs.length:=by omega
  subst this
  exact hk1 b2 q6 (A0 lh s6.le) ⟨ys,rx6.rowB.slF s6.ole,hy,rr6.mono T6 s6.le⟩
theorem A22(ra:RowV SSr h A n la)(rx:RowV SSr h B n2 lx)(hn:n<=1000000)(hn2:n2<=1000000)(hl:∀ i,i<n->(la i).length<=100000000)(hl2:∀ i,i<n2->(lx i).length<=100000000)(hs:∀ i,i<n->Sz m (rv (la i)))(hs2:∀ i,i<n2->Sz m (rv (lx i)))(hm1:1<=m)(hb:∀ rows cols,MOk r c n la rows cols->7^cols*m<=100000000)
 (hK:∀ o,SolvO r c n la n2 lx o->∀ A' cap' h',h.le h'->RowV SSr h' A' o.n o.f->K (.tuple #[.slice A' o.n cap',I o.e]) h'):FCall Tryz.prog Ww #[A4y r c A n cap,.slice B n2 cap2] h K:=by
 refine B0f _ _ _ _ _ _ _ _ ?_
 unfold B4m
 have bad:¬ (Mx r c n la/\∀ i,i<n2->IsNum (lx i))->∀ h',h.le h'->K (.tuple #[.slice none 0 0,I 1]) h':=fun hx h' l=>hK (noV 1) (.inl ⟨hx,rfl⟩) none 0 h' l RowV.nil
 refine Tv ra hn hl (fun rows cols mk b1 h1 l1 rs=>⟨_,_,_,_,rfl,?_⟩) (fun hno h1 l1=>⟨_,_,_,_,rfl,?_⟩)
 ·refine Fi (rx.mono Cl l1) hn2 hl2 (fun hnum b2 h2 own=>⟨_,_,_,_,rfl,Br.nt (Br.nt ?_)⟩) (fun hno h2 l2=>⟨_,_,_,_,rfl,Br.nt (Yb (bad (fun x=>hno x.2) h2 (A0 l1 l2)))⟩)
  have l2:=own.le
  have lh2:=A0 l1 l2
  refine K9 (fun e=>hK (noV 4) (.inr (.inl ⟨⟨_,_,mk⟩,hnum,e,rfl⟩)) none 0 h2 lh2 RowV.nil) (fun e=>?_)
  have good:=fun x=>hK ⟨cols,fun i=>N3 (A10 (rvs la) (rvs lx) rows cols i),0⟩ (.inr (.inr ⟨rows,cols,mk,hnum,e,.inl ⟨x,rfl⟩⟩))
  have ill:=fun w=>hK (noV 8) (.inr (.inr ⟨rows,cols,mk,hnum,e,.inr ⟨w,rfl⟩⟩))
  have hb':=hb rows cols mk
  have:=mk.r1;have:=mk.r2;have:=mk.c1;have:=mk.c2
  obtain rfl:n2=rows:=by have:=mk.er;omega
  obtain ⟨rfl,rfl,_,_,_,_,rfl,_⟩:=id mk
  refine So (E:=rvs la) (b:=rvs lx) (m:=m) (RowsV.mono l2 rs) (own.vis T6) (by omega) (by omega) (by omega) (by omega) hm1 (A7q hs) hs2 hb' (fun hok b3 h3 l3 rq=>⟨_,_,_,_,rfl,Br.nt ?_⟩) (fun hno h3 l3=>⟨_,_,_,_,rfl,Yb (ill hno none 0 h3 (A0 lh2 l3) RowV.nil)⟩)
  refine A4h (m:=7^cols*m) rq (by omega) (fun i _=>Ve hs hs2 hm1 i) (by omega) ?_
  intro b4 h4 own4
  exact ⟨_,_,_,rfl,good hok _ _ h4 (A0 lh2 (A0 l3 own4.le)) (own4.vis Cl)⟩
 ·refine Fi (rx.mono Cl l1) hn2 hl2 (fun hnum b2 h2 own=>⟨_,_,_,_,rfl,Yb (bad (fun x=>hno x.1) h2 (A0 l1 own.le))⟩) (fun _ h2 l2=>⟨_,_,_,_,rfl,Yb (bad (fun x=>hno x.1) h2 (A0 l1 l2))⟩)
end
theorem C1d{X Y:Prop}(x:X):Br true X Y:=x
section
variable {h:Heap} {K:Value->Heap->Prop} {A B:Option Addr} {n n2 cap cap2 m:Nat} {r c r2 c2:Int} {la lb:Nat->List UInt8}
def TransO(r c:Int)(n:Nat)(ls:Nat->List UInt8)(o:MOut):Prop:=
 (∃ rows cols,MOk r c n ls rows cols/\o=⟨c,r,n,fun k=>ls (k%rows*cols+k/rows),0⟩)\/(¬ Mx r c n ls/\o=noM 1)
theorem TransO.eq{o p:MOut}(x:TransO r c n la o)(y:TransO r c n la p):o=p:=by
 rcases x with ⟨r1,c1,m1,rfl⟩|⟨h1,rfl⟩<;>rcases y with ⟨r2,c2,m2,rfl⟩|⟨g1,rfl⟩
 ·obtain rfl:r2=r1:=by have:=m1.er;have:=m2.er;omega
  obtain rfl:c2=c1:=by have:=m1.ec;have:=m2.ec;omega
  rfl
 ·exact absurd ⟨_,_,m1⟩ g1
 ·exact absurd ⟨_,_,m2⟩ h1
 ·rfl
theorem TransO.n_le{o:MOut}(x:TransO r c n la o):o.n<=n:=by
 rcases x with ⟨_,_,_,rfl⟩|⟨_,rfl⟩
 ·exact Nat.le_refl _
 ·exact Nat.zero_le _
theorem CombO.n_le{q:Rat}{o:MOut}(x:CombO r c n la r2 c2 n2 lb q o):o.n<=n:=by
 rcases x with ⟨_,rfl⟩|⟨_,_,_,rfl⟩|⟨_,_,_,_,rfl⟩
 ·exact Nat.zero_le _
 ·exact Nat.zero_le _
 ·exact Nat.le_refl _
theorem ScalO.n_le{s:List UInt8}{o:MOut}(x:ScalO s r c n la o):o.n<=n:=by
 rcases x with ⟨_,rfl⟩|⟨_,_,rfl⟩
 ·exact Nat.zero_le _
 ·exact Nat.le_refl _
end
theorem SolvO.n_le{r c:Int}{n n2:Nat}{la lx:Nat->List UInt8}{o:VOut}(x:SolvO r c n la n2 lx o):o.n<=64:=by
 rcases x with ⟨_,rfl⟩|⟨_,_,_,rfl⟩|⟨a,b,h1,_,_,⟨_,rfl⟩|⟨_,rfl⟩⟩
 ·exact Nat.zero_le _
 ·exact Nat.zero_le _
 ·exact h1.c2
 ·exact Nat.zero_le _
theorem Vp{q:Nat}(h:q<=6):7^q*80<=9411920:=Nat.le_trans (Nat.mul_le_mul_right 80 (Nat.pow_le_pow_right (show 7>0 by decide) h)) (by decide)
theorem A7d{q:Nat}(h:q<=6):3^q*bnd (q+1) 80<=467289:=by
 have h1:bnd (q+1) 80<=641:=by unfold bnd;omega
 exact Nat.le_trans (Nat.mul_le_mul (Nat.pow_le_pow_right (show 3>0 by decide) h) h1) (by decide)
section
variable {h:Heap} {K:Value->Heap->Prop} {A B:Option Addr} {n n2 cap cap2 m:Nat} {r c:Int} {la lx:Nat->List UInt8}
theorem law_matrixSolve(gl:Gl h)(s1:RowV SSr h A n la)(s2:RowV SSr h B n2 lx):FCall Tryz.prog Hj #[A4y r c A n cap,.slice B n2 cap2] h (C02 h):=by
 refine Sd _ _ _ _ _ _ _ _ ?_
 unfold Oc
 have aw:∀ h',h.le h'->FCall Tryz.prog Bm #[] h' (fun r hp=>∃ t,r= .bool t/\C02 h (.bool t) hp):=fun h' l=>A5f (gl.mono l) fun h'' l''=>⟨_,rfl,rfl,A0 l l''⟩
 have aw0:=aw h (B3 _)
 refine A1y s1 (fun sm1=>⟨_,rfl,Br.nt ?_⟩) (fun _=>⟨_,rfl,Yb aw0⟩)
 refine B7 (fun _=>aw0) (fun hsz=>?_)
 refine Qf s2 (by omega) (fun hsh=>⟨_,rfl,Br.nt ?_⟩) (fun _=>⟨_,rfl,Yb aw0⟩)
 have hn:n<=1000000:=by have:=sm1.hn;omega
 have hn2:n2<=1000000:=by omega
 have hl:∀ i,i<n->(la i).length<=100000000:=fun i hi=>by have:=sm1.hl i hi;omega
 have hl2:∀ i,i<n2->(lx i).length<=100000000:=fun i hi=>by have:=hsh i hi;omega
 have hs:∀ i,i<n->Sz 80 (rv (la i)):=fun i hi=>B1h (k:=20) (by have:=sm1.hl i hi;omega) (by omega)
 have hs2:∀ i,i<n2->Sz 80 (rv (lx i)):=fun i hi=>B1h (k:=20) (by have:=hsh i hi;omega) (by omega)
 have hrc:∀ rows cols,MOk r c n la rows cols->rows<=6/\cols<=6:=fun rows cols mk=>⟨by have:=mk.er;have:=sm1.hr;omega,by have:=mk.ec;have:=sm1.hc;omega⟩
 refine A1x (m:=80) gl s1 s2 hn hn2 hl hl2 hs hs2 (by omega) (fun rows cols mk=>by
  obtain ⟨q1,q2⟩:=hrc rows cols mk
  have:=A7d q1;have:=A7d q2;have:=Vp q1;have:=Vp q2
  exact ⟨by omega,by omega,by omega,by omega⟩) ?_
 intro o ho ny fy hw A1 c1 A2 c2 h1 l1 r1 ry
 refine ⟨_,_,_,_,_,_,_,rfl,?_⟩
 refine A22 (m:=80) (s1.mono Cl l1) (s2.mono Cl l1) hn hn2 hl hl2 hs hs2 (by omega) (fun rows cols mk=>by have:=Vp (hrc rows cols mk).2;omega) ?_
 intro p hp A3 c3 h2 l2 r2
 obtain rfl:=ho.eq hp
 refine ⟨_,_,_,_,rfl,?_⟩
 have l02:=A0 l1 l2
 refine K9 (fun e=>absurd rfl e) (fun _=>?_)
 refine Jx (r1.mono Cl l2) r2 (by have:=ho.n_le;omega) (fun _ _=>⟨_,rfl,Br.nt ?_⟩) (fun hno=>absurd ⟨rfl,fun _ _=>rfl⟩ hno)
 rcases hw with ⟨he,rfl⟩|⟨he,rows,cols,mk,hnum,hr,hno,rfl,rfl⟩
 ·refine K9 (fun _=>E4 (fun _=>aw h2 l02) (fun e=>absurd rfl e)) (fun e=>absurd e he)
 refine K9 (fun e=>absurd he e) (fun _=>?_)
 obtain ⟨q1,q2⟩:=hrc ny cols mk
 obtain ⟨w1,w2⟩:=B57 hno
 have p7:=Vp q1
 have:=mk.r1;have:=mk.r2;have:=mk.c1;have:=mk.c2
 obtain rfl:n2=ny:=by have:=mk.er;omega
 obtain ⟨rfl,rfl,_,_,_,_,rfl,_⟩:=id mk
 have hY:=Ve (A1n (cols:=cols) (by omega) hs hs2) (A1o (cols:=cols) (m:=80) (by omega)) (by omega)
 have p1:1<=7^n2*80:=Oy n2 80 (by omega)
 generalize A10 (Yc (rvs la) (rvs lx) n2 cols) (A4r cols) (cols+1) n2=Y at *
 generalize hBB:7^n2*80=bb at *
 refine Fi (ry.mono Cl l2) hn2 (fun i _=>by have:=A35 (hY i);omega) (fun _ b3 h3 own3=>⟨_,_,_,_,rfl,?_⟩) (fun hx=>absurd (fun i _=>⟨_,rfl⟩) hx)
 have l3:=own3.le
 have l03:=A0 l02 l3
 refine Fi (s2.mono Cl l03) hn2 hl2 (fun _ b4 h4 own4=>⟨_,_,_,_,rfl,?_⟩) (fun hx=>absurd hnum hx)
 have l4:=own4.le
 have l04:=A0 l03 l4
 refine Tv (s1.mono Cl l04) hn hl (fun rows' cols' mk' b5 h5 l5 rs=>⟨_,_,_,_,rfl,Br.nt (Br.nt (Br.nt ?_))⟩) (fun hx=>absurd ⟨_,_,mk⟩ hx)
 obtain rfl:rows'=n2:=by have:=mk'.er;omega
 obtain rfl:cols'=cols:=by have:=mk'.ec;omega
 have l05:=A0 l04 l5
 refine K9 (fun e=>absurd rfl e) (fun _=>?_)
 have rY:RowV NQr h5 (some ⟨b3,0,none⟩) rows' Y:=((own3.vis T6).mono T6 (A0 l4 l5)).congr fun i _=>Tn _
 have hkm:rows'*(2*bb+1)<=6*(2*bb+1):=Nat.mul_le_mul_right _ q1
 have hb80:80<=bb:=by
  rw [<- hBB]
  exact Nat.le_mul_of_pos_left _ (Nat.pow_pos (by decide))
 refine Zs (m:=bb) rY ((own4.vis T6).mono T6 l5) (by omega) (fun i _=>hY i) (fun i hi=>(hs2 i hi).mono hb80) (by omega) ?_
 intro v h6 l6 iv
 have w2':sm rows' (fun j=>Y j*rv (lx j))=1:=w2
 rw [w2'] at iv
 refine ⟨_,_,_,_,_,_,_,_,rfl,?_⟩
 refine Pp (m:=80) iv ⟨ZB.one (by omega),ZB.one (by omega)⟩ (by omega) ⟨_,rfl,?_⟩
 have eb:(ByteArray.toList (bs (N3 1))==ByteArray.toList ({ data:=#[49] }:ByteArray))=true:=by
  rw [B6q]
  exact (Ks _ _).trans (by decide)
 rw [eb]
 refine Br.nt ?_
 have l06:=A0 l05 l6
 refine A54 (RowsV.mono l6 rs) (by omega) (by omega) (by omega) ?_
 intro bo h7 l7 rt
 refine ⟨_,_,_,rfl,?_⟩
 have l07:=A0 l06 l7
 have ms:=A7q hs
 refine A85 (m:=bb) rt (rY.mono T6 (A0 l6 l7)) (by omega) (by omega) (fun i j hi hj=>(ms j i hj hi).mono hb80) (fun i _=>hY i) (by omega) ?_
 intro b8 h8 own8
 refine ⟨_,_,_,rfl,?_⟩
 have l08:=A0 l07 own8.le
 have r8:RowV NQr h8 (some ⟨b8,0,none⟩) cols' (fun _=>0):=(own8.vis T6).congr fun i hi=>w1 i hi
 refine ⟨fun L hp=>∃ k:Nat,k<=cols'/\L=[I (k:Int)]/\hp=h8,fun L _=>cols'-(iAt L 0).toNat,⟨0,by omega,rfl,rfl⟩,?_⟩
 rintro z hp ⟨k,hk,eL,rfl⟩
 obtain rfl:z=(k:Int):=by simpa using eL
 refine B7 (fun hlt=>?_) (fun hge=>aw _ l08)
 obtain ⟨a5,w5,e5,n5,c0,c1,c2',c3⟩:=r8.qat (i:=k) (by omega)
 refine ⟨a5,e5,by omega,by omega,_,_,_,_,_,_,_,_,c0,c1,c2',c3,?_⟩
 refine Ci n5 ⟨_,rfl,K9 (fun e=>absurd rfl e) (fun _=>?_)⟩
 rw [show B4 ((k:Int)+1)=((k+1:Nat):Int) by rw [B5]<;>omega]
 exact ⟨⟨k+1,by omega,rfl,rfl⟩,by simp only [Gu];omega⟩
end
end Go.Proofs.YthilnfgnpdeofaaGreatDoor
namespace Go.Proofs.YthilnfgnpdeofaaGreatDoor
set_option maxRecDepth 20000
open Go Go.RowKit
theorem B7y(s:ByteArray):bs s.data.toList=s:=by
 cases s;simp [bs]
theorem open_strV{H:Type}{enc:TypeId × Value->H}{P:Program}{W:World}{base:Nat}{sp:Nat->Bool}{held:Bool}{t e:TypeId}{fuel:Nat}{A:Option Addr}{len cap:Nat}{x:DataW H × List MemPlace}(ht:P.underlying t=some (.slice e))(he:P.underlying e=some .string)(hc:P.cellsOf e=1)
 (hf:DataW.trod enc P W base sp held fuel t [.slice A len cap]=some x):∃ ls:Nat->List UInt8,RowV SSr (memOf W) A len ls/\len<=maxLen:=by
 rcases Deep.open_strs ht he hc hf with ⟨hcs,_⟩|⟨a,l,c,m,Sx,hcs,_,hl,hm,hmm,_,hcell⟩
 ·simp at hcs
  obtain ⟨rfl,rfl,rfl⟩:=hcs
  exact ⟨fun _=>[],RowV.nil,Nat.zero_le _⟩
 ·simp at hcs
  obtain ⟨rfl,rfl,rfl⟩:=hcs
  have hlm:len<=m:=by rw [hmm];split<;>omega
  have sl:SlV (memOf W) (some a) (((List.range len).map fun i=>(Sx i).data.toList).map fun l=>Value.string (bs l)):=by
   refine .inr ⟨a,rfl,fun i v hv=>?_⟩
   rw [List.getElem?_map,List.getElem?_map] at hv
   by_cases hi:i<len
   ·rw [List.getElem?_range hi] at hv
    simp only [Option.map_some,Option.some.injEq,B7y] at hv
    rw [<- hv]
    exact Lz (hcell i (by omega)).1
   ·rw [List.getElem?_eq_none (by simpa using hi)] at hv;cases hv
  have:=Jn sl
  rw [List.length_map,List.length_range] at this
  exact ⟨_,this,by omega⟩
theorem open_mat{H:Type}{enc:TypeId × Value->H}{P:Program}{W:World}{base:Nat}{sp:Nat->Bool}{held:Bool}{r:Reach}{b0:Nat}{t e:TypeId}{f0 f1 f2:Field}{v:Value}{d:DataW H}{ps:List MemPlace}(ht:P.underlying t=some (.struct #[f0,f1,f2]))(u0:P.underlying f0.type=some (.int .i64))(u1:P.underlying f1.type=some (.int .i64))(u2:P.underlying f2.type=some (.slice e))(ue:P.underlying e=some .string)
 (hoff:f0.offset=0/\f1.offset=1/\f2.offset=2/\P.cellsOf f0.type=1/\P.cellsOf f1.type=1/\P.cellsOf f2.type=1/\P.cellsOf t=3/\P.cellsOf e=1)
 (hval:Value.okWide P W r b0 t v) (hd:DataW.Trod enc P W base sp held t v d ps):∃ (x y:Int) (A:Option Addr) (len cap:Nat) (ls:Nat->List UInt8),v= .agg #[.int .i64 x,.int .i64 y,.slice A len cap]/\RowV SSr (memOf W) A len ls/\len<=maxLen:=by
 obtain ⟨o0,o1,o2,c0,c1,c2,ct,ce⟩:=hoff
 obtain ⟨cs,rfl,hcs⟩:=WideShapes.okWide_struct ht hval
 obtain ⟨fuel,hf⟩:=hd
 obtain ⟨y0,y1,y2,n,hx,hl,g0,g1,g2⟩:=Deep.trod_struct3 ht hf
 rw [o0,c0] at g0
 rw [o1,c1] at g1
 rw [o2,c2] at g2
 obtain ⟨s0,e0,_,_⟩:=DataW.trod_int u0 g0
 obtain ⟨s1,e1,_,_⟩:=DataW.trod_int u1 g1
 rw [ct] at hcs
 have hlen:cs.toList.length=3:=by simpa using hcs
 obtain ⟨p,q,z,hm⟩:∃ p q z,cs.toList=[p,q,z]:=by
  match h:cs.toList,hlen with
  | [p,q,z],_=>exact ⟨p,q,z,rfl⟩
 simp only [Value.cells] at e0 e1 g2
 rw [hm] at e0 e1 g2
 simp at e0 e1 g2
 have hA:∃ A len cap,z= .slice A len cap:=by
  rcases Deep.open_strs u2 ue ce g2 with ⟨hcs,_⟩|⟨a,l,c,m,Sx,hcs,_⟩
  ·simp at hcs;exact ⟨_,_,_,hcs⟩
  ·simp at hcs;exact ⟨_,_,_,hcs⟩
 obtain ⟨A,len,cap,rfl⟩:=hA
 obtain ⟨ls,hr,hml⟩:=open_strV u2 ue ce g2
 have:cs=#[.int .i64 s0,.int .i64 s1,.slice A len cap]:=by rw [<- Array.toArray_toList (xs:=cs),hm,e0,e1]
 exact ⟨s0,s1,A,len,cap,ls,by rw [this],hr,hml⟩
end Go.Proofs.YthilnfgnpdeofaaGreatDoor
