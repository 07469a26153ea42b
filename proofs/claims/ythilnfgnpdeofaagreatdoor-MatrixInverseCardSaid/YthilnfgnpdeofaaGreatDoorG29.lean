/-
  Texts of this proof, merged by a program of ours.
-/
import Derived.Test.YthilnfgnpdeofaaGreatDoorG27
import Derived.Test.YthilnfgnpdeofaaGreatDoorG28
import Derived.Test.YthilnfgnpdeofaaGreatDoorG21
namespace Go.Proofs.YthilnfgnpdeofaaGreatDoor
set_option maxRecDepth 20000
open Go
theorem Fd(z:Int)(l:List Value):iAt (I z::l) 0=z:=rfl
theorem A5c:Tryz.prog.cellsOf F7=4/\(Tryz.prog.info? F7).isSome=true:=Zq
theorem A7k:Tryz.prog.cellsOf I3=4/\(Tryz.prog.info? I3).isSome=true:=Kb
section
variable {α β:Type} [E:Enc α] {R:Heap->α->β->Prop}
def OwnK(R:Heap->α->β->Prop)(h h':Heap)(b n k:Nat)(f:Nat->β):Prop:=∃ g o xs,h.le g/\Sep h' g o/\RowX o b xs/\xs.length=n/\Row R g xs k f
theorem OwnK.own{h h':Heap}{b n:Nat}{f:Nat->β}(w:OwnK R h h' b n n f):Own R h h' b n f:=⟨w⟩
theorem OwnK.le{h h':Heap}{b n k:Nat}{f:Nat->β}(w:OwnK R h h' b n k f):h.le h':=by
 obtain ⟨g,o,xs,l,s,_⟩:=w
 exact A0 l s.le
theorem OwnK.zero{h:Heap}{b n:Nat}{f:Nat->β}{e:TypeId}{z:α}(hb:h b=none):OwnK R h (B4k e h b (List.replicate n z)) b n 0 f:=
 ⟨h,Ch.put b (.cells ((List.replicate n z).flatMap enc).toArray e),List.replicate n z,B3 _,Ib hb,RowX.mk,by simp,Row.nil⟩
theorem OwnK.store(m:Mon R){P:Program}{t:TypeId}(one:P.cellsOf t=E.default.size/\(P.info? t).isSome=true){h h' g g' o:Heap}{b n k:Nat}{f:Nat->β}{xs:List α}(lg:h.le g)(lg':g.le g')(s:Sep h' g' o)(rb:RowX o b xs)(hn:xs.length=n)(r:Row R g xs k f)(hk:k<n){v:Value}{y:α}(hv:v.cells=(enc y).toArray)(hy:R g' y (f k)){K:Unit->Heap->Prop}
 (x:∀ h2,OwnK R h h2 b n (k+1) f->K () h2):wpH P (Instr.storeAt t (.pointer (some (Addr.add ⟨b,0,none⟩ (k*E.default.size)))) v) K h':=by
 refine Dv one hv s rb (by omega) ?_
 intro h2 o' x' e s2 r2
 exact x h2 ⟨g',o',_,A0 lg lg',s2,r2,by simpa using hn,(r.mono m lg').set (by omega) hy⟩
end
def Aj:QV:=⟨false,none,0,0,false,none,0,0⟩
section
variable {h:Heap} {K:Value->Heap->Prop} {A:Option Addr} {n c m:Nat} {ls:Nat->List UInt8} {f:Nat->Rat} {a w:QV} {q:Rat}
theorem A02(gl:Gl h)(r:RowV SSr h A n ls)(hn:n<=1000000)(hl:∀ i,i<n->(ls i).length<=100000000)
 (hK1:(∀ i,i<n->IsNum (ls i))->∀ b h',Own RQr h h' b n (fun i=>rv (ls i))->K (.tuple #[.slice (some ⟨b,0,none⟩) n n,.bool true]) h')
 (hK0:¬ (∀ i,i<n->IsNum (ls i))->∀ h',h.le h'->K (.tuple #[.slice none 0 0,.bool false]) h'):FCall Tryz.prog Np #[.slice A n c] h K:=by
 refine A3g _ _ _ ?_
 unfold A4v
 refine N9 A7l (zx:=Aj) rfl (by omega) (by omega) (by omega) (by omega) ?_
 intro b hb
 refine ⟨_,_,_,rfl,fun L hp=>∃ k:Nat,k<=n/\L=[I k]/\(∀ i,i<k->IsNum (ls i))/\OwnK RQr h hp b n k (fun i=>rv (ls i)),fun L _=>n-(iAt L 0).toNat,⟨0,by omega,rfl,fun i hi=>by omega,OwnK.zero hb⟩,?_⟩
 rintro t hp ⟨k,hk,eL,hnum,g,o,xs,lg,s,rb,hx,rr⟩
 obtain rfl:t=(k:Int):=by simpa using eL
 refine B7 (fun hlt=>?_) (fun hge=>?_)
 ·have hkn:k<n:=by omega
  obtain ⟨a,rfl,hc⟩:=(r.mono Bq (A0 lg s.le)).sat hkn
  refine ⟨a,rfl,by omega,by omega,_,hc,?_⟩
  refine s.call (A5l (gl.mono lg).tz (hl k hkn) ?_ ?_)
  ·intro q e w g' l' iw h2 s2
   refine ⟨_,_,_,_,_,_,_,_,_,rfl,_,rfl,by omega,by simpa using hlt,?_⟩
   refine OwnK.store S5 A7k (y:=w) lg l' s2 rb hx rr hkn rfl (by show RQ g' w (rv (ls k));rw [e,Zx];exact iw) ?_
   intro h3 ow
   rw [show B4 ((k:Int)+1)=((k+1:Nat):Int) by rw [B6]<;>omega]
   refine ⟨⟨k+1,by omega,rfl,fun i hi=>?_,ow⟩,?_⟩
   ·by_cases e':i=k
    ·subst e';exact ⟨q,e⟩
    ·exact hnum i (by omega)
   ·simp only [Fd];omega
  ·intro hno w g' l' _ h2 s2
   exact ⟨_,_,_,_,_,_,_,_,_,rfl,hK0 (fun hall=>hno (hall k hkn)) h2 (A0 lg (A0 l' s2.le))⟩
 ·have:k=n:=by omega
  subst this
  exact hK1 hnum b hp ⟨g,o,xs,lg,s,rb,hx,rr⟩
theorem Zt(gl:Gl h)(r:RowV RQr h A n f)(hn:n<=1000000)(hs:∀ i,i<n->Sz m (f i))(hm:m<=40000000)
 (hK:∀ b h',Own SSr h h' b n (fun i=>N5 (f i))->K (.slice (some ⟨b,0,none⟩) n n) h'):FCall Tryz.prog No #[.slice A n c] h K:=by
 refine A3f _ _ _ ?_
 unfold A4u
 refine N9 Hk (zx:=([]:List UInt8)) rfl (by omega) (by omega) (by omega) (by omega) ?_
 intro b hb
 refine ⟨_,_,_,rfl,fun L hp=>∃ k:Nat,k<=n/\L=[I k]/\OwnK SSr h hp b n k (fun i=>N5 (f i)),fun L _=>n-(iAt L 0).toNat,⟨0,by omega,rfl,OwnK.zero hb⟩,?_⟩
 rintro t hp ⟨k,hk,eL,g,o,xs,lg,s,rb,hx,rr⟩
 obtain rfl:t=(k:Int):=by simpa using eL
 refine B7 (fun hlt=>?_) (fun hge=>?_)
 ·have hkn:k<n:=by omega
  obtain ⟨a,w,rfl,iw,d0,d1,d2,d3⟩:=(r.mono S5 lg).qat hkn
  refine ⟨_,rfl,by omega,by omega,_,_,_,_,_,_,_,_,C6 s.le d0,C6 s.le d1,C6 s.le d2,C6 s.le d3,?_⟩
  refine s.call (On (gl.mono lg).p10 iw (hs k hkn) hm ?_)
  intro h2 s2
  refine ⟨_,rfl,_,rfl,by omega,by simpa using hlt,?_⟩
  refine OwnK.store Bq Om (y:=N5 (f k)) lg (B3 _) s2 rb hx rr hkn rfl rfl ?_
  intro h3 ow
  rw [show B4 ((k:Int)+1)=((k+1:Nat):Int) by rw [B6]<;>omega]
  exact ⟨⟨k+1,by omega,rfl,ow⟩,by simp only [Fd];omega⟩
 ·have:k=n:=by omega
  subst this
  exact hK b hp ⟨g,o,xs,lg,s,rb,hx,rr⟩
theorem A89(r:RowV SSr h A n ls)(hn:n<=1000000)(hl:∀ i,i<n->(ls i).length<=100000000)
 (hK1:(∀ i,i<n->IsNum (ls i))->∀ b h',Own NQr h h' b n (fun i=>rv (ls i))->K (.tuple #[.slice (some ⟨b,0,none⟩) n n,.bool true]) h')
 (hK0:¬ (∀ i,i<n->IsNum (ls i))->∀ h',h.le h'->K (.tuple #[.slice none 0 0,.bool false]) h'):FCall Tryz.prog A2z #[.slice A n c] h K:=by
 refine B3e _ _ _ ?_
 unfold B8x
 refine N9 Zr (zx:=Aj) rfl (by omega) (by omega) (by omega) (by omega) ?_
 intro b hb
 refine ⟨_,_,_,rfl,fun L hp=>∃ k:Nat,k<=n/\L=[I k]/\(∀ i,i<k->IsNum (ls i))/\OwnK NQr h hp b n k (fun i=>rv (ls i)),fun L _=>n-(iAt L 0).toNat,⟨0,by omega,rfl,fun i hi=>by omega,OwnK.zero hb⟩,?_⟩
 rintro t hp ⟨k,hk,eL,hnum,g,o,xs,lg,s,rb,hx,rr⟩
 obtain rfl:t=(k:Int):=by simpa using eL
 refine B7 (fun hlt=>?_) (fun hge=>?_)
 ·have hkn:k<n:=by omega
  obtain ⟨a,rfl,hc⟩:=(r.mono Bq (A0 lg s.le)).sat hkn
  refine ⟨a,rfl,by omega,by omega,_,hc,?_⟩
  refine s.call (A7u (hl k hkn) ?_ ?_)
  ·intro q e w g' l' iw h2 s2
   refine ⟨_,_,_,_,_,_,_,_,_,rfl,_,rfl,by omega,by simpa using hlt,?_⟩
   refine OwnK.store Iv A5c (y:=w) lg l' s2 rb hx rr hkn rfl (by show NQ g' w (rv (ls k));rw [e,Zx];exact iw) ?_
   intro h3 ow
   rw [show B4 ((k:Int)+1)=((k+1:Nat):Int) by rw [B6]<;>omega]
   refine ⟨⟨k+1,by omega,rfl,fun i hi=>?_,ow⟩,?_⟩
   ·by_cases e':i=k
    ·subst e';exact ⟨q,e⟩
    ·exact hnum i (by omega)
   ·simp only [Fd];omega
  ·intro hno w g' l' h2 s2
   exact ⟨_,_,_,_,_,_,_,_,_,rfl,hK0 (fun hall=>hno (hall k hkn)) h2 (A0 lg (A0 l' s2.le))⟩
 ·have:k=n:=by omega
  subst this
  exact hK1 hnum b hp ⟨g,o,xs,lg,s,rb,hx,rr⟩
theorem A59(r:RowV NQr h A n f)(hn:n<=1000000)(hs:∀ i,i<n->Sz m (f i))(hm:m<=1000000000)
 (hK:∀ b h',Own SSr h h' b n (fun i=>N5 (f i))->K (.slice (some ⟨b,0,none⟩) n n) h'):FCall Tryz.prog Xl #[.slice A n c] h K:=by
 refine B09 _ _ _ ?_
 unfold B4y
 refine N9 Hk (zx:=([]:List UInt8)) rfl (by omega) (by omega) (by omega) (by omega) ?_
 intro b hb
 refine ⟨_,_,_,rfl,fun L hp=>∃ k:Nat,k<=n/\L=[I k]/\OwnK SSr h hp b n k (fun i=>N5 (f i)),fun L _=>n-(iAt L 0).toNat,⟨0,by omega,rfl,OwnK.zero hb⟩,?_⟩
 rintro t hp ⟨k,hk,eL,g,o,xs,lg,s,rb,hx,rr⟩
 obtain rfl:t=(k:Int):=by simpa using eL
 refine B7 (fun hlt=>?_) (fun hge=>?_)
 ·have hkn:k<n:=by omega
  obtain ⟨a,w,rfl,iw,d0,d1,d2,d3⟩:=(r.mono Iv lg).qat hkn
  refine ⟨_,rfl,by omega,by omega,_,_,_,_,_,_,_,_,C6 s.le d0,C6 s.le d1,C6 s.le d2,C6 s.le d3,?_⟩
  refine s.call (Qq iw (hs k hkn) hm ?_)
  intro h2 s2
  refine ⟨_,rfl,_,rfl,by omega,by simpa using hlt,?_⟩
  refine OwnK.store Bq Om (y:=N5 (f k)) lg (B3 _) s2 rb hx rr hkn rfl rfl ?_
  intro h3 ow
  rw [show B4 ((k:Int)+1)=((k+1:Nat):Int) by rw [B6]<;>omega]
  exact ⟨⟨k+1,by omega,rfl,ow⟩,by simp only [Fd];omega⟩
 ·have:k=n:=by omega
  subst this
  exact hK b hp ⟨g,o,xs,lg,s,rb,hx,rr⟩
def Jq(f:Nat->Rat):Nat->Nat
 | 0=>1
 | n+1=>Nat.lcm (Jq f n) (f n).den
theorem B25(f:Nat->Rat):∀ n,0<Jq f n:=by
 intro n
 induction n with
 | zero=>exact Nat.one_pos
 | succ n ih=>exact Nat.lcm_pos ih (f n).den_pos
theorem B26(f:Nat->Rat):∀ n i,i<n->(f i).den∣Jq f n:=by
 intro n
 induction n with
 | zero=>intro i h;omega
 | succ n ih=>
  intro i hi
  by_cases e:i=n
  ·subst e;exact Nat.dvd_lcm_right _ _
  ·exact Nat.dvd_trans (ih i (by omega)) (Nat.dvd_lcm_left _ _)
theorem ZB.lcm{k j:Nat}{x y:Nat}(hx:ZB k (x:Int))(hy:ZB j (y:Int)):ZB (k+j) ((Nat.lcm x y:Nat):Int):=by
 have:=hx.mul hy
 unfold ZB at *
 rw [Int.natAbs_natCast]
 rw [Int.natAbs_mul,Int.natAbs_natCast,Int.natAbs_natCast] at this
 refine Nat.lt_of_le_of_lt ?_ this
 unfold Nat.lcm
 exact Nat.div_le_self _ _
theorem Wy{f:Nat->Rat}{m:Nat}: ∀ n,(∀ i,i<n->Sz m (f i))->ZB (1+n*m) (Jq f n:Int):=by
 intro n
 induction n with
 | zero=>intro _;exact ZB.one (by omega)
 | succ n ih=>
  intro h
  have:=(ih fun i hi=>h i (by omega)).lcm (h n (by omega)).den
  exact this.mono (by rw [Nat.add_mul,Nat.one_mul];omega)
theorem Ty(gl:Gl h)(r:RowV RQr h A n f)(hn:n<=1000000)(hs:∀ i,i<n->Sz m (f i))(hm:1+n*m+m<=6400000000)
 (hK:∀ s A' n' c' h',h.le h'->ZI h' s A' n' c' (Jq f n:Int)->K (.agg #[.bool s,.slice A' n' c']) h'):FCall Tryz.prog Q8 #[.slice A n c] h K:=by
 refine Hc _ _ _ ?_
 unfold Cq
 refine Da (by omega) (by omega) ?_
 intro s1 A1 n1 c1 h1 l1 i1
 refine ⟨_,_,_,_,rfl,fun L hp=>∃ (k:Nat) (s:Bool) (B:Option Addr) (bn bc:Nat),k<=n/\L=[I k,.bool s,.slice B bn bc]/\h.le hp/\ZI hp s B bn bc (Jq f k:Int),fun L _=>n-(iAt L 0).toNat,⟨0,_,_,_,_,by omega,rfl,l1,i1⟩,?_⟩
 rintro t s B bn bc hp ⟨k,s',B',bn',bc',hk,eL,l,i⟩
 simp only [List.cons.injEq,Value.int.injEq,Value.bool.injEq,Value.slice.injEq,true_and,and_true] at eL
 obtain ⟨rfl,rfl,rfl,rfl,rfl⟩:=eL
 have ew:B4 ((k:Int)+1)=((k+1:Nat):Int):=by rw [B6]<;>omega
 refine B7 (fun hlt=>?_) (fun hge=>?_)
 ·have hkn:k<n:=by omega
  obtain ⟨a,w,rfl,iw,d0,d1,d2,d3⟩:=(r.mono S5 l).qat hkn
  have hmk:1+k*m<=6400000000:=by
   have:k*m<=n*m:=Nat.mul_le_mul_right _ (by omega)
   omega
  have hmk2:1+k*m+m<=6400000000:=by
   have:k*m<=n*m:=Nat.mul_le_mul_right _ (by omega)
   omega
  have bz:=(Wy k fun i hi=>hs i (by omega)).mono (show 1+k*m<=1+k*m+m by omega)
  have bd:=(hs k hkn).den.mono (show m<=1+k*m+m by omega)
  refine ⟨_,rfl,by omega,by omega,_,_,_,_,_,_,_,_,d0,d1,d2,d3,?_⟩
  refine G9 iw.den ⟨_,rfl,?_⟩
  have hd0:((if (f k).den=1 then 0 else ((f k).den:Int))=0)↔(f k).den=1:=by
   have:=(f k).den_pos
   split<;>omega
  have same:Jq f (k+1)=Jq f k->(∃ (k':Nat) (s':Bool) (B':Option Addr) (bn' bc':Nat),k'<=n/\[I (B4 ((k:Int)+1)),.bool s,.slice B bn bc]=[I k',.bool s',.slice B' bn' bc']/\h.le hp/\ZI hp s' B' bn' bc' (Jq f k':Int))/\n-(iAt [I (B4 ((k:Int)+1)),.bool s,.slice B bn bc] 0).toNat<n-(iAt [I (k:Int),.bool s,.slice B bn bc] 0).toNat:=by
   intro e
   rw [ew]
   exact ⟨⟨k+1,_,_,_,_,by omega,rfl,l,by rw [e];exact i⟩,by simp only [Fd];omega⟩
  refine Dx (B7 (fun h1=>?_) (fun h1=>?_))
  ·have e1:=hd0.1 h1
   exact same (by rw [Jq,e1];exact Nat.lcm_one_right _)
  ·have e1:(if (f k).den=1 then 0 else ((f k).den:Int))=((f k).den:Int):=if_neg fun e=>h1 (hd0.2 e)
   have iden:=iw.den
   rw [e1] at iden
   refine A1y iden i bd hmk2 ⟨_,rfl,?_⟩
   refine Dx (B7 (fun h2=>?_) (fun h2=>?_))
   ·have e2:(f k).den=Jq f k:=by exact_mod_cast h2
    exact same (by rw [Jq,e2];exact Nat.lcm_self _)
   ·refine A70 (gl.mono l).tz i iden bz bd hmk2 ?_
    intro A' n' c' h' l' i'
    refine ⟨_,_,_,_,rfl,?_⟩
    rw [ew]
    refine ⟨⟨k+1,_,_,_,_,by omega,rfl,A0 l l',?_⟩,by simp only [Fd];omega⟩
    have:Int.lcm (Jq f k:Int) ((f k).den:Int)=Jq f (k+1):=by simp [Int.lcm,Jq]
    rw [this] at i';exact i'
 ·have:k=n:=by omega
  subst this
  exact hK _ _ _ _ hp l i
def scl(q:Rat)(d:Int):Int:=q.num*d.tdiv q.den
theorem B60(q:Rat):q*(q.den:Rat)=(q.num:Rat):=by
 have h:=Rat.num_divInt_den q
 rw [Rat.divInt_eq_div] at h
 have hd:((q.den:Int):Rat)≠0:=P7 (den_ne q)
 have e:((q.den:Int):Rat)=(q.den:Rat):=rfl
 rw [<- e]
 calc q*((q.den:Int):Rat)=(q.num:Rat)/((q.den:Int):Rat)*((q.den:Int):Rat):=by rw [h]
  _=q.num:=Rat.div_mul_cancel hd
theorem B7n{q:Rat}{d:Int}(h:(q.den:Int)∣d):(scl q d:Rat)=q*d:=by
 obtain ⟨e,rfl⟩:=h
 unfold scl
 rw [Int.mul_tdiv_cancel_left _ (den_ne q),Rat.intCast_mul,Rat.intCast_mul]
 have h1:q*(q.den:Rat)=(q.num:Rat):=B60 q
 have h2:(((q.den:Nat):Int):Rat)=(q.den:Rat):=rfl
 rw [h2,<- h1,Rat.mul_assoc]
theorem B7m{q:Rat}{d:Int}{k:Nat}(hq:Sz m q)(hd:ZB k d):ZB (m+k) (scl q d):=hq.num.mul hd.tdiv
theorem A2a{s:Bool}{B:Option Addr}{bn bc:Nat}{d:Int}(i:RQ h w q)(j:ZI h s B bn bc d)(hq:Sz m q)(hd:ZB m d)(hm:m<=6400000000)
 (hK:∀ s A' n' c' h',h.le h'->ZI h' s A' n' c' (scl q d)->K (.agg #[.bool s,.slice A' n' c']) h'):FCall Tryz.prog Ru #[w.v,.agg #[.bool s,.slice B bn bc]] h K:=by
 refine A6i _ _ _ _ _ _ _ _ _ _ _ _ ?_
 unfold B06
 refine G9 i.den ⟨_,rfl,?_⟩
 have hd0:((if q.den=1 then 0 else (q.den:Int))=0)↔q.den=1:=by
  have:=q.den_pos
  split<;>omega
 refine B7 (fun h1=>?_) (fun h1=>?_)
 ·have e1:=hd0.1 h1
  refine Fp i.num j hq.num hd hm ?_
  intro s1 A' n' c' h' l' i'
  refine ⟨_,_,_,_,rfl,hK _ _ _ _ _ l' ?_⟩
  have:scl q d=q.num*d:=by unfold scl;rw [e1];simp
  rw [this];exact i'
 ·have e1:(if q.den=1 then 0 else (q.den:Int))=(q.den:Int):=if_neg fun e=>h1 (hd0.2 e)
  have iden:=i.den
  rw [e1] at iden
  refine Bi j iden hd hq.den hm (den_ne q) ?_
  intro s1 A1 n1 c1 h1' l1 i1
  refine ⟨_,_,_,_,rfl,l1,?_⟩
  refine Fp (i.num.mono l1) i1 hq.num hd.tdiv hm ?_
  intro s2 A2 n2 c2 h2 l2 i2
  exact ⟨_,_,_,_,rfl,l2,hK _ _ _ _ _ (A0 l1 l2) i2⟩
end
instance:Enc Int:=⟨⟨fun z=>[I z],1,fun _=>rfl,fun z v hv=>by rw [List.mem_singleton.1 hv];rfl⟩⟩
abbrev IIr:Heap->Int->Int->Prop:=fun _ w z=>w=z
theorem B7u:Mon IIr:=fun _ _ _ _ _ i=>i
section
variable {α:Type} [E:Enc α]
def OwnSl(o:Heap)(e:TypeId)(A:Option Addr)(c:Nat)(xs:List α):Prop:=
 xs.length<=c/\((c=0/\A=none)\/∃ b arr,A=some ⟨b,0,none⟩/\o b=some (.cells (List.toArray arr) e)/\arr.length=c*E.default.size/\arr.take (xs.length*E.default.size)=xs.flatMap enc)
theorem OwnSl.nil{o:Heap}{e:TypeId}:OwnSl o e none 0 ([]:List α):=⟨Nat.le_refl _,.inl ⟨rfl,rfl⟩⟩
theorem OwnSl.keep{o o':Heap}{e:TypeId}{A:Option Addr}{c:Nat}{xs:List α}(w:OwnSl o e A c xs)(h:∀ b x,A=some ⟨b,0,none⟩->o b=some x->o' b=some x):OwnSl o' e A c xs:=by
 refine ⟨w.1,?_⟩
 rcases w.2 with h0|⟨b,arr,hA,hb,h1,h2⟩
 ·exact .inl h0
 ·exact .inr ⟨b,arr,hA,h b _ hA hb,h1,h2⟩
theorem OwnSl.rowB{o:Heap}{e:TypeId}{A:Option Addr}{c:Nat}{xs:List α}(w:OwnSl o e A c xs)(hne:xs≠[]):∃ b,A=some ⟨b,0,none⟩/\RowB o b xs:=by
 rcases w.2 with h0|⟨b,arr,hA,hb,h1,h2⟩
 ·exfalso
  have:=w.1
  have:=h0.1
  have:xs.length≠0:=fun h=>hne (List.eq_nil_of_length_eq_zero h)
  omega
 ·exact ⟨b,hA,e,arr.drop (xs.length*E.default.size),by rw [hb,<- h2,List.take_append_drop]⟩
theorem OwnSl.slF{o h:Heap}{e:TypeId}{A:Option Addr}{c:Nat}{xs:List α}(w:OwnSl o e A c xs)(hl:o.le h):SlF h A xs:=by
 by_cases hne:xs=[]
 ·rw [hne];exact SlF.nil
 ·obtain ⟨b,rfl,r⟩:=w.rowB hne
  exact r.slF hl
theorem OwnSl.priv{h g o:Heap}{e:TypeId}{A:Option Addr}{c:Nat}{xs:List α}(s:Sep h g o)(w:OwnSl o e A c xs):∃ gb,PrivF h gb e A c xs/\∀ k x,h k=some x->A≠some ⟨k,0,none⟩->gb k=some x:=by
 rcases w.2 with ⟨h0,h00⟩|⟨b,arr,hA,hb,h1,h2⟩
 ·subst h0
  have hx:xs=[]:=List.eq_nil_of_length_eq_zero (by have:=w.1;omega)
  subst hx
  exact ⟨h,PrivF.nil h e A,fun k x e _=>e⟩
 ·refine ⟨h.without b,⟨J8 xs,w.1,.inr ⟨b,arr,hA,V7 _ _,(N6 (s.own b _ hb)).symm,h1,h2⟩⟩,fun k x e hne=>?_⟩
  unfold Heap.without
  rw [if_neg]
  ·exact e
  ·rintro rfl;exact hne hA
theorem OwnSl.push{P:Program}{t e ty:TypeId}{z:Value}{bytes:Nat}(st:SliceT P t e z E.default.size bytes){h g o:Heap}{A:Option Addr}{c:Nat}{xs:List α}(s:Sep h g o)(w:OwnSl o e A c xs){v:Value}{y:α}(hv:v.cells=(enc y).toArray)(hsz:E.default.size<=1000)
 (hb:(2*(xs.length+1)+192)*bytes<=281474976710656) (hn:xs.length+1<=9223372036854775807) {K1:Heap->Prop} {K:Option Addr->Nat->Nat->Heap->Prop}
 (x0:∀ h1,h.le h1->K1 h1)
 (x:∀ A' c' h' g' o',g.le g'->Sep h' g' o'->OwnSl o' e A' c' (xs++[y])->(∀ k u,o k=some u->A≠some ⟨k,0,none⟩->o' k=some u/\A'≠some ⟨k,0,none⟩)->K A' (xs.length+1) c' h'):
 wpH P (Instr.buildSlice t 1 #[(0,v)]) (fun v' hp=>∃ (B:Option Addr) (m d:Nat),v'= .slice B m d/\K1 hp/\wpH P (Builtin.append_ #[t,t] ty #[.slice A xs.length c,.slice B m d]) (fun v1 hp1=>∃ (A':Option Addr) (n' c':Nat),v1= .slice A' n' c'/\K A' n' c' hp1) hp) h:=by
 obtain ⟨gb,p,hkeep⟩:=w.priv s
 refine Rh st (vs:=[v]) (fun u hu=>by rw [List.mem_singleton.1 hu,hv];simp [E.default.len]) rfl (by simp;omega) rfl ?_
 intro b hfree
 have hfl:[v].flatMap (fun v=>v.cells.toList)=[y].flatMap enc:=by simp [hv]
 rw [hfl]
 refine ⟨_,_,_,rfl,x0 _ (Heap.le_put _ hfree),?_⟩
 have p':PrivF (h.put b (.cells ([y].flatMap enc).toArray e)) (gb.put b (.cells ([y].flatMap enc).toArray e)) e A c xs:=Priv.put p hfree _
 refine Ia st p' (ys:=[y]) rfl (A37 e h b [y]) hb hn ?_
 intro A' c' h' g' hg hp
 refine ⟨_,_,_,rfl,?_⟩
 rw [List.length_append]
 have hgk:∀ k u,h k=some u->A≠some ⟨k,0,none⟩->g' k=some u:=by
  intro k u e1 hne
  have hkb:k≠b:=by rintro rfl;rw [hfree] at e1;cases e1
  exact hg k u (by rw [B5 _ _ hkb];exact hkeep k u e1 hne)
 have hnA:∀ k u,g k=some u->A≠some ⟨k,0,none⟩:=by
  intro k u e1 hA
  rcases w.2 with ⟨_,h0⟩|⟨b',arr,hA',hb',_⟩
  ·rw [hA] at h0;cases h0
  ·rw [hA] at hA'
   simp only [Option.some.injEq,Addr.mk.injEq,and_true] at hA'
   subst hA'
   rw [s.dis k _ hb'] at e1;cases e1
 rcases hp.2.2 with ⟨hc0,_⟩|⟨b',arr,hA',hb',hh',ha,ht⟩
 ·exfalso
  have:=hp.2.1
  rw [List.length_append] at this
  simp at this
  omega
 ·subst hA'
  let o':Heap:=fun k=>if k=b' then some (.cells (List.toArray arr) e) else if A=some ⟨k,0,none⟩ then none else o k
  have ob:o' b'=some (.cells (List.toArray arr) e):=by show (if b'=b' then _ else _)=_;rw [if_pos rfl]
  have ok:∀ k,k≠b'->A≠some ⟨k,0,none⟩->o' k=o k:=fun k h1 h2=>by show (if k=b' then _ else if _ then _ else _)=_;rw [if_neg h1,if_neg h2]
  have ono:∀ k,k≠b'->A=some ⟨k,0,none⟩->o' k=none:=fun k h1 h2=>by show (if k=b' then _ else if _ then _ else _)=_;rw [if_neg h1,if_pos h2]
  let g2:Heap:=fun k=>match o' k with|some _=>none|none=>h' k
  have gs:∀ k u,o' k=some u->g2 k=none:=fun k u e1=>by show (match o' k with|some _=>none|none=>h' k)=_;rw [e1]
  have gn:∀ k,o' k=none->g2 k=h' k:=fun k e1=>by show (match o' k with|some _=>none|none=>h' k)=_;rw [e1]
  have hput:∀ k u,k≠b'->g' k=some u->h' k=some u:=fun k u h1 e1=>by rw [hh',B5 _ _ h1];exact e1
  have hown:∀ k u,o k=some u->A≠some ⟨k,0,none⟩->k≠b':=by
   rintro k u e1 h2 rfl
   have:=hgk k u (s.own k u e1) h2
   rw [hb'] at this;cases this
  refine x _ c' h' g2 o' (fun k u e1=>?_) ⟨fun k u e1=>?_,fun k e1=>(gn k e1).symm,gs⟩ ⟨hp.2.1,.inr ⟨b',arr,rfl,ob,ha,ht⟩⟩ (fun k u e1 h2=>?_)
  ·have hk0:o k=none:=by
    cases ho:o k with
    | none=>rfl
    | some y=>rw [s.dis k y ho] at e1;cases e1
   have hA:=hnA k u e1
   have e3:=hgk k u (s.le k u e1) hA
   have hkb':k≠b':=by rintro rfl;rw [hb'] at e3;cases e3
   rw [gn k (by rw [ok k hkb' hA];exact hk0)]
   exact hput k u hkb' e3
  ·by_cases hkb:k=b'
   ·subst hkb
    rw [ob] at e1;cases e1
    rw [hh',B9]
   ·by_cases hA:A=some ⟨k,0,none⟩
    ·rw [ono k hkb hA] at e1;cases e1
    ·rw [ok k hkb hA] at e1
     exact hput k u hkb (hgk k u (s.own k u e1) hA)
  ·have hkb:=hown k u e1 h2
   refine ⟨by rw [ok k hkb h2];exact e1,fun h3=>hkb ?_⟩
   simp only [Option.some.injEq,Addr.mk.injEq,and_true] at h3
   exact h3.symm
end
structure Tb where
 bt:Nat
 bE:Nat
 bS:Nat
 rows:Nat
 cols:Nat
 cE:Nat
 cS:Nat
structure Tab (h g o:Heap) (T:Tb) (M:Nat->Nat->Int) (S:Nat->Rat):Prop where
 sep:Sep h g o
 n1:T.bt≠T.bE
 n2:T.bt≠T.bS
 n3:T.bE≠T.bS
 head:∃ e,o T.bt=some (.cells #[I T.cols,.slice (some ⟨T.bE,0,none⟩) (T.rows*T.cols) T.cE,.slice (some ⟨T.bS,0,none⟩) T.rows T.cS] e)
 elems:∃ ws:List IV,RowB o T.bE ws/\ws.length=T.rows*T.cols/\∀ i j,i<T.rows->j<T.cols->∃ w,ws[i*T.cols+j]? = some w/\ZIr g w (M i j)
 scales:∃ ss:List QV,RowB o T.bS ss/\ss.length=T.rows/\Row RQr g ss T.rows S
 cE:T.rows*T.cols<=T.cE
 cS:T.rows<=T.cS
 small:T.rows<=10000/\T.cols<=10000
 pos:0<T.cols
def C0l(M:Nat->Nat->Int)(i j:Nat)(z:Int):Nat->Nat->Int:=fun a b=>if a=i/\b=j then z else M a b
theorem U1{rows cols i j:Nat}(hi:i<rows)(hj:j<cols):i*cols+j<rows*cols:=by
 have:(i+1)*cols<=rows*cols:=Nat.mul_le_mul_right _ hi
 rw [Nat.add_mul,Nat.one_mul] at this
 omega
theorem A8k{cols i j i' j':Nat}(hj:j<cols)(hj':j'<cols)(h:i*cols+j=i'*cols+j'):i=i'/\j=j':=by
 have h1:(i*cols+j)/cols=i:=by rw [Nat.mul_comm,Nat.mul_add_div (by omega),Nat.div_eq_of_lt hj,Nat.add_zero]
 have h2:(i'*cols+j')/cols=i':=by rw [Nat.mul_comm,Nat.mul_add_div (by omega),Nat.div_eq_of_lt hj',Nat.add_zero]
 have:i=i':=by rw [<- h1,<- h2,h]
 subst this
 exact ⟨rfl,by omega⟩
section
variable {h g o:Heap} {T:Tb} {M:Nat->Nat->Int} {S:Nat->Rat} {K:Value->Heap->Prop} {m:Nat}
theorem Tab.next(t:Tab h g o T M S){h' g':Heap}(s:Sep h' g' o)(l:g.le g'):Tab h' g' o T M S:=by
 refine ⟨s,t.n1,t.n2,t.n3,t.head,?_,?_,t.cE,t.cS,t.small,t.pos⟩
 ·obtain ⟨ws,r,hl,hw⟩:=t.elems
  refine ⟨ws,r,hl,fun i j hi hj=>?_⟩
  obtain ⟨w,e,hz⟩:=hw i j hi hj
  exact ⟨w,e,Rf _ _ _ _ l hz⟩
 ·obtain ⟨ss,r,hl,hw⟩:=t.scales
  exact ⟨ss,r,hl,hw.mono S5 l⟩
theorem Tab.congr(t:Tab h g o T M S){M':Nat->Nat->Int}{S':Nat->Rat}(hM:∀ i j,i<T.rows->j<T.cols->M i j=M' i j)(hS:∀ i,i<T.rows->S i=S' i):Tab h g o T M' S':=by
 refine ⟨t.sep,t.n1,t.n2,t.n3,t.head,?_,?_,t.cE,t.cS,t.small,t.pos⟩
 ·obtain ⟨ws,r,hl,hw⟩:=t.elems
  refine ⟨ws,r,hl,fun i j hi hj=>?_⟩
  rw [<- hM i j hi hj];exact hw i j hi hj
 ·obtain ⟨ss,r,hl,hw⟩:=t.scales
  exact ⟨ss,r,hl,hw.congr hS⟩
theorem Tab.c0(t:Tab h g o T M S):h.cell? (Addr.add ⟨T.bt,0,none⟩ 0)=some (I T.cols):=by
 obtain ⟨e,he⟩:=t.head
 refine t.sep.cell ?_
 rw [D8];unfold Heap.cell?;simp only [he];rfl
theorem Tab.c1(t:Tab h g o T M S):h.cell? (Addr.add ⟨T.bt,0,none⟩ 1)=some (.slice (some ⟨T.bE,0,none⟩) (T.rows*T.cols) T.cE):=by
 obtain ⟨e,he⟩:=t.head
 refine t.sep.cell ?_
 rw [D8];unfold Heap.cell?;simp only [he];rfl
theorem Tab.c2(t:Tab h g o T M S):h.cell? (Addr.add ⟨T.bt,0,none⟩ 2)=some (.slice (some ⟨T.bS,0,none⟩) T.rows T.cS):=by
 obtain ⟨e,he⟩:=t.head
 refine t.sep.cell ?_
 rw [D8];unfold Heap.cell?;simp only [he];rfl
theorem Tab.at(t:Tab h g o T M S){i j:Nat}(hi:i<T.rows)(hj:j<T.cols):∃ w:IV,ZIr g w (M i j)/\h.cell? (Addr.add (Addr.add ⟨T.bE,i*T.cols*2,none⟩ (j*2)) 0)=some (.bool w.s)/\h.cell? (Addr.add (Addr.add ⟨T.bE,i*T.cols*2,none⟩ (j*2)) 1)=some (.slice w.A w.n w.c):=by
 obtain ⟨ws,r,hl,hw⟩:=t.elems
 obtain ⟨w,e,hz⟩:=hw i j hi hj
 have hlt:=U1 hi hj
 have he:ws[i*T.cols+j]=w:=by
  rw [List.getElem?_eq_getElem (by omega)] at e
  cases e;rfl
 have ha:i*T.cols*2+j*2=(i*T.cols+j)*2:=by rw [Nat.add_mul]
 refine ⟨w,hz,t.sep.cell ?_,t.sep.cell ?_⟩
 ·rw [D8,D8,ha]
  exact r.cell (i:=i*T.cols+j) (by omega) (j:=0) (v:=.bool w.s) (by rw [he];rfl)
 ·rw [D8,D8,ha]
  exact r.cell (i:=i*T.cols+j) (by omega) (j:=1) (v:=.slice w.A w.n w.c) (by rw [he];rfl)
theorem Tab.ato(t:Tab h g o T M S){i j:Nat}(hi:i<T.rows)(hj:j<T.cols):∃ w:IV,ZIr g w (M i j)/\o.cell? (Addr.add (Addr.add ⟨T.bE,i*T.cols*2,none⟩ (j*2)) 0)=some (.bool w.s)/\o.cell? (Addr.add (Addr.add ⟨T.bE,i*T.cols*2,none⟩ (j*2)) 1)=some (.slice w.A w.n w.c):=by
 obtain ⟨ws,r,hl,hw⟩:=t.elems
 obtain ⟨w,e,hz⟩:=hw i j hi hj
 have hlt:=U1 hi hj
 have he:ws[i*T.cols+j]=w:=by
  rw [List.getElem?_eq_getElem (by omega)] at e
  cases e;rfl
 have ha:i*T.cols*2+j*2=(i*T.cols+j)*2:=by rw [Nat.add_mul]
 refine ⟨w,hz,?_,?_⟩
 ·rw [D8,D8,ha]
  exact r.cell (i:=i*T.cols+j) (by omega) (j:=0) (v:=.bool w.s) (by rw [he];rfl)
 ·rw [D8,D8,ha]
  exact r.cell (i:=i*T.cols+j) (by omega) (j:=1) (v:=.slice w.A w.n w.c) (by rw [he];rfl)
theorem Sep.le_le{h' g':Heap}(s:Sep h g o)(s':Sep h' g' o)(l:g.le g'):h.le h':=fun k x e=>by
 cases ho:o k with
 | some y=>rw [s.own k y ho] at e;rw [s'.own k y ho];exact e
 | none=>rw [s.rest k ho] at e;rw [s'.rest k ho];exact l k x e
theorem Tab.sat(t:Tab h g o T M S){i:Nat}(hi:i<T.rows):∃ w:QV,RQ g w (S i)/\h.cell? (Addr.add (Addr.add ⟨T.bS,0,none⟩ (i*4)) 0)=some (.bool w.s)/\h.cell? (Addr.add (Addr.add ⟨T.bS,0,none⟩ (i*4)) 1)=some (.slice w.A w.n w.c)/\h.cell? (Addr.add (Addr.add ⟨T.bS,0,none⟩ (i*4)) 2)=some (.bool w.s2)/\h.cell? (Addr.add (Addr.add ⟨T.bS,0,none⟩ (i*4)) 3)=some (.slice w.A2 w.n2 w.c2):=by
 obtain ⟨ss,r,hl,hw⟩:=t.scales
 obtain ⟨w,e,hz⟩:=hw i hi
 have he:ss[i]=w:=by
  rw [List.getElem?_eq_getElem (by omega)] at e
  cases e;rfl
 have cell:∀ k v,(enc w)[k]? = some v->h.cell? (Addr.add (Addr.add ⟨T.bS,0,none⟩ (i*4)) k)=some v:=by
  intro k v hk
  refine t.sep.cell ?_
  rw [D8,D8,Nat.zero_add]
  exact r.cell (i:=i) (by omega) (j:=k) (by rw [he];exact hk)
 exact ⟨w,hz,cell 0 _ rfl,cell 1 _ rfl,cell 2 _ rfl,cell 3 _ rfl⟩
theorem Tab.store(t:Tab h g o T M S){i j:Nat}(hi:i<T.rows)(hj:j<T.cols){w:IV}{z:Int}(hz:ZIr g w z){K:Unit->Heap->Prop}
 (x:∀ h' o',Tab h' g o' T (C0l M i j z) S->(∀ k,k≠T.bE->o' k=o k)->K () h'):wpH Tryz.prog (Instr.storeAt Jx (.pointer (some (Addr.add ⟨T.bE,i*T.cols*2,none⟩ (j*2)))) w.v) K h:=by
 obtain ⟨ws,r,hl,hw⟩:=t.elems
 have hlt:=U1 hi hj
 have ha:i*T.cols*2+j*2=(i*T.cols+j)*2:=by rw [Nat.add_mul]
 rw [D8,ha]
 refine Sep.store (E:=inferInstanceAs (Enc IV)) A7j (v:=w.v) (y:=w) rfl t.sep r (i:=i*T.cols+j) (by omega) rfl ?_
 intro h' o' x' eo s' r'
 refine x h' o' ⟨s',t.n1,t.n2,t.n3,?_,⟨_,r',by simpa using hl,fun a b ha' hb=>?_⟩,?_,t.cE,t.cS,t.small,t.pos⟩ (fun k hk=>by rw [eo,B5 _ _ hk])
 ·obtain ⟨e,he⟩:=t.head
  exact ⟨e,by rw [eo,B5 _ _ t.n1];exact he⟩
 ·unfold C0l
  by_cases e:a=i/\b=j
  ·obtain ⟨rfl,rfl⟩:=e
   exact ⟨w,by rw [List.getElem?_set_self (by omega)],by rw [if_pos ⟨rfl,rfl⟩];exact hz⟩
  ·obtain ⟨u,e1,hu⟩:=hw a b ha' hb
   refine ⟨u,?_,by rw [if_neg e];exact hu⟩
   rw [List.getElem?_set_ne (fun x=>e (by have:=A8k hj hb x;exact ⟨this.1.symm,this.2.symm⟩))]
   exact e1
 ·obtain ⟨ss,r2,hl2,hw2⟩:=t.scales
  exact ⟨ss,by rw [eo];exact r2.other t.n3.symm _,hl2,hw2⟩
theorem Tab.sstore(t:Tab h g o T M S){i:Nat}(hi:i<T.rows){w:QV}{q:Rat}(hz:RQ g w q){K:Unit->Heap->Prop}
 (x:∀ h' o',Tab h' g o' T M (fun a=>if a=i then q else S a)->(∀ k,k≠T.bS->o' k=o k)->K () h'):wpH Tryz.prog (Instr.storeAt I3 (.pointer (some (Addr.add ⟨T.bS,0,none⟩ (i*4)))) w.v) K h:=by
 obtain ⟨ss,r,hl,hw⟩:=t.scales
 rw [D8,Nat.zero_add]
 refine Sep.store (E:=inferInstanceAs (Enc QV)) Kb (v:=w.v) (y:=w) rfl t.sep r (i:=i) (by omega) rfl ?_
 intro h' o' x' eo s' r'
 refine x h' o' ⟨s',t.n1,t.n2,t.n3,?_,?_,⟨_,r',by simpa using hl,Row.upd hw (by omega) hz⟩,t.cE,t.cS,t.small,t.pos⟩ (fun k hk=>by rw [eo,B5 _ _ hk])
 ·obtain ⟨e,he⟩:=t.head
  exact ⟨e,by rw [eo,B5 _ _ t.n2];exact he⟩
 ·obtain ⟨ws,r2,hl2,hw2⟩:=t.elems
  exact ⟨ws,by rw [eo];exact r2.other t.n3 _,hl2,hw2⟩
theorem V9{n:Nat}(h:n<=9223372036854775807):B4 (n:Int)=(n:Int):=B6 (by omega) (by omega)
theorem Ao(t:Tab h g o T M S){i:Nat}(hi:i<T.rows)(hK:K (.slice (some ⟨T.bE,i*T.cols*2,none⟩) T.cols (T.cE-i*T.cols)) h):FCall Tryz.prog Gm #[.pointer (some ⟨T.bt,0,none⟩),I (i:Int)] h K:=by
 refine B74 _ _ ?_
 unfold C1l
 have hs:=t.small
 have hc:=t.pos
 have h1:(i+1)*T.cols<=T.rows*T.cols:=Nat.mul_le_mul_right _ hi
 have h2:T.rows*T.cols<=10000*10000:=Nat.mul_le_mul hs.1 hs.2
 have h3:=t.cE
 have h4:(i+1)*T.cols=i*T.cols+T.cols:=by rw [Nat.add_mul,Nat.one_mul]
 have e1:B4 ((i:Int)*(T.cols:Int))=((i*T.cols:Nat):Int):=by rw [<- Int.natCast_mul];exact V9 (by omega)
 have e0:B4 ((i:Int)+1)=((i+1:Nat):Int):=B6 (by omega) (by omega)
 have e2:B4 (B4 ((i:Int)+1)*(T.cols:Int))=(((i+1)*T.cols:Nat):Int):=by rw [e0,<- Int.natCast_mul];exact V9 (by omega)
 refine ⟨_,rfl,_,_,_,t.c1,_,rfl,_,t.c0,_,rfl,_,t.c0,?_⟩
 rw [e1,e2]
 refine ⟨⟨by omega,by omega⟩,⟨by omega,by simp only [Int.toNat_natCast];omega⟩,?_⟩
 simp only [Int.toNat_natCast]
 rw [Sj (by omega),D8,Nat.zero_add,h4,Nat.add_sub_cancel_left]
 exact hK
theorem A0n(t:Tab h g o T M S){start col:Nat}(hs:start<=T.rows)(hc:col<T.cols)
 (hK1:fnd (fun i=>decide (M i col≠0)) (T.rows-start) start<T.rows->K (.tuple #[I ((fnd (fun i=>decide (M i col≠0)) (T.rows-start) start:Nat):Int),.bool true]) h)
 (hK0:fnd (fun i=>decide (M i col≠0)) (T.rows-start) start=T.rows->K (.tuple #[I 0,.bool false]) h):FCall Tryz.prog Xy #[.pointer (some ⟨T.bt,0,none⟩),I (start:Int),I (col:Int)] h K:=by
 refine B3q _ _ _ ?_
 unfold B9c
 refine ⟨fun L hp=>∃ k:Nat,k<=T.rows/\L=[I k]/\hp=h/\start<=k/\∀ j,start<=j->j<k->decide (M j col≠0)=false,fun L _=>T.rows-(iAt L 0).toNat,⟨start,hs,rfl,rfl,Nat.le_refl _,fun j h1 h2=>by omega⟩,?_⟩
 rintro i hp ⟨k,hk,eL,rfl,hsk,hz⟩
 obtain rfl:i=(k:Int):=by simpa using eL
 refine ⟨_,rfl,_,_,_,t.c2,B7 (fun hlt=>?_) (fun hge=>?_)⟩
 ·have hkn:k<T.rows:=by omega
  refine Ao t hkn ⟨_,_,_,rfl,_,rfl,by omega,by omega,?_⟩
  obtain ⟨w,hw,d0,d1⟩:=t.at hkn hc
  refine ⟨_,_,_,_,d0,d1,G9 (hw.mono t.sep.le) ⟨_,rfl,Dx (B7 (fun e=>?_) (fun e=>?_))⟩⟩
  ·rw [show B4 ((k:Int)+1)=((k+1:Nat):Int) by have:=t.small;rw [B6]<;>omega]
   refine ⟨⟨k+1,by omega,rfl,rfl,by omega,fun j h1 h2=>?_⟩,by simp only [Fd];omega⟩
   by_cases ej:j=k
   ·subst ej;simp [e]
   ·exact hz j h1 (by omega)
  ·have:fnd (fun i=>decide (M i col≠0)) (T.rows-start) start=k:=B43 _ hsk (by omega) hz (fun _=>by simpa using e)
   rw [this] at hK1
   exact hK1 hkn
 ·have:fnd (fun i=>decide (M i col≠0)) (T.rows-start) start=T.rows:=B43 _ hs (by omega) (fun j h1 h2=>hz j h1 (by omega)) (fun hx=>by omega)
  exact hK0 this
theorem Zs(t:Tab h g o T M S){i k:Nat}(hi:i<T.rows)(hk:k<T.rows)(hik:i≠k)
 (hK:∀ h' o',Tab h' g o' T (fun a=>M (xch i k a)) (fun a=>S (xch i k a))->(∀ b,b≠T.bE->b≠T.bS->o' b=o b)->K (.tuple #[]) h'):FCall Tryz.prog Xx #[.pointer (some ⟨T.bt,0,none⟩),I (i:Int),I (k:Int)] h K:=by
 refine B3p _ _ _ ?_
 unfold B9b
 refine Ao t hi ⟨_,_,_,rfl,Ao t hk ⟨_,_,_,rfl,?_⟩⟩
 refine ⟨fun L hp=>∃ (c:Nat) (o1:Heap),c<=T.cols/\L=[I c]/\Tab hp g o1 T (fun a b=>if b<c then M (xch i k a) b else M a b) S/\∀ b,b≠T.bE->o1 b=o b,fun L _=>T.cols-(iAt L 0).toNat,⟨0,o,by omega,rfl,t.congr (fun a b _ _=>by rw [if_neg (by omega)]) (fun _ _=>rfl),fun _ _=>rfl⟩,?_⟩
 rintro z hp ⟨c,o1,hc,eL,t1,ho1⟩
 obtain rfl:z=(c:Int):=by simpa using eL
 refine B7 (fun hlt=>?_) (fun hge=>?_)
 ·have hcn:c<T.cols:=by omega
  obtain ⟨w1,z1,d0,d1⟩:=t1.at hk hcn
  obtain ⟨w2,z2,e0,e1⟩:=t1.at hi hcn
  rw [if_neg (Nat.lt_irrefl c)] at z1 z2
  refine ⟨_,rfl,by omega,by omega,_,_,_,_,d0,d1,_,rfl,by omega,by omega,_,_,_,_,e0,e1,_,rfl,by omega,by omega,?_⟩
  refine t1.store hi hcn (w:=w1) z1 ?_
  intro h2 o2 t2 ho2
  refine ⟨_,rfl,by omega,by omega,?_⟩
  refine t2.store hk hcn (w:=w2) z2 ?_
  intro h3 o3 t3 ho3
  rw [show B4 ((c:Int)+1)=((c+1:Nat):Int) by have:=t.small;rw [B6]<;>omega]
  refine ⟨⟨c+1,o3,by omega,rfl,t3.congr (fun a b _ _=>?_) (fun _ _=>rfl),fun b hb=>by rw [ho3 b hb,ho2 b hb,ho1 b hb]⟩,by simp only [Fd];omega⟩
  show (if a=k/\b=c then M i c else if a=i/\b=c then M k c else if b<c then M (xch i k a) b else M a b)=if b<c+1 then M (xch i k a) b else M a b
  unfold xch
  grind
 ·have hce:c=T.cols:=by omega
  subst hce
  obtain ⟨w1,z1,d0,d1,d2,d3⟩:=t1.sat hk
  obtain ⟨w2,z2,e0,e1,e2,e3⟩:=t1.sat hi
  refine ⟨_,rfl,_,_,_,t1.c2,_,rfl,_,_,_,t1.c2,_,rfl,_,_,_,t1.c2,_,rfl,by omega,by omega,_,_,_,_,_,_,_,_,d0,d1,d2,d3,_,rfl,_,_,_,t1.c2,_,rfl,by omega,by omega,_,_,_,_,_,_,_,_,e0,e1,e2,e3,_,rfl,by omega,by omega,?_⟩
  refine t1.sstore hi (w:=w1) z1 ?_
  intro h2 o2 t2 ho2
  refine ⟨_,rfl,by omega,by omega,?_⟩
  refine t2.sstore hk (w:=w2) z2 ?_
  intro h3 o3 t3 ho3
  refine hK h3 o3 (t3.congr (fun a b _ hb=>by rw [if_pos hb]) (fun a _=>?_)) (fun b hb1 hb2=>by rw [ho3 b hb2,ho2 b hb2,ho1 b hb1])
  show (if a=k then S i else if a=i then S k else S a)=S (xch i k a)
  unfold xch
  grind
end
theorem A34{P:Program}{t:TypeId}{v:Value}{K:Value->Heap->Prop}{h:Heap}(x:∀ b,h b=none->K (.pointer (some ⟨b,0,none⟩)) (h.put b (.cells v.cells t))):wpH P (Instr.box t v) K h:=by
 unfold Instr.box newVar
 simp only [C7,P6,F9]
 exact x
theorem B5x{m k:Nat}(hm:1<=m)(hk:k<4611686018427387904):(k:Int)*2^(2*m)<b64^m:=by
 have e:b64^m=(2:Int)^(2*m)*2^(62*m):=by
  have:b64=(2:Int)^64:=by decide
  rw [this,<- Int.pow_mul,<- Int.pow_add]
  congr 1;omega
 have h1:(2:Int)^62<=2^(62*m):=D0 (by decide) (by omega)
 have h2:(k:Int)<2^62:=by
  have:(2:Int)^62=4611686018427387904:=by decide
  rw [this];omega
 have hp:(0:Int)<2^(2*m):=Int.pow_pos (by decide)
 rw [e,Int.mul_comm]
 exact Int.mul_lt_mul_of_pos_left (Int.lt_of_lt_of_le h2 h1) hp
theorem A7z{m:Nat}{x y:Int}(hx:ZB m x)(hy:ZB m y):((x*y).natAbs:Int)<=2^(2*m):=by
 have:=hx.mul hy
 unfold ZB at this
 have e:m+m=2*m:=by omega
 rw [e] at this
 have:((x*y).natAbs:Int)<((2^(2*m):Nat):Int):=by omega
 rw [Int.natCast_pow] at this
 exact Int.le_of_lt this
section
variable {h g o:Heap} {T:Tb} {M:Nat->Nat->Int} {S:Nat->Rat} {K:Value->Heap->Prop} {m:Nat}
theorem B1n:(Tryz.prog.info? We).map (·.zero)=some (some (.agg #[.slice none 0 0,.slice none 0 0])):=by kernel_rfl
theorem Vg(t:Tab h g o T M S){i p c:Nat}{wb:IV}{d:Int}(hi:i<T.rows)(hp':p<T.rows)(hip:i≠p)(hc:c<T.cols)(ib:ZIr g wb d)(hd:d≠0)(hm1:1<=m)(hm:2*m+1<=100000000)(hMi:∀ b,b<T.cols->ZB m (M i b))(hMp:∀ b,b<T.cols->ZB m (M p b))(hdb:ZB m d)
 (hK:∀ h' g' o',g.le g'->Tab h' g' o' T (fun a b=>if a=i then (M p c*M i b-M i c*M p b).tdiv d else M a b) S->(∀ b,b≠T.bE->o' b=o b)->K (.tuple #[]) h'):FCall Tryz.prog Qd #[.pointer (some ⟨T.bt,0,none⟩),I (i:Int),I (p:Int),I (c:Int),wb.v] h K:=by
 refine B11 _ _ _ _ _ _ _ _ ?_
 unfold B5c
 refine Ao t hi ⟨_,_,_,rfl,Ao t hp' ⟨_,_,_,rfl,?_⟩⟩
 obtain ⟨wf,zf,f0,f1⟩:=t.at hi hc
 refine ⟨_,rfl,by omega,by omega,_,_,_,_,f0,f1,?_⟩
 refine ⟨fun L hp=>∃ (k:Nat) (g1 o1:Heap),k<=T.cols/\L=[I k]/\g.le g1/\Tab hp g1 o1 T (fun a b=>if a=i/\b<k then (M p c*M i b-M i c*M p b).tdiv d else M a b) S/\∀ b,b≠T.bE->o1 b=o b,fun L _=>T.cols-(iAt L 0).toNat,⟨0,g,o,by omega,rfl,B3 _,t.congr (fun a b _ _=>by rw [if_neg (by omega)]) (fun _ _=>rfl),fun _ _=>rfl⟩,?_⟩
 rintro z hq ⟨k,g1,o1,hk,eL,lg,t1,ho1⟩
 obtain rfl:z=(k:Int):=by simpa using eL
 have ew:B4 ((k:Int)+1)=((k+1:Nat):Int):=by have:=t.small;rw [B6]<;>omega
 refine B7 (fun hlt=>?_) (fun hge=>?_)
 ·have hkn:k<T.cols:=by omega
  obtain ⟨w1,z1,d0,d1⟩:=t1.at hi hkn
  rw [if_neg (by omega)] at z1
  have same:(M p c*M i k-M i c*M p k).tdiv d=M i k->(∃ (k':Nat) (g1 o1:Heap),k'<=T.cols/\[I (B4 ((k:Int)+1))]=[I k']/\g.le g1/\Tab hq g1 o1 T (fun a b=>if a=i/\b<k' then (M p c*M i b-M i c*M p b).tdiv d else M a b) S/\∀ b,b≠T.bE->o1 b=o b)/\T.cols-(iAt [I (B4 ((k:Int)+1))] 0).toNat<T.cols-(iAt [I (k:Int)] 0).toNat:=by
   intro e
   rw [ew]
   refine ⟨⟨k+1,g1,o1,by omega,rfl,lg,t1.congr (fun a b _ _=>?_) (fun _ _=>rfl),ho1⟩,by simp only [Fd];omega⟩
   by_cases h1:a=i/\b<k
   ·rw [if_pos h1,if_pos ⟨h1.1,by omega⟩]
   ·rw [if_neg h1]
    by_cases h2:a=i/\b<k+1
    ·obtain ⟨rfl,h3⟩:=h2
     have:b=k:=by omega
     subst this
     rw [if_pos ⟨rfl,by omega⟩,e]
    ·rw [if_neg h2]
  refine ⟨_,rfl,by omega,by omega,_,_,_,_,d0,d1,fun L hp=>hp=hq,?_,?_⟩
  ·refine G9 (z1.mono t1.sep.le) ⟨_,rfl,B7 (fun e1=>?_) (fun _=>rfl)⟩
   refine G9 (zf.mono (A0 lg t1.sep.le)) ⟨_,rfl,B7 (fun e2=>same (by rw [e1,e2];simp)) (fun _=>?_)⟩
   obtain ⟨w2,z2,c0,c1⟩:=t1.at hp' hkn
   rw [if_neg (by omega)] at z2
   refine ⟨_,rfl,by omega,by omega,_,_,_,_,c0,c1,G9 (z2.mono t1.sep.le) ⟨_,rfl,B7 (fun e3=>same (by rw [e1,e3];simp)) (fun _=>rfl)⟩⟩
  ·rintro hp rfl
   refine Lr B1n ?_
   intro bs hbs
   have hgb:g1 bs=none:=by
    cases hx:g1 bs with
    | none=>rfl
    | some y=>rw [t1.sep.le _ _ hx] at hbs;cases hbs
   have s2:=t1.sep.vis hbs (.cells #[.slice none 0 0,.slice none 0 0] We)
   have Z0:SumS (g1.put bs (.cells #[.slice none 0 0,.slice none 0 0] We)) g1 bs We 200000001 0 0:=SumS.zero hgb
   obtain ⟨w3,z3,a0,a1⟩:=t1.ato hp' hc
   obtain ⟨w2,z2,c0,c1⟩:=t1.ato hp' hkn
   rw [if_neg (by omega)] at z2 z3
   have bl:∀ {gg:Heap} {w:IV} {x:Int},ZIr gg w x->ZB m x->w.n<=100000000:=fun i b=>ZI.len i b (by omega)
   have bpc:=hMp c hc
   have bik:=hMi k hkn
   have bic:=hMi c hc
   have bpk:=hMp k hkn
   have q1:=A7z bpc bik
   have q2:=A7z bic bpk
   have q0:=B5x (m:=m) (k:=2) hm1 (by omega)
   have l3:=bl z3 bpc
   have l1:=bl z1 bik
   have lf:=bl zf bic
   have l2:=bl z2 bpk
   refine ⟨_,rfl,_,rfl,by omega,by omega,_,_,_,_,s2.cell a0,s2.cell a1,?_⟩
   refine s2.call (Fh Z0 z3 z1 (by omega) (by omega) (N1:=m) (by omega) (by omega) ?_)
   intro G3 g3 lg3 Z3 H3 s3
   refine ⟨rfl,_,rfl,by omega,by omega,_,_,_,_,s3.cell c0,s3.cell c1,?_⟩
   refine s3.call (Ph Z3 (zf.mono (A0 lg lg3)) (z2.mono lg3) (by omega) (by omega) (N1:=m) (by omega) (by omega) ?_)
   intro G4 g4 lg4 Z4 H4 s4
   refine ⟨rfl,s4.call (Wi Z4 (by omega) ?_)⟩
   intro sv Av nv cv G5 lg5 z5 H5 s5
   rw [Int.zero_add] at z5
   refine ⟨_,_,_,_,rfl,s4.le_le s5 lg5,?_⟩
   have g14:g1.le G5:=A0 lg3 (A0 lg4 (A0 Z4.le lg5))
   have bz:ZB (2*m+1) (M p c*M i k-M i c*M p k):=((bpc.mul bik).sub (bic.mul bpk)).mono (by omega)
   refine s5.call (Bi z5 (ib.mono (A0 lg g14)) bz (hdb.mono (by omega)) (by omega) hd ?_)
   intro s6 A6 n6 c6 G6 lg6 z6 H6 sp6
   refine ⟨_,_,_,_,rfl,s5.le_le sp6 lg6,_,rfl,by omega,by omega,?_⟩
   have t6:=t1.next sp6 (A0 g14 lg6)
   refine t6.store hi hkn (w:=⟨s6,A6,n6,c6⟩) z6 ?_
   intro H7 o7 t7 ho7
   rw [ew]
   refine ⟨⟨k+1,G6,o7,by omega,rfl,A0 lg (A0 g14 lg6),t7.congr (fun a b _ _=>?_) (fun _ _=>rfl),fun b hb=>by rw [ho7 b hb,ho1 b hb]⟩,by simp only [Fd];omega⟩
   show (if a=i/\b=k then (M p c*M i k-M i c*M p k).tdiv d else if a=i/\b<k then (M p c*M i b-M i c*M p b).tdiv d else M a b)=_
   grind
 ·have hce:k=T.cols:=by omega
  subst hce
  exact hK hq g1 o1 lg (t1.congr (fun a b _ hb=>by
   by_cases h1:a=i
   ·rw [if_pos ⟨h1,hb⟩,if_pos h1]
   ·rw [if_neg (fun x=>h1 x.1),if_neg h1]) (fun _ _=>rfl)) ho1
theorem A41(n:Nat)(s:PS)(h:s.cs=[]):∀ c,(Ce n s c).cs.length<=c:=by
 intro c
 induction c with
 | zero=>show s.cs.length<=0;rw [h];exact Nat.le_refl _
 | succ c ih=>
  show (Ed n c (Ce n s c)).cs.length<=c+1
  unfold Ed
  split
  ·show ((Ce n s c).cs++[c]).length<=c+1
   rw [List.length_append]
   exact Nat.succ_le_succ ih
  ·omega
theorem Qt(n:Nat)(s:PS)(h:s.last≠0)(hs:s.sgn=1\/s.sgn= -1)(hl:s.cs.length<=n):∀ c,(Ce n s c).last≠0/\((Ce n s c).sgn=1\/(Ce n s c).sgn= -1)/\(Ce n s c).cs.length<=n:=by
 intro c
 induction c with
 | zero=>exact ⟨h,hs,hl⟩
 | succ c ih=>
  obtain ⟨i1,i2,i3⟩:=ih
  show (Ed n c (Ce n s c)).last≠0/\((Ed n c (Ce n s c)).sgn=1\/(Ed n c (Ce n s c)).sgn= -1)/\(Ed n c (Ce n s c)).cs.length<=n
  have hr:=A2e n c (Ce n s c) i3
  unfold Ed
  by_cases hx:Ms n c (Ce n s c)<n
  ·rw [if_pos hx]
   have:=Rm (fun i=>decide ((Ce n s c).M i c≠0)) (n-(Ce n s c).cs.length) (Ce n s c).cs.length (by unfold Ms at hx;omega)
   refine ⟨by simpa [Ms] using this,?_,?_⟩
   ·show (if Ms n c (Ce n s c)=(Ce n s c).cs.length then (Ce n s c).sgn else -(Ce n s c).sgn)=1\/(if Ms n c (Ce n s c)=(Ce n s c).cs.length then (Ce n s c).sgn else -(Ce n s c).sgn)= -1
    split<;>omega
   ·show ((Ce n s c).cs++[c]).length<=n
    rw [List.length_append]
    simp only [List.length_cons,List.length_nil]
    omega
  ·rw [if_neg hx];exact ⟨i1,i2,i3⟩
theorem V6{α:Type}[E:Enc α]{P:Program}{t e ty:TypeId}{z:Value}{bytes:Nat}(st:SliceT P t e z E.default.size bytes){h g o:Heap}{A:Option Addr}{c n:Nat}{xs:List α}(s:Sep h g o)(w:OwnSl o e A c xs)(hxn:n=xs.length){v:Value}{y:α}(hv:v.cells=(enc y).toArray)(hsz:E.default.size<=1000)
 (hb:(2*(xs.length+1)+192)*bytes<=281474976710656) (hn:xs.length+1<=9223372036854775807) {K:Option Addr->Nat->Nat->Heap->Prop}
 (x:∀ A' c' h' g' o',g.le g'->Sep h' g' o'->OwnSl o' e A' c' (xs++[y])->(∀ k u,o k=some u->A≠some ⟨k,0,none⟩->o' k=some u/\A'≠some ⟨k,0,none⟩)->K A' (xs.length+1) c' h'):
 wpH P (Instr.buildSlice t 1 #[(0,v)]) (fun v' hp=>∃ (B:Option Addr) (m d:Nat),v'= .slice B m d/\wpH P (Builtin.append_ #[t,t] ty #[.slice A n c,.slice B m d]) (fun v1 hp1=>∃ (A':Option Addr) (n' c':Nat),v1= .slice A' n' c'/\K A' n' c' hp1) hp) h:=by
 subst hxn
 refine Hf _ (OwnSl.push (ty:=ty) st s w hv hsz hb hn (K1:=fun _=>True) (K:=K) (fun _ _=>trivial) x) ?_
 rintro v' hp ⟨B,m,d,e,_,hk⟩
 exact ⟨B,m,d,e,hk⟩
theorem Tab.own(t:Tab h g o T M S):(∃ x,o T.bt=some x)/\(∃ x,o T.bE=some x)/\∃ x,o T.bS=some x:=by
 obtain ⟨e,he⟩:=t.head
 obtain ⟨ws,⟨e1,x1,h1⟩,_⟩:=t.elems
 obtain ⟨ss,⟨e2,x2,h2⟩,_⟩:=t.scales
 exact ⟨⟨_,he⟩,⟨_,h1⟩,⟨_,h2⟩⟩
theorem Tab.keep(t:Tab h g o T M S){h' g' o':Heap}(s:Sep h' g' o')(l:g.le g')(hk:∀ k x,o k=some x->k=T.bt\/k=T.bE\/k=T.bS->o' k=some x):Tab h' g' o' T M S:=by
 refine ⟨s,t.n1,t.n2,t.n3,?_,?_,?_,t.cE,t.cS,t.small,t.pos⟩
 ·obtain ⟨e,he⟩:=t.head
  exact ⟨e,hk _ _ he (.inl rfl)⟩
 ·obtain ⟨ws,⟨e,ex,hb⟩,hl,hw⟩:=t.elems
  refine ⟨ws,⟨e,ex,hk _ _ hb (.inr (.inl rfl))⟩,hl,fun i j hi hj=>?_⟩
  obtain ⟨w,e,hz⟩:=hw i j hi hj
  exact ⟨w,e,Rf _ _ _ _ l hz⟩
 ·obtain ⟨ss,⟨e,ex,hb⟩,hl,hw⟩:=t.scales
  exact ⟨ss,⟨e,ex,hk _ _ hb (.inr (.inr rfl))⟩,hl,hw.mono S5 l⟩
abbrev zs(l:List Nat):List Int:=l.map fun (n:Nat)=>(n:Int)
def B76(T:Tb)(A:Option Addr):Prop:=A≠some ⟨T.bt,0,none⟩/\A≠some ⟨T.bE,0,none⟩/\A≠some ⟨T.bS,0,none⟩
theorem A2j(t:Tab h g o T M S){c l:Nat}(hc:c<=T.cols)(hm1:1<=m)(hm:2*(3^c*m)+1<=100000000)(hz:ZbP T.rows T.cols m l ⟨M,S,[],1,1⟩)
 (hK:∀ h' g' o' A cap w,g.le g'->Tab h' g' o' T (Ce T.rows ⟨M,S,[],1,1⟩ c).M (Ce T.rows ⟨M,S,[],1,1⟩ c).S->OwnSl o' E4 A cap (zs (Ce T.rows ⟨M,S,[],1,1⟩ c).cs)->B76 T A->(∀ k x,o k=some x->k≠T.bE->k≠T.bS->o' k=some x/\A≠some ⟨k,0,none⟩)->ZIr g' w (Ce T.rows ⟨M,S,[],1,1⟩ c).last->
  K (.tuple #[.slice A (Ce T.rows ⟨M,S,[],1,1⟩ c).cs.length cap,w.v,I (Ce T.rows ⟨M,S,[],1,1⟩ c).sgn]) h'):FCall Tryz.prog Dk #[.pointer (some ⟨T.bt,0,none⟩),I (c:Int)] h K:=by
 refine A6w _ _ ?_
 unfold B0x
 have hsm:=t.small
 refine t.sep.call (Da (by omega) (by omega) ?_)
 intro s1 A1 n1 c1 g1 l1 i1 h1 sp1
 have t1:=t.next sp1 l1
 refine ⟨_,_,_,_,rfl,fun L hp=>∃ (k:Nat) (g' o':Heap) (A:Option Addr) (cap:Nat) (w:IV),k<=c/\L=[.slice A (Ce T.rows ⟨M,S,[],1,1⟩ k).cs.length cap,I (Ce T.rows ⟨M,S,[],1,1⟩ k).sgn,I k,.bool w.s,.slice w.A w.n w.c]/\g.le g'/\Tab hp g' o' T (Ce T.rows ⟨M,S,[],1,1⟩ k).M (Ce T.rows ⟨M,S,[],1,1⟩ k).S/\OwnSl o' E4 A cap (zs (Ce T.rows ⟨M,S,[],1,1⟩ k).cs)/\B76 T A/\(∀ k x,o k=some x->k≠T.bE->k≠T.bS->o' k=some x/\A≠some ⟨k,0,none⟩)/\ZIr g' w (Ce T.rows ⟨M,S,[],1,1⟩ k).last,
  fun L _=>c-(iAt L 2).toNat,⟨0,g1,o,none,0,⟨s1,A1,n1,c1⟩,by omega,rfl,l1,t1,(OwnSl.nil:OwnSl o E4 none 0 ([]:List Int)),⟨by simp,by simp,by simp⟩,fun k x e _ _=>⟨e,by simp⟩,i1⟩,?_⟩
 rintro pA pn pc sign z ls lA ln lc hp ⟨k,g2,o2,A,cap,w,hk,eL,lg,t2,ow,ap,ko,iw⟩
 simp only [List.cons.injEq,Value.int.injEq,Value.bool.injEq,Value.slice.injEq,true_and,and_true] at eL
 obtain ⟨⟨rfl,rfl,rfl⟩,rfl,rfl,rfl,rfl,rfl,rfl⟩:=eL
 have hrl:=Qt T.rows ⟨M,S,[],1,1⟩ (show (1:Int)≠0 by decide) (.inl rfl) (Nat.zero_le _) k
 have hlen:=A41 T.rows ⟨M,S,[],1,1⟩ rfl k
 have hzk:=hz.run hm1 k (by omega)
 refine B7 (fun hlt=>?_) (fun hge=>?_)
 ·have hkc:k<c:=by omega
  have hkT:k<T.cols:=by omega
  have ew:B4 ((k:Int)+1)=((k+1:Nat):Int):=by rw [B6]<;>omega
  have hst:Ce T.rows ⟨M,S,[],1,1⟩ (k+1)=Ed T.rows k (Ce T.rows ⟨M,S,[],1,1⟩ k):=rfl
  have hpow:3^(Ce T.rows ⟨M,S,[],1,1⟩ k).cs.length*m<=3^c*m:=Nat.mul_le_mul_right _ (Nat.pow_le_pow_right (by decide) (by omega))
  have hpos:=Ws (Ce T.rows ⟨M,S,[],1,1⟩ k).cs.length m hm1
  generalize hst0:Ce T.rows ⟨M,S,[],1,1⟩ k=st at *
  have hrow:fnd (fun i=>decide (st.M i k≠0)) (T.rows-st.cs.length) st.cs.length=Ms T.rows k st:=rfl
  have hrp:=A2e T.rows k st hrl.2.2
  refine A0n t2 hrl.2.2 hkT (fun hf=>?_) (fun hf=>?_)
  ·rw [hrow] at hf ⊢
   have hstep:Ed T.rows k st={ M:=clr (fun i=>st.M (xch st.cs.length (Ms T.rows k st) i)) st.cs.length k st.last,S:=fun i=>st.S (xch st.cs.length (Ms T.rows k st) i),cs:=st.cs++[k],last:=st.M (Ms T.rows k st) k,sgn:=if Ms T.rows k st=st.cs.length then st.sgn else-st.sgn }:=by unfold Ed;rw [if_pos hf]
   generalize hr:Ms T.rows k st=r at *
   have hrk:st.cs.length<T.rows:=by omega
   refine ⟨_,_,rfl,fun L hq=>∃ (g3 o3:Heap),L=[I (if r=st.cs.length then st.sgn else-st.sgn)]/\g2.le g3/\Tab hq g3 o3 T (fun i=>st.M (xch st.cs.length r i)) (fun i=>st.S (xch st.cs.length r i))/\∀ b,b≠T.bE->b≠T.bS->o3 b=o2 b,?_,?_⟩
   ·refine L8 (fun hne=>?_) (fun heq=>?_)
    ·have hne':r≠st.cs.length:=by omega
     refine Zs t2 hrk hf (fun e=>hne' e.symm) ?_
     intro h3 o3 t3 ho3
     refine ⟨rfl,g2,o3,?_,B3 _,t3,ho3⟩
     rw [if_neg hne']
     have:B4 (0-st.sgn)= - st.sgn:=by rw [B6]<;>omega
     rw [this]
    ·have heq':r=st.cs.length:=by omega
     refine ⟨g2,o2,by rw [if_pos heq'],B3 _,t2.congr (fun i j _ _=>?_) (fun i _=>?_),fun _ _ _=>rfl⟩
     ·rw [heq'];unfold xch;grind
     ·rw [heq'];unfold xch;grind
   ·rintro sg1 h4 ⟨g3,o3,eL3,l3,t3,ho3⟩
    obtain rfl:sg1=if r=st.cs.length then st.sgn else-st.sgn:=by simpa using eL3
    refine ⟨_,rfl,_,_,_,t3.c2,?_⟩
    have xk:xch st.cs.length r st.cs.length=r:=He _ _
    have hxn:∀ i,i<T.rows->xch st.cs.length r i<T.rows:=fun i hi=>Fu hrk hf hi
    refine ⟨fun L hq=>∃ (i:Nat) (g4 o4:Heap),i<=T.rows/\L=[I i]/\g3.le g4/\Tab hq g4 o4 T (fun a b=>if a<i/\a≠st.cs.length then clr (fun i=>st.M (xch st.cs.length r i)) st.cs.length k st.last a b else st.M (xch st.cs.length r a) b) (fun i=>st.S (xch st.cs.length r i))/\∀ b,b≠T.bE->o4 b=o3 b,fun L _=>T.rows-(iAt L 0).toNat,⟨0,g3,o3,by omega,rfl,B3 _,t3.congr (fun a b _ _=>by rw [if_neg (by omega)]) (fun _ _=>rfl),fun _ _=>rfl⟩,?_⟩
    rintro zi h5 ⟨i,g4,o4,hi,eL4,l4,t4,ho4⟩
    obtain rfl:zi=(i:Int):=by simpa using eL4
    have ewi:B4 ((i:Int)+1)=((i+1:Nat):Int):=by rw [B6]<;>omega
    refine B7 (fun hilt=>?_) (fun hige=>?_)
    ·have hin:i<T.rows:=by omega
     refine L8 (fun hne=>?_) (fun heq=>?_)
     ·have hne':i≠st.cs.length:=by omega
      refine Vg (m:=3^st.cs.length*m) t4 hin hrk hne' hkT (Rf _ _ _ _ (A0 l3 l4) iw) hrl.1 hpos (by omega) (fun b hb=>?_) (fun b hb=>?_) hzk.last ?_
      ·rw [if_neg (by omega)];exact hzk.M _ b (hxn i hin) hb
      ·rw [if_neg (by omega),xk];exact hzk.M r b hf hb
      intro h6 g6 o6 l6 t6 ho6
      refine ⟨rfl,?_⟩
      rw [ewi]
      refine ⟨⟨i+1,g6,o6,by omega,rfl,A0 l4 l6,t6.congr (fun a b _ _=>?_) (fun _ _=>rfl),fun b hb=>by rw [ho6 b hb,ho4 b hb]⟩,by simp only [Fd];omega⟩
      show (if a=i then ((if st.cs.length<i/\st.cs.length≠st.cs.length then _ else st.M (xch st.cs.length r st.cs.length) k)*(if i<i/\i≠st.cs.length then _ else st.M (xch st.cs.length r i) b)-(if i<i/\i≠st.cs.length then _ else st.M (xch st.cs.length r i) k)*(if st.cs.length<i/\st.cs.length≠st.cs.length then _ else st.M (xch st.cs.length r st.cs.length) b)).tdiv st.last else if a<i/\a≠st.cs.length then clr (fun i=>st.M (xch st.cs.length r i)) st.cs.length k st.last a b else st.M (xch st.cs.length r a) b)=if a<i+1/\a≠st.cs.length then clr (fun i=>st.M (xch st.cs.length r i)) st.cs.length k st.last a b else st.M (xch st.cs.length r a) b
      rw [if_neg (show ¬ (st.cs.length<i/\st.cs.length≠st.cs.length) by omega),if_neg (show ¬ (i<i/\i≠st.cs.length) by omega),if_neg (show ¬ (i<i/\i≠st.cs.length) by omega),if_neg (show ¬ (st.cs.length<i/\st.cs.length≠st.cs.length) by omega)]
      by_cases ea:a=i
      ·subst ea
       rw [if_pos rfl,if_pos ⟨by omega,hne'⟩]
       unfold clr
       rw [if_neg hne']
      ·rw [if_neg ea]
       by_cases h7:a<i/\a≠st.cs.length
       ·rw [if_pos h7,if_pos ⟨by omega,h7.2⟩]
       ·rw [if_neg h7,if_neg (by omega)]
     ·have heq':i=st.cs.length:=by omega
      rw [ewi]
      refine ⟨⟨i+1,g4,o4,by omega,rfl,l4,t4.congr (fun a b _ _=>?_) (fun _ _=>rfl),ho4⟩,by simp only [Fd];omega⟩
      by_cases h7:a<i/\a≠st.cs.length
      ·rw [if_pos h7,if_pos ⟨by omega,h7.2⟩]
      ·rw [if_neg h7,if_neg (by omega)]
    ·have hie:i=T.rows:=by omega
     subst hie
     have tF:Tab h5 g4 o4 T (clr (fun i=>st.M (xch st.cs.length r i)) st.cs.length k st.last) (fun i=>st.S (xch st.cs.length r i)):=t4.congr (fun a b ha _=>by
      by_cases h7:a=st.cs.length
      ·rw [if_neg (by omega),h7];unfold clr;rw [if_pos rfl]
      ·rw [if_pos ⟨ha,h7⟩]) (fun _ _=>rfl)
     refine Ao tF hrk ⟨_,_,_,rfl,_,rfl,by omega,by omega,?_⟩
     obtain ⟨wl,zl,d0,d1⟩:=tF.at hrk hkT
     have hzl:ZIr g4 wl (st.M r k):=by
      have:clr (fun i=>st.M (xch st.cs.length r i)) st.cs.length k st.last st.cs.length k=st.M r k:=by unfold clr;rw [if_pos rfl];show st.M (xch st.cs.length r st.cs.length) k=_;rw [xk]
      rw [this] at zl;exact zl
     refine ⟨_,_,_,_,d0,d1,?_⟩
     have hkeep:∀ b,b≠T.bE->b≠T.bS->o4 b=o2 b:=fun b h1 h2=>by rw [ho4 b h1,ho3 b h1 h2]
     have ow4:OwnSl o4 E4 pA pc (zs st.cs):=ow.keep fun b x hA hb=>by
      rw [hkeep b (fun e=>ap.2.1 (by rw [<- e];exact hA)) (fun e=>ap.2.2 (by rw [<- e];exact hA))];exact hb
     have hzl0:(zs st.cs).length=st.cs.length:=by simp
     refine V6 (ty:=Cg) A7m tF.sep ow4 (by simp) (y:=((k:Nat):Int)) rfl (by decide) (by rw [hzl0];omega) (by rw [hzl0];omega) ?_
     intro A' c' h' g' o' lg' s' ow' ho'
     obtain ⟨⟨x1,hx1⟩,⟨x2,hx2⟩,⟨x3,hx3⟩⟩:=tF.own
     have t':=tF.keep s' lg' (fun kk x e hkk=>by
      rcases hkk with rfl|rfl|rfl
      ·exact (ho' _ _ e ap.1).1
      ·exact (ho' _ _ e ap.2.1).1
      ·exact (ho' _ _ e ap.2.2).1)
     rw [hzl0,ew]
     have elen:(st.cs++[k]).length=st.cs.length+1:=by simp
     refine ⟨⟨k+1,g',o',A',c',wl,by omega,?_,A0 lg (A0 l3 (A0 l4 lg')),?_⟩,?_⟩
     ·rw [hst,hstep,elen]
     ·rw [hst,hstep]
      refine ⟨t',by simpa [zs] using ow',⟨(ho' _ _ hx1 ap.1).2,(ho' _ _ hx2 ap.2.1).2,(ho' _ _ hx3 ap.2.2).2⟩,fun kk x e h1 h2=>?_,Rf _ _ _ _ lg' hzl⟩
      obtain ⟨e2,hA2⟩:=ko kk x e h1 h2
      exact ho' kk x (by rw [hkeep kk h1 h2];exact e2) hA2
     ·show c-((k+1:Nat):Int).toNat<c-((k:Nat):Int).toNat
      omega
  ·rw [hrow] at hf
   have hstep:Ed T.rows k st=st:=by unfold Ed;rw [if_neg (by omega)]
   refine ⟨_,_,rfl,?_⟩
   rw [ew]
   refine ⟨⟨k+1,g2,o2,pA,pc,w,by omega,by rw [hst,hstep],lg,?_⟩,?_⟩
   ·rw [hst,hstep];exact ⟨t2,ow,ap,ko,iw⟩
   ·show c-((k+1:Nat):Int).toNat<c-((k:Nat):Int).toNat
    omega
 ·have:k=c:=by omega
  subst this
  exact hK hp g2 o2 pA pc w lg t2 ow ap ko iw
end
section
variable {h:Heap} {K:Value->Heap->Prop} {A B:Option Addr} {n c n' c' m:Nat} {s s':Bool} {x y:Int}
theorem B5o:RQ h ⟨false,none,0,0,false,none,0,0⟩ 0:=⟨ZI.zero,ZI.zero⟩
theorem Wn{z:Int}(i:ZI h s A n c z):RQ h ⟨s,A,n,c,false,none,0,0⟩ (z:Rat):=⟨by simpa using i,by simpa using ZI.zero⟩
theorem Q3(gl:Gtz h)(ix:ZI h s A n c x)(iy:ZI h s' B n' c' y)(hx:ZB m x)(hy:ZB m y)(hm:m<=6400000000)(hK:∀ w h',h.le h'->RQ h' w (Rat.divInt x y)->K w.v h'):FCall Tryz.prog O6 #[.agg #[.bool s,.slice A n c],.agg #[.bool s',.slice B n' c']] h K:=by
 refine A1f _ _ _ _ _ _ _ _ ?_
 unfold A1g
 refine ⟨fun L hp=>hp=h/\((L=[.bool true]/\Rat.divInt x y=0)\/(L=[.bool false]/\y≠0)),?_,?_⟩
 ·refine G9 iy ⟨_,rfl,B7 (fun e=>⟨rfl,.inl ⟨rfl,by rw [e];exact Rat.divInt_zero x⟩⟩) (fun e=>G9 ix ⟨_,rfl,rfl,?_⟩)⟩
  by_cases e2:x=0
  ·exact .inl ⟨by rw [decide_eq_true e2],by rw [e2];exact Rat.zero_divInt y⟩
  ·exact .inr ⟨by rw [decide_eq_false e2],e⟩
 rintro t hp ⟨rfl,hL⟩
 refine Br.of (fun e=>?_) (fun e=>?_)
 ·rcases hL with ⟨_,h0⟩|⟨h1,_⟩
  ·rw [h0] at hK
   exact hK _ _ (B3 _) B5o
  ·simp at h1;rw [e] at h1;cases h1
 have hy0:y≠0:=by
  rcases hL with ⟨h1,_⟩|⟨_,h0⟩
  ·simp at h1;rw [e] at h1;cases h1
  ·exact h0
 refine ⟨fun l hq=>∃ s A n c s' B n' c' x' y',l=[.bool s,.slice A n c,.bool s',.slice B n' c']/\hp.le hq/\ZI hq s A n c x'/\ZI hq s' B n' c' y'/\0<y'/\Rat.divInt x' y'=Rat.divInt x y/\ZB m x'/\ZB m y',?_,?_⟩
 ·refine Ul iy ⟨_,rfl,B7 (fun e=>?_) (fun e=>?_)⟩
  ·have hneg:y<0:=by rwa [Int.sign_neg_iff] at e
   refine Bj ix ?_
   intro s1 i1
   refine ⟨_,_,_,_,rfl,B3 _,?_⟩
   refine Bj iy ?_
   intro s2 i2
   exact ⟨_,_,_,_,rfl,B3 _,_,_,_,_,_,_,_,_,-x,-y,rfl,B3 _,i1,i2,by omega,Rat.neg_divInt_neg x y,hx.neg,hy.neg⟩
  ·have hpos:0<y:=by rw [Int.sign_neg_iff] at e;omega
   exact ⟨_,_,_,_,_,_,_,_,x,y,rfl,B3 _,ix,iy,hpos,rfl,hx,hy⟩
 rintro s1 A1 n1 c1 s2 A2 n2 c2 hp2 ⟨s1',A1',n1',c1',s2',A2',n2',c2',x',y',hl,hle,i1,i2,hpos,hq,hx',hy'⟩
 obtain ⟨rfl,⟨rfl,rfl,rfl⟩,rfl,rfl,rfl,rfl⟩:s1=s1'/\(A1=A1'/\n1=n1'/\c1=c1')/\s2=s2'/\A2=A2'/\n2=n2'/\c2=c2':=by simpa using hl
 rw [<- hq] at hK
 refine U2 i2 ⟨_,rfl,B7 (fun e1=>?_) (fun e1=>?_)⟩
 ·rw [e1,Hx] at hK
  exact hK _ _ hle (Wn i1)
 refine Jr (gl.mono hle) i1 i2 hx' hy' hm ?_
 intro A3 n3 c3 h3 l3 i3
 refine ⟨_,_,_,_,rfl,?_⟩
 generalize hqq:Rat.divInt x' y'=q at *
 have hnum:q.num=x'/(Int.gcd x' y':Int):=by
  rw [<- hqq,Rat.num_divInt,Int.sign_eq_one_of_pos hpos,Int.one_mul,Int.gcd_comm]
 have hden:(q.den:Int)=y'/(Int.gcd x' y':Int):=by
  rw [<- hqq,Rat.den_divInt,if_neg (by omega),Int.gcd_comm,Int.natCast_ediv,Int.natAbs_of_nonneg (by omega)]
 have hg1:0<Int.gcd x' y':=Int.gcd_pos_of_ne_zero_right x' (by omega)
 have hgm:ZB m (Int.gcd x' y':Int):=ZB.gcd (by omega) hy'
 refine U2 i3 ⟨_,rfl,Dx (B7 (fun e2=>?_) (fun e2=>?_))⟩
 ·rw [e2] at hnum hden
  simp at hnum hden
  refine Bs (q:=q) (i1.mono l3) (i2.mono l3) hnum hden ?_
  intro w iw
  exact ⟨_,_,_,_,_,_,_,_,rfl,hK _ _ (A0 hle l3) iw⟩
 ·refine Bi (i1.mono l3) i3 hx' hgm hm (by omega) ?_
  intro s4 A4 n4 c4 h4 l4 i4
  refine ⟨_,_,_,_,rfl,l4,?_⟩
  refine Bi ((i2.mono l3).mono l4) (i3.mono l4) hy' hgm hm (by omega) ?_
  intro s5 A5 n5 c5 h5 l5 i5
  refine ⟨_,_,_,_,rfl,l5,?_⟩
  refine Bs (q:=q) (i4.mono l5) i5 (by rw [hnum,Int.tdiv_eq_ediv_of_dvd (Int.gcd_dvd_left x' y')]) (by rw [hden,Int.tdiv_eq_ediv_of_dvd (Int.gcd_dvd_right x' y')]) ?_
  intro w iw
  exact ⟨_,_,_,_,_,_,_,_,rfl,hK _ _ (A0 hle (A0 l3 (A0 l4 l5))) iw⟩
end
section
variable {α:Type} [E:Enc α]
theorem OwnSl.store{P:Program}{t e:TypeId}(one:P.cellsOf t=E.default.size/\(P.info? t).isSome=true){v:Value}{y:α}(hv:v.cells=(enc y).toArray){h g o:Heap}{A:Option Addr}{c:Nat}{xs:List α}(s:Sep h g o)(w:OwnSl o e A c xs){i b:Nat}(hi:i<xs.length)(hA:A=some ⟨b,0,none⟩){K:Unit->Heap->Prop}
 (x:∀ h' o',Sep h' g o'->OwnSl o' e A c (xs.set i y)->(∀ k,k≠b->o' k=o k)->K () h'):wpH P (Instr.storeAt t (.pointer (some (Addr.add ⟨b,0,none⟩ (i*E.default.size)))) v) K h:=by
 rcases w.2 with ⟨h0,_⟩|⟨b',arr,hA',hb,h1,h2⟩
 ·exfalso;have:=w.1;omega
 ·rw [hA] at hA'
  simp only [Option.some.injEq,Addr.mk.injEq,and_true] at hA'
  subst hA'
  obtain ⟨ex,hex⟩:∃ ex,arr=xs.flatMap enc++ex:=⟨arr.drop (xs.length*E.default.size),by rw [<- h2,List.take_append_drop]⟩
  rw [hex] at hb h1
  obtain ⟨ti,hti⟩:=Option.isSome_iff_exists.1 one.2
  have hs:ti.size=E.default.size:=by simpa [Program.cellsOf,hti] using one.1
  have hl:=E.default.len y
  have hle:(i+1)*E.default.size<=xs.length*E.default.size:=Nat.mul_le_mul_right _ hi
  rw [Nat.add_mul,Nat.one_mul] at hle
  have hput:(h.without b).put b (.cells (xs.flatMap enc++ex).toArray e)=h:=N6 (s.own b _ hb)
  unfold Instr.storeAt
  simp only [C7,Instr.sureAddr,F9,storeVar,K9 hti,hs,hv,List.size_toArray,hl,ne_eq,not_true_eq_false,if_false]
  rw [D8,Nat.zero_add,<- hput]
  refine J1 (enc y) (i*E.default.size) 0 _ (by rw [List.length_append,J8,hl];omega) (E.default.one y) ?_
  have hsp:L0 (xs.flatMap enc++ex) (i*E.default.size+0) (enc y)=(xs.set i y).flatMap enc++ex:=by
   rw [Nat.add_zero,<- Xc xs hi]
   unfold L0
   rw [List.take_append_of_le_length (by rw [J8];omega),List.drop_append_of_le_length (by rw [J8,hl];omega),List.append_assoc,List.append_assoc,List.append_assoc]
  rw [hsp]
  have hp2:(h.without b).put b (.cells ((xs.set i y).flatMap enc++ex).toArray e)=h.put b (.cells ((xs.set i y).flatMap enc++ex).toArray e):=by
   rw [<- hput,Pg,hput]
  rw [hp2]
  refine x _ _ (s.upd hb _) ⟨by simpa using w.1,.inr ⟨b,(xs.set i y).flatMap enc++ex,hA,B9 _ _ _,?_,?_⟩⟩ (fun k hk=>B5 _ _ hk)
  ·rw [List.length_append,J8] at h1 ⊢
   simpa using h1
  ·rw [List.take_append_of_le_length (by rw [J8];omega),List.take_of_length_le (by rw [J8];omega)]
end
section
variable {h g:Heap} {K:Value->Heap->Prop} {A:Option Addr} {n c cols:Nat}
def B0r(h:Heap)(v:Value)(A:Option Addr)(n c cols:Nat):Prop:=∃ f0 f1:Addr,v= .func (.func Gi) #[] #[.pointer (some f0),.pointer (some f1)]/\h.cell? f0=some (.slice A n c)/\h.cell? f1=some (I (cols:Int))
theorem A63(hc:1<=cols)(hK:∀ v h',h.le h'->B0r h' v A n c cols->K v h'):FCall Tryz.prog Xr #[.slice A n c,I (cols:Int)] h K:=by
 refine B0m _ _ _ _ ?_
 unfold B52
 refine A34 ?_
 intro b hb
 refine ⟨_,rfl,A34 ?_⟩
 intro b2 hb2
 have c1:Heap.cell? ((h.put b (.cells (Value.cells (.slice A n c)) 87)).put b2 (.cells (Value.cells (I (cols:Int))) 3)) ⟨b2,0,none⟩=some (I (cols:Int)):=by rw [E6];rfl
 refine ⟨_,rfl,_,c1,B7 (fun e=>by omega) (fun _=>hK _ _ (A0 (Heap.le_put _ hb) (Heap.le_put _ hb2)) ⟨⟨b,0,none⟩,⟨b2,0,none⟩,rfl,?_,c1⟩)⟩
 refine C6 (Heap.le_put _ hb2) ?_
 rw [E6];rfl
theorem A2m{g0:Heap}{v:Value}{rows:Nat}(ic:B0r g0 v A (rows*cols) c cols)(hc:1<=cols)(hn:rows*cols<=1000000000)(hcap:rows*cols<=c){B:List Value->Heap->(Heap->Prop)->Prop}{K:Heap->Prop}(J:Nat->Heap->Prop)(h0:J 0 h)(hle:∀ k h,J k h->g0.le h)
 (hB:∀ k h1,k<rows->J k h1->B [.slice (I8 A ((k+1)*cols) (k*cols) 4) cols cols] h1 (J (k+1))) (hK:∀ h1,J rows h1->K h1):A4y Tryz.prog v h B K:=by
 obtain ⟨f0,f1,rfl,e0,e1⟩:=ic
 refine ⟨Gi,#[],#[.pointer (some f0),.pointer (some f1)],rfl,Yw,?_⟩
 intro l rec hl hround
 have ea:(#[] ++ #[.func (.yield l) #[] #[]] ++ #[.pointer (some f0),.pointer (some f1)]:Array Value)=#[.func (.yield l) #[] #[],.pointer (some f0),.pointer (some f1)]:=by simp
 rw [ea]
 refine A6s l f0 f1 ?_
 unfold B0n
 refine ⟨fun L hp=>∃ (k:Nat) (h1:Heap),k<=rows/\L=[I ((k*cols:Nat):Int)]/\h1 l=none/\hp=h1.put l (.loop rec)/\J k h1,fun L _=>rows*cols-(iAt L 0).toNat,⟨0,h,by omega,by simp,hl,rfl,h0⟩,?_⟩
 rintro i hp ⟨k,h1,hk,eL,hl1,rfl,hJ⟩
 obtain rfl:i=((k*cols:Nat):Int):=by simpa using eL
 have lg:=A0 (hle k h1 hJ) (Heap.le_put (.loop rec) hl1)
 have d0:=C6 lg e0
 have d1:=C6 lg e1
 refine ⟨_,_,_,d0,B7 (fun hlt=>?_) (fun hge=>?_)⟩
 ·have hkr:k<rows:=by
   by_cases hx:k<rows
   ·exact hx
   ·exfalso
    have:rows*cols<=k*cols:=Nat.mul_le_mul_right _ (by omega)
    omega
  have h2:(k+1)*cols<=rows*cols:=Nat.mul_le_mul_right _ hkr
  have h3:(k+1)*cols=k*cols+cols:=by rw [Nat.add_mul,Nat.one_mul]
  have em:(if ((rows*cols-(((k*cols:Nat):Int)).toNat:Nat):Int)<(cols:Int) then ((rows*cols-(((k*cols:Nat):Int)).toNat:Nat):Int) else (cols:Int))=(cols:Int):=by
   rw [if_neg (by simp only [Int.toNat_natCast];omega)]
  have ew:B4 (((k*cols:Nat):Int)+(cols:Int))=(((k+1)*cols:Nat):Int):=by rw [B6]<;>omega
  refine ⟨_,d1,_,_,_,d0,⟨by omega,by omega⟩,_,_,_,d0,?_⟩
  rw [em,ew]
  simp only [Int.toNat_natCast]
  have e5:(k+1)*cols-k*cols=cols:=by omega
  rw [e5]
  refine ⟨⟨by omega,by omega⟩,⟨by omega,by omega⟩,⟨by omega,by omega⟩,?_⟩
  refine (hround _ h1 (J (k+1)) hl1 (hB k h1 hkr hJ)).mono ?_
  rintro r h4 ⟨rfl,h5,hl5,rfl,hJ5⟩
  refine ⟨_,rfl,?_⟩
  show ∃ (t11:Int),_
  have lg5:=A0 (hle _ h5 hJ5) (Heap.le_put (.loop rec) hl5)
  refine ⟨_,C6 lg5 e1,?_⟩
  rw [ew]
  exact ⟨⟨k+1,h5,by omega,rfl,hl5,rfl,hJ5⟩,by simp only [Fd];omega⟩
 ·have hke:k=rows:=by
   by_cases hx:k=rows
   ·exact hx
   ·exfalso
    have:(k+1)*cols<=rows*cols:=Nat.mul_le_mul_right _ (by omega)
    rw [Nat.add_mul,Nat.one_mul] at this
    omega
  subst hke
  exact ⟨h1,hl1,rfl,hK h1 hJ⟩
end
section
variable {α:Type} [E:Enc α]
theorem Ti{P:Program}{t e:TypeId}{z:Value}{bytes:Nat}(st:SliceT P t e z E.default.size bytes){h g o:Heap}{A:Option Addr}{c:Nat}{xs:List α}(s:Sep h g o)(w:OwnSl o e A c xs){v:Value}{y:α}(hv:v.cells=(enc y).toArray)(hsz:E.default.size<=1000)
 (hb:(2*(xs.length+1)+192)*bytes<=281474976710656) (hn:xs.length+1<=9223372036854775807) {K:Value->Heap->Prop}
 (x0:∀ B m d hp,h.le hp->(∀ {ty:TypeId} {K2:Value->Heap->Prop},(∀ A' c' h' g' o',g.le g'->Sep h' g' o'->OwnSl o' e A' c' (xs++[y])->(∀ k u,o k=some u->A≠some ⟨k,0,none⟩->o' k=some u/\A'≠some ⟨k,0,none⟩)->K2 (.slice A' (xs.length+1) c') h')->wpH P (Builtin.append_ #[t,t] ty #[.slice A xs.length c,.slice B m d]) K2 hp)->K (.slice B m d) hp):
 wpH P (Instr.buildSlice t 1 #[(0,v)]) K h:=by
 obtain ⟨gb,p,hkeep⟩:=w.priv s
 refine Rh st (vs:=[v]) (fun u hu=>by rw [List.mem_singleton.1 hu,hv];simp [E.default.len]) rfl (by simp;omega) rfl ?_
 intro b hfree
 have hfl:[v].flatMap (fun v=>v.cells.toList)=[y].flatMap enc:=by simp [hv]
 rw [hfl]
 refine x0 _ _ _ _ (Heap.le_put _ hfree) (fun {ty K2} x=>?_)
 have p':PrivF (h.put b (.cells ([y].flatMap enc).toArray e)) (gb.put b (.cells ([y].flatMap enc).toArray e)) e A c xs:=Priv.put p hfree _
 refine Ia st p' (ys:=[y]) rfl (A37 e h b [y]) hb hn ?_
 intro A' c' h' g' hg hp
 rw [List.length_append]
 have hgk:∀ k u,h k=some u->A≠some ⟨k,0,none⟩->g' k=some u:=by
  intro k u e1 hne
  have hkb:k≠b:=by rintro rfl;rw [hfree] at e1;cases e1
  exact hg k u (by rw [B5 _ _ hkb];exact hkeep k u e1 hne)
 have hnA:∀ k u,g k=some u->A≠some ⟨k,0,none⟩:=by
  intro k u e1 hA
  rcases w.2 with ⟨_,h0⟩|⟨b',arr,hA',hb',_⟩
  ·rw [hA] at h0;cases h0
  ·rw [hA] at hA'
   simp only [Option.some.injEq,Addr.mk.injEq,and_true] at hA'
   subst hA'
   rw [s.dis k _ hb'] at e1;cases e1
 rcases hp.2.2 with ⟨hc0,_⟩|⟨b',arr,hA',hb',hh',ha,ht⟩
 ·exfalso
  have:=hp.2.1
  rw [List.length_append] at this
  simp at this
  omega
 ·subst hA'
  let o':Heap:=fun k=>if k=b' then some (.cells (List.toArray arr) e) else if A=some ⟨k,0,none⟩ then none else o k
  have ob:o' b'=some (.cells (List.toArray arr) e):=by show (if b'=b' then _ else _)=_;rw [if_pos rfl]
  have ok:∀ k,k≠b'->A≠some ⟨k,0,none⟩->o' k=o k:=fun k h1 h2=>by show (if k=b' then _ else if _ then _ else _)=_;rw [if_neg h1,if_neg h2]
  have ono:∀ k,k≠b'->A=some ⟨k,0,none⟩->o' k=none:=fun k h1 h2=>by show (if k=b' then _ else if _ then _ else _)=_;rw [if_neg h1,if_pos h2]
  let g2:Heap:=fun k=>match o' k with|some _=>none|none=>h' k
  have gs:∀ k u,o' k=some u->g2 k=none:=fun k u e1=>by show (match o' k with|some _=>none|none=>h' k)=_;rw [e1]
  have gn:∀ k,o' k=none->g2 k=h' k:=fun k e1=>by show (match o' k with|some _=>none|none=>h' k)=_;rw [e1]
  have hput:∀ k u,k≠b'->g' k=some u->h' k=some u:=fun k u h1 e1=>by rw [hh',B5 _ _ h1];exact e1
  have hown:∀ k u,o k=some u->A≠some ⟨k,0,none⟩->k≠b':=by
   rintro k u e1 h2 rfl
   have:=hgk k u (s.own k u e1) h2
   rw [hb'] at this;cases this
  refine x _ c' h' g2 o' (fun k u e1=>?_) ⟨fun k u e1=>?_,fun k e1=>(gn k e1).symm,gs⟩ ⟨hp.2.1,.inr ⟨b',arr,rfl,ob,ha,ht⟩⟩ (fun k u e1 h2=>?_)
  ·have hk0:o k=none:=by
    cases ho:o k with
    | none=>rfl
    | some y=>rw [s.dis k y ho] at e1;cases e1
   have hA:=hnA k u e1
   have e3:=hgk k u (s.le k u e1) hA
   have hkb':k≠b':=by rintro rfl;rw [hb'] at e3;cases e3
   rw [gn k (by rw [ok k hkb' hA];exact hk0)]
   exact hput k u hkb' e3
  ·by_cases hkb:k=b'
   ·subst hkb
    rw [ob] at e1;cases e1
    rw [hh',B9]
   ·by_cases hA:A=some ⟨k,0,none⟩
    ·rw [ono k hkb hA] at e1;cases e1
    ·rw [ok k hkb hA] at e1
     exact hput k u hkb (hgk k u (s.own k u e1) hA)
  ·have hkb:=hown k u e1 h2
   refine ⟨by rw [ok k hkb h2];exact e1,fun h3=>hkb ?_⟩
   simp only [Option.some.injEq,Addr.mk.injEq,and_true] at h3
   exact h3.symm
end
theorem A4x{P:Program}{t:TypeId}(one:P.cellsOf t=1/\(P.info? t).isSome=true){v:Value}(hv:A49 v=true)(hc:v.cells=#[v]){h g o:Heap}(s:Sep h g o){b:Nat}{cs:Array Value}{e:TypeId}(hb:o b=some (.cells cs e)){i:Nat}(hi:i<cs.size){K:Unit->Heap->Prop}
 (x:∀ h' o',Sep h' g o'->o'=o.put b (.cells (cs.setIfInBounds i v) e)->K () h'):wpH P (Instr.storeAt t (.pointer (some (Addr.add ⟨b,0,none⟩ i))) v) K h:=by
 rw [D8,Nat.zero_add]
 have hput:h.put b (.cells cs e)=h:=Yx (s.own b _ hb)
 rw [<- hput]
 refine Df one.1 one.2 hv hc hi ?_
 exact x _ _ (s.upd hb _) rfl
structure NT (o:Heap) (bp bt cols:Nat) (es:List IV) (ss:List QV) (A:Option Addr) (c:Nat) (A':Option Addr) (c':Nat):Prop where
 hp:∃ e,o bp=some (.cells #[.pointer (some ⟨bt,0,none⟩)] e)
 ht:∃ e,o bt=some (.cells #[I (cols:Int),.slice A es.length c,.slice A' ss.length c'] e)
 oe:OwnSl o Jx A c es
 os:OwnSl o I3 A' c' ss
 ne:bp≠bt
 a1:A≠some ⟨bp,0,none⟩/\A≠some ⟨bt,0,none⟩
 a2:A'≠some ⟨bp,0,none⟩/\A'≠some ⟨bt,0,none⟩
 a3:∀ b,A=some ⟨b,0,none⟩->A'≠some ⟨b,0,none⟩
section
variable {h g o:Heap} {bp bt cols:Nat} {es:List IV} {ss:List QV} {A A':Option Addr} {c c':Nat}
theorem NT.cp(n:NT o bp bt cols es ss A c A' c')(s:Sep h g o):h.cell? ⟨bp,0,none⟩=some (.pointer (some ⟨bt,0,none⟩)):=by
 obtain ⟨e,he⟩:=n.hp
 refine s.cell ?_
 unfold Heap.cell?;simp only [he];rfl
theorem NT.c1(n:NT o bp bt cols es ss A c A' c')(s:Sep h g o):h.cell? (Addr.add ⟨bt,0,none⟩ 1)=some (.slice A es.length c):=by
 obtain ⟨e,he⟩:=n.ht
 refine s.cell ?_
 rw [D8];unfold Heap.cell?;simp only [he];rfl
theorem NT.c2(n:NT o bp bt cols es ss A c A' c')(s:Sep h g o):h.cell? (Addr.add ⟨bt,0,none⟩ 2)=some (.slice A' ss.length c'):=by
 obtain ⟨e,he⟩:=n.ht
 refine s.cell ?_
 rw [D8];unfold Heap.cell?;simp only [he];rfl
theorem B1t:Tryz.prog.cellsOf Ol=1/\(Tryz.prog.info? Ol).isSome=true:=by constructor<;>kernel_rfl
theorem B1s:Tryz.prog.cellsOf Bm=1/\(Tryz.prog.info? Bm).isSome=true:=by constructor<;>kernel_rfl
theorem NT.buildE(n:NT o bp bt cols es ss A c A' c')(s:Sep h g o)(w:IV)(hl:es.length<=100000000){F:Heap->Prop}(hF:∀ h' g' o' A2 c2,g.le g'->Sep h' g' o'->NT o' bp bt cols (es++[w]) ss A2 c2 A' c'->F h'){K:Value->Heap->Prop}
 (x:∀ B m d hp,h.le hp->hp.cell? ⟨bp,0,none⟩=some (.pointer (some ⟨bt,0,none⟩))->(∀ {K2:Value->Heap->Prop},(∀ A2 c2 h2,h2.cell? ⟨bp,0,none⟩=some (.pointer (some ⟨bt,0,none⟩))->wpH Tryz.prog (Instr.storeAt Ol (.pointer (some (Addr.add ⟨bt,0,none⟩ 1))) (.slice A2 (es.length+1) c2)) (fun _ h3=>F h3) h2->K2 (.slice A2 (es.length+1) c2) h2)->wpH Tryz.prog (Builtin.append_ #[Ol,Ol] Ol #[.slice A es.length c,.slice B m d]) K2 hp)->K (.slice B m d) hp):
 wpH Tryz.prog (Instr.buildSlice Ol 1 #[(0,w.v)]) K h:=by
 refine Ti tZs s n.oe (y:=w) rfl (by decide) (by omega) (by omega) ?_
 intro B m d hp lp happ
 refine x B m d hp lp (C6 lp (n.cp s)) (fun {K2} hk=>happ ?_)
 intro A2 c2 h2 g2 o2 lg s2 ow keep
 obtain ⟨e1,he1⟩:=n.hp
 obtain ⟨e2,he2⟩:=n.ht
 have k1:=keep bp _ he1 n.a1.1
 have k2:=keep bt _ he2 n.a1.2
 refine hk A2 c2 h2 ?_ ?_
 ·refine s2.cell ?_
  unfold Heap.cell?;simp only [k1.1];rfl
 ·refine A4x B1t rfl rfl s2 k2.1 (by simp) ?_
  intro h3 o3 s3 eo
  have ko:∀ k,k≠bt->o3 k=o2 k:=fun k hk=>by rw [eo,B5 _ _ hk]
  refine hF h3 g2 o3 A2 c2 lg s3 ⟨⟨e1,by rw [ko _ n.ne];exact k1.1⟩,⟨e2,by rw [eo,B9];simp⟩,ow.keep fun b y hb he=>by rw [ko b (fun e=>k2.2 (by rw [<- e];exact hb))];exact he,?_,n.ne,⟨k1.2,k2.2⟩,n.a2,?_⟩
  ·refine (n.os.keep (o':=o2) fun b y hb he=>(keep b y he (fun e=>n.a3 b e hb)).1).keep fun b y hb he=>by rw [ko b (fun e=>n.a2.2 (by rw [<- e];exact hb))];exact he
  ·intro b hb hb'
   rcases n.os.2 with ⟨_,h0⟩|⟨b',arr,hA',hbo,_⟩
   ·rw [h0] at hb';cases hb'
   ·rw [hA'] at hb'
    simp only [Option.some.injEq,Addr.mk.injEq,and_true] at hb'
    subst hb'
    exact (keep b' _ hbo (fun e=>n.a3 b' e hA')).2 hb
theorem NT.buildS(n:NT o bp bt cols es ss A c A' c')(s:Sep h g o)(w:QV)(hl:ss.length<=100000000){F:Heap->Prop}(hF:∀ h' g' o' A2 c2,g.le g'->Sep h' g' o'->NT o' bp bt cols es (ss++[w]) A c A2 c2->F h'){K:Value->Heap->Prop}
 (x:∀ B m d hp,h.le hp->hp.cell? ⟨bp,0,none⟩=some (.pointer (some ⟨bt,0,none⟩))->(∀ {K2:Value->Heap->Prop},(∀ A2 c2 h2,h2.cell? ⟨bp,0,none⟩=some (.pointer (some ⟨bt,0,none⟩))->wpH Tryz.prog (Instr.storeAt Bm (.pointer (some (Addr.add ⟨bt,0,none⟩ 2))) (.slice A2 (ss.length+1) c2)) (fun _ h3=>F h3) h2->K2 (.slice A2 (ss.length+1) c2) h2)->wpH Tryz.prog (Builtin.append_ #[Bm,Bm] Bm #[.slice A' ss.length c',.slice B m d]) K2 hp)->K (.slice B m d) hp):
 wpH Tryz.prog (Instr.buildSlice Bm 1 #[(0,w.v)]) K h:=by
 refine Ti A7l s n.os (y:=w) rfl (by decide) (by omega) (by omega) ?_
 intro B m d hp lp happ
 refine x B m d hp lp (C6 lp (n.cp s)) (fun {K2} hk=>happ ?_)
 intro A2 c2 h2 g2 o2 lg s2 ow keep
 obtain ⟨e1,he1⟩:=n.hp
 obtain ⟨e2,he2⟩:=n.ht
 have k1:=keep bp _ he1 n.a2.1
 have k2:=keep bt _ he2 n.a2.2
 refine hk A2 c2 h2 ?_ ?_
 ·refine s2.cell ?_
  unfold Heap.cell?;simp only [k1.1];rfl
 ·refine A4x B1s rfl rfl s2 k2.1 (by simp) ?_
  intro h3 o3 s3 eo
  have ko:∀ k,k≠bt->o3 k=o2 k:=fun k hk=>by rw [eo,B5 _ _ hk]
  refine hF h3 g2 o3 A2 c2 lg s3 ⟨⟨e1,by rw [ko _ n.ne];exact k1.1⟩,⟨e2,by rw [eo,B9];simp⟩,?_,ow.keep fun b y hb he=>by rw [ko b (fun e=>k2.2 (by rw [<- e];exact hb))];exact he,n.ne,n.a1,⟨k1.2,k2.2⟩,?_⟩
  ·refine (n.oe.keep (o':=o2) fun b y hb he=>(keep b y he (fun e=>n.a3 b hb e)).1).keep fun b y hb he=>by rw [ko b (fun e=>n.a1.2 (by rw [<- e];exact hb))];exact he
  ·intro b hb
   rcases n.oe.2 with ⟨_,h0⟩|⟨b',arr,hA,hbo,_⟩
   ·rw [h0] at hb;cases hb
   ·rw [hA] at hb
    simp only [Option.some.injEq,Addr.mk.injEq,and_true] at hb
    subst hb
    exact (keep b' _ hbo (fun e=>n.a3 b' hA e)).2
end
def A42(E:Nat->Rat)(cols i:Nat):Nat->Rat:=fun j=>E (i*cols+j)
def A7v(E:Nat->Rat)(cols i j:Nat):Int:=scl (A42 E cols i j) (Jq (A42 E cols i) cols:Int)
def B12(E:Nat->Rat)(cols i:Nat):Nat->Nat
 | 0=>0
 | j+1=>Int.gcd (B12 E cols i j:Int) (A7v E cols i j)
def Vf(E:Nat->Rat)(cols i:Nat):Nat:=if B12 E cols i cols=0 then 1 else B12 E cols i cols
def Zp(E:Nat->Rat)(cols i j:Nat):Int:=(A7v E cols i j).tdiv (Vf E cols i:Int)
def A5b(E:Nat->Rat)(cols i:Nat):Rat:=Rat.divInt (Jq (A42 E cols i) cols:Int) (Vf E cols i:Int)
theorem B2a(E:Nat->Rat)(cols i:Nat):∀ n j,j<n->(B12 E cols i n:Int)∣A7v E cols i j:=by
 intro n
 induction n with
 | zero=>intro j h;omega
 | succ n ih=>
  intro j hj
  by_cases e:j=n
  ·subst e;exact Int.gcd_dvd_right _ _
  ·exact Int.dvd_trans (Int.gcd_dvd_left _ _) (ih j (by omega))
theorem Qh(E:Nat->Rat)(cols i:Nat):0<Vf E cols i:=by unfold Vf;split<;>omega
theorem B2p(E:Nat->Rat)(cols i:Nat){j:Nat}(hj:j<cols):(Vf E cols i:Int)∣A7v E cols i j:=by
 unfold Vf
 split
 ·exact Int.one_dvd _
 ·exact B2a E cols i cols j hj
theorem B5i(E:Nat->Rat)(cols i:Nat){j:Nat}(hj:j<cols):(Zp E cols i j:Rat)=A5b E cols i*E (i*cols+j):=by
 have hc:=Qh E cols i
 have hc0:((Vf E cols i:Nat):Int)≠0:=by omega
 have h1:((Zp E cols i j:Int):Rat)*((Vf E cols i:Nat):Int)=E (i*cols+j)*((Jq (A42 E cols i) cols:Nat):Int):=by
  rw [<- Rat.intCast_mul]
  unfold Zp
  rw [Int.tdiv_mul_cancel (B2p E cols i hj)]
  exact B7n (by
   have:=B26 (A42 E cols i) cols j hj
   exact Int.natCast_dvd_natCast.2 this)
 have hne:=P7 hc0
 unfold A5b
 rw [Rat.divInt_eq_div]
 have h2:(((Jq (A42 E cols i) cols:Nat):Int):Rat)/(((Vf E cols i:Nat):Int):Rat)*E (i*cols+j)=E (i*cols+j)*(((Jq (A42 E cols i) cols:Nat):Int):Rat)/(((Vf E cols i:Nat):Int):Rat):=by
  rw [Rat.div_def,Rat.div_def];grind
 rw [h2,<- h1]
 generalize (((Vf E cols i:Nat):Int):Rat)=d at *
 rw [Rat.div_def]
 grind
theorem B1l(E:Nat->Rat)(cols i:Nat):0<A5b E cols i:=by
 unfold A5b
 rw [Rat.divInt_eq_div]
 have h1:(0:Rat)<((Jq (A42 E cols i) cols:Nat):Int):=by
  have:=B25 (A42 E cols i) cols
  exact_mod_cast this
 have h2:(0:Rat)<((Vf E cols i:Nat):Int):=by
  have:=Qh E cols i
  exact_mod_cast this
 rw [Rat.div_def]
 exact Rat.mul_pos h1 (Rat.inv_pos.2 h2)
theorem ZB.gcd2{k:Nat}{x y:Int}(hx:ZB k x)(hy:ZB k y):ZB k (Int.gcd x y:Int):=by
 by_cases h:y=0
 ·subst h
  rw [Int.gcd_zero_right]
  unfold ZB at *
  simpa using hx
 ·exact ZB.gcd h hy
section
variable {E:Nat->Rat} {cols i m:Nat}
theorem Wq(h:∀ j,j<cols->Sz m (E (i*cols+j))){j:Nat}(hj:j<cols):ZB (1+cols*m+m) (A7v E cols i j):=by
 have:=B7m (h j hj) (Wy (f:=A42 E cols i) cols h)
 exact this.mono (by omega)
theorem A8o(h:∀ j,j<cols->Sz m (E (i*cols+j))):∀ j,j<=cols->ZB (1+cols*m+m) (B12 E cols i j:Int):=by
 intro j
 induction j with
 | zero=>intro _;exact ZB.zero
 | succ j ih=>intro hj;exact (ih (by omega)).gcd2 (Wq h (by omega))
theorem Yh(h:∀ j,j<cols->Sz m (E (i*cols+j))):ZB (1+cols*m+m) (Vf E cols i:Int):=by
 unfold Vf
 split
 ·exact ZB.one (by omega)
 ·exact A8o h cols (Nat.le_refl _)
theorem B5h(h:∀ j,j<cols->Sz m (E (i*cols+j))){j:Nat}(hj:j<cols):ZB (1+cols*m+m) (Zp E cols i j):=(Wq h hj).tdiv
theorem A7i(h:∀ j,j<cols->Sz m (E (i*cols+j))):Sz (1+cols*m+m) (A5b E cols i):=by
 have:=Qh E cols i
 exact Z1 (by omega) ((Wy (f:=A42 E cols i) cols h).mono (by omega)) (Yh h)
end
structure EsOk (g:Heap) (E:Nat->Rat) (cols k:Nat) (es:List IV) (V:Nat->Int) (j:Nat):Prop where
 len:es.length=k*cols+j
 rows:∀ a b,a<k->b<cols->∃ w,es[a*cols+b]? = some w/\ZIr g w (Zp E cols a b)
 last:∀ b,b<j->∃ w,es[k*cols+b]? = some w/\ZIr g w (V b)
theorem EsOk.mono{g g':Heap}{E:Nat->Rat}{cols k j:Nat}{es:List IV}{V:Nat->Int}(e:EsOk g E cols k es V j)(l:g.le g'):EsOk g' E cols k es V j:=by
 refine ⟨e.len,fun a b h1 h2=>?_,fun b h1=>?_⟩
 ·obtain ⟨w,e1,hw⟩:=e.rows a b h1 h2;exact ⟨w,e1,Rf _ _ _ _ l hw⟩
 ·obtain ⟨w,e1,hw⟩:=e.last b h1;exact ⟨w,e1,Rf _ _ _ _ l hw⟩
theorem EsOk.push{g:Heap}{E:Nat->Rat}{cols k j:Nat}{es:List IV}{V:Nat->Int}(e:EsOk g E cols k es V j){w:IV}(hw:ZIr g w (V j)):EsOk g E cols k (es++[w]) V (j+1):=by
 have hl:=e.len
 refine ⟨by rw [List.length_append,e.len];rfl,fun a b h1 h2=>?_,fun b h1=>?_⟩
 ·obtain ⟨u,e1,hu⟩:=e.rows a b h1 h2
  have hlt:=U1 h1 h2
  exact ⟨u,by rw [List.getElem?_append_left (by omega)];exact e1,hu⟩
 ·by_cases eb:b=j
  ·subst eb
   exact ⟨w,by rw [List.getElem?_append_right (by omega),hl];simp,hw⟩
  ·obtain ⟨u,e1,hu⟩:=e.last b (by omega)
   exact ⟨u,by rw [List.getElem?_append_left (by omega)];exact e1,hu⟩
theorem EsOk.set{g:Heap}{E:Nat->Rat}{cols k:Nat}{es:List IV}{V:Nat->Int}(e:EsOk g E cols k es V cols){b:Nat}(hb:b<cols){w:IV}{z:Int}(hw:ZIr g w z):EsOk g E cols k (es.set (k*cols+b) w) (fun x=>if x=b then z else V x) cols:=by
 have hl:=e.len
 refine ⟨by simpa using hl,fun a b' h1 h2=>?_,fun b' h1=>?_⟩
 ·obtain ⟨u,e1,hu⟩:=e.rows a b' h1 h2
  have hlt:=U1 h1 h2
  exact ⟨u,by rw [List.getElem?_set_ne (by omega)];exact e1,hu⟩
 ·by_cases eb:b'=b
  ·subst eb
   exact ⟨w,by rw [List.getElem?_set_self (by omega)],by show ZIr g w (if b'=b' then z else V b');rw [if_pos rfl];exact hw⟩
  ·obtain ⟨u,e1,hu⟩:=e.last b' h1
   exact ⟨u,by rw [List.getElem?_set_ne (by omega)];exact e1,by show ZIr g u (if b'=b then z else V b');rw [if_neg eb];exact hu⟩
theorem EsOk.congr{g:Heap}{E:Nat->Rat}{cols k j:Nat}{es:List IV}{V V':Nat->Int}(e:EsOk g E cols k es V j)(h:∀ b,b<j->V b=V' b):EsOk g E cols k es V' j:=
 ⟨e.len,e.rows,fun b hb=>by rw [<- h b hb];exact e.last b hb⟩
theorem EsOk.next{g:Heap}{E:Nat->Rat}{cols k:Nat}{es:List IV}{V:Nat->Int}(e:EsOk g E cols k es V cols)(h:∀ b,b<cols->V b=Zp E cols k b)(V':Nat->Int):EsOk g E cols (k+1) es V' 0:=by
 refine ⟨by rw [e.len,Nat.add_mul,Nat.one_mul];rfl,fun a b h1 h2=>?_,fun b h1=>by omega⟩
 by_cases ea:a=k
 ·subst ea;rw [<- h b h2];exact e.last b h2
 ·exact e.rows a b (by omega) h2
section
variable {h g:Heap} {K:Value->Heap->Prop} {A:Option Addr} {n c rows cols m:Nat} {E:Nat->Rat}
theorem Ko(gl:Gl h)(r:RowV RQr h A (rows*cols) E)(hcap:rows*cols<=c)(hr:1<=rows)(hr2:rows<=10000)(hc:1<=cols)(hc2:cols<=10000)(hs:∀ i,i<rows*cols->Sz m (E i))(hm:1+cols*m+m<=6400000000)
 (hK:∀ h' g' o' T,h.le g'->Tab h' g' o' T (Zp E cols) (A5b E cols)->T.rows=rows->T.cols=cols->K (.pointer (some ⟨T.bt,0,none⟩)) h'):FCall Tryz.prog R5 #[.slice A (rows*cols) c,I (cols:Int)] h K:=by
 refine A1k _ _ _ _ ?_
 unfold A1l
 have hrc:rows*cols<=100000000:=by
  have:rows*cols<=10000*10000:=Nat.mul_le_mul hr2 hc2
  omega
 refine A34 ?_
 intro bt hbt
 refine ⟨_,rfl,Lr (z:=.pointer none) (by kernel_rfl) ?_⟩
 intro bp hbp
 have hne:bp≠bt:=by rintro rfl;rw [B9] at hbp;cases hbp
 refine ⟨_,rfl,?_⟩
 refine Df (by kernel_rfl) (by kernel_rfl) rfl rfl (by decide) ?_
 have s0:=((Sep.refl h).new hbt (.cells (Value.cells (.agg #[I (cols:Int),.slice none 0 0,.slice none 0 0])) Ql)).new hbp (.cells ((Value.cells (.pointer none)).setIfInBounds 0 (.pointer (some ⟨bt,0,none⟩))) Mo)
 have n0:NT ((Ch.put bt (.cells (Value.cells (.agg #[I (cols:Int),.slice none 0 0,.slice none 0 0])) Ql)).put bp (.cells ((Value.cells (.pointer none)).setIfInBounds 0 (.pointer (some ⟨bt,0,none⟩))) Mo)) bp bt cols [] [] none 0 none 0:=
  ⟨⟨_,B9 _ _ _⟩,⟨_,by rw [B5 _ _ hne.symm,B9];rfl⟩,OwnSl.nil,OwnSl.nil,hne,⟨by simp,by simp⟩,⟨by simp,by simp⟩,fun b hb=>by cases hb⟩
 generalize (Ch.put bt (.cells (Value.cells (.agg #[I (cols:Int),.slice none 0 0,.slice none 0 0])) Ql)).put bp (.cells ((Value.cells (.pointer none)).setIfInBounds 0 (.pointer (some ⟨bt,0,none⟩))) Mo)=o0 at s0 n0
 refine s0.call (A63 hc ?_)
 intro v g0 l0 ic hp3 s3
 have bound:∀ k,k<rows->∀ j,j<cols->Sz m (E (k*cols+j)):=fun k hk j hj=>hs _ (U1 hk hj)
 refine ⟨_,rfl,A2m ic hc (by omega) hcap (fun k hp=>∃ (g1 o1:Heap) (es:List IV) (ss:List QV) (A1:Option Addr) (c1:Nat) (A2:Option Addr) (c2:Nat),g0.le g1/\Sep hp g1 o1/\NT o1 bp bt cols es ss A1 c1 A2 c2/\EsOk g1 E cols k es (fun _=>0) 0/\ss.length=k/\Row RQr g1 ss k (A5b E cols)) ?_ ?_ ?_ ?_⟩
 ·exact ⟨g0,o0,[],[],none,0,none,0,B3 _,s3,n0,⟨by simp,fun a b h1=>by omega,fun b h1=>by omega⟩,rfl,Row.nil⟩
 ·rintro k hp ⟨g1,o1,es,ss,A1,c1,A2,c2,lg,s1,_⟩
  exact A0 lg s1.le
 ·rintro k hp4 hkr ⟨g1,o1,es,ss,A1,c1,A2,c2,lg1,s4,n1,e1,hss,rs⟩
  have bk:=bound k hkr
  have hkc:(k+1)*cols<=rows*cols:=Nat.mul_le_mul_right _ hkr
  have hk1:(k+1)*cols=k*cols+cols:=by rw [Nat.add_mul,Nat.one_mul]
  have hkc2:k<=k*cols:=Nat.le_mul_of_pos_right k hc
  have lh1:=A0 l0 lg1
  have row0:RowV RQr h A ((k+1)*cols) E:=by
   have:=r.cut (c:=c) (l:=0) (k:=(k+1)*cols) (by omega) hcap
   rw [H9] at this
   exact this.congr fun i _=>by rw [Nat.zero_add]
  have row1:RowV RQr h (I8 A ((k+1)*cols) (k*cols) 4) cols (A42 E cols k):=row0.cut (c:=(k+1)*cols) (l:=k*cols) (k:=cols) (by omega) (Nat.le_refl _)
  refine ⟨_,_,_,rfl,s4.call (Ty (gl.mono lh1) (row1.mono S5 lh1) (by omega) bk hm ?_)⟩
  intro sd Ad nd cd g2 l2 id hp5 s5
  have cE:=n1.c1 s5
  rw [e1.len,Nat.add_zero] at cE
  have d2:=Wy (f:=A42 E cols k) cols bk
  have hmk:1+cols*m<=1+cols*m+m:=by omega
  refine ⟨_,_,_,_,rfl,_,n1.cp s5,_,rfl,_,_,_,cE,fun L hp=>∃ (j:Nat) (s:Bool) (B:Option Addr) (bn bc:Nat) (g3 o3:Heap) (es:List IV) (A1:Option Addr) (c1:Nat),j<=cols/\L=[I (j:Int),.bool s,.slice B bn bc]/\g2.le g3/\Sep hp g3 o3/\NT o3 bp bt cols es ss A1 c1 A2 c2/\EsOk g3 E cols k es (A7v E cols k) j/\ZI g3 s B bn bc (B12 E cols k j:Int),
   fun L _=>cols-(iAt L 0).toNat,⟨0,false,none,0,0,g2,o1,es,A1,c1,by omega,rfl,B3 _,s5,n1,(e1.mono l2).congr (fun b hb=>by omega),ZI.zero⟩,?_⟩
  rintro z bs bA bn bc hp6 ⟨j,sB,B,bn',bc',g3,o3,es3,A3,c3,hj,eL,l3,s6,n3,e3,i3⟩
  simp only [List.cons.injEq,Value.int.injEq,Value.bool.injEq,Value.slice.injEq,true_and,and_true] at eL
  obtain ⟨rfl,rfl,rfl,rfl,rfl⟩:=eL
  have ewj:B4 ((j:Int)+1)=((j+1:Nat):Int):=by rw [B6]<;>omega
  have lh3:=A0 lh1 (A0 l2 l3)
  refine B7 (fun hlt=>?_) (fun hge=>?_)
  ·have hjc:j<cols:=by omega
   obtain ⟨a,w,ea,iw,q0,q1,q2,q3⟩:=row1.qat hjc
   have lh6:=A0 lh3 s6.le
   refine ⟨a,ea,by omega,by omega,_,_,_,_,_,_,_,_,C6 lh6 q0,C6 lh6 q1,C6 lh6 q2,C6 lh6 q3,?_⟩
   refine s6.call (A2a (m:=1+cols*m+m) (S5 _ _ _ _ lh3 iw) (id.mono l3) ((bk j hjc).mono (by omega)) (d2.mono hmk) hm ?_)
   intro s7 A7 n7 c7 g7 l7 i7 hp7 sp7
   refine ⟨_,_,_,_,rfl,sp7.call (Jr (gl.mono (A0 lh3 l7)).tz (i3.mono l7) i7 (A8o bk j hj) (Wq bk hjc) hm ?_)⟩
   intro A8 n8 c8 g8 l8 i8 hp8 sp8
   have z7:ZIr g8 ⟨s7,A7,n7,c7⟩ (A7v E cols k j):=i7.mono l8
   have hF:∀ h' g' o' A2' c2',g8.le g'->Sep h' g' o'->NT o' bp bt cols (es3++[⟨s7,A7,n7,c7⟩]) ss A2' c2' A2 c2->(∃ (j':Nat) (s:Bool) (B:Option Addr) (bn bc:Nat) (g3 o3:Heap) (es:List IV) (A1:Option Addr) (c1:Nat),j'<=cols/\[I (B4 ((j:Int)+1)),.bool false,.slice A8 n8 c8]=[I (j':Int),.bool s,.slice B bn bc]/\g2.le g3/\Sep h' g3 o3/\NT o3 bp bt cols es ss A1 c1 A2 c2/\EsOk g3 E cols k es (A7v E cols k) j'/\ZI g3 s B bn bc (B12 E cols k j':Int))/\cols-(iAt [I (B4 ((j:Int)+1)),.bool false,.slice A8 n8 c8] 0).toNat<cols-(iAt [I (j:Int),.bool bs,.slice bA bn bc] 0).toNat:=by
    intro h' g' o' A2' c2' lg' s' n'
    rw [ewj]
    refine ⟨⟨j+1,false,A8,n8,c8,g',o',_,A2',c2',by omega,rfl,A0 l3 (A0 l7 (A0 l8 lg')),s',n',((e3.mono (A0 l7 l8)).push z7).mono lg',i8.mono lg'⟩,by simp only [Fd];omega⟩
   have hel:es3.length<=100000000:=by have:=e3.len;omega
   refine ⟨_,_,_,_,rfl,_,n3.cp sp8,_,rfl,_,_,_,n3.c1 sp8,⟨_,n3.cp sp8,?_⟩,?_⟩
   ·exact n3.buildE sp8 ⟨s7,A7,n7,c7⟩ hel hF fun B m d hp lp cp happ=>⟨_,_,_,rfl,lp,happ fun A2 c2 h2 _ hst=>⟨_,_,_,rfl,_,rfl,hst⟩⟩
   ·exact n3.buildE sp8 ⟨s7,A7,n7,c7⟩ hel hF fun B m d hp lp cp happ=>⟨_,_,_,rfl,lp,⟨_,cp,happ fun A2 c2 h2 _ hst=>⟨_,_,_,rfl,_,rfl,hst⟩⟩,happ fun A2 c2 h2 cp2 hst=>⟨_,_,_,rfl,_,cp2,_,rfl,hst⟩⟩
  ·have hjc:j=cols:=by omega
   subst hjc
   have hg:((B12 E j k j:Nat):Int)=0↔B12 E j k j=0:=by omega
   refine ⟨fun L hp=>∃ (s:Bool) (B:Option Addr) (bn bc:Nat) (g4:Heap),L=[.bool s,.slice B bn bc]/\g3.le g4/\Sep hp g4 o3/\ZI g4 s B bn bc (Vf E j k:Int),?_,?_⟩
   ·refine s6.call (G9 i3 ?_)
    intro hp7 s7
    refine ⟨_,rfl,B7 (fun e=>?_) (fun e=>?_)⟩
    ·refine s7.call (Da (by omega) (by omega) ?_)
     intro s8 A8 n8 c8 g8 l8 i8 hp8 sp8
     refine ⟨_,_,_,_,rfl,_,_,_,_,g8,rfl,l8,sp8,?_⟩
     have:Vf E j k=1:=by unfold Vf;rw [if_pos (hg.1 e)]
     rw [this];exact i8
    ·refine ⟨_,_,_,_,g3,rfl,B3 _,s7,?_⟩
     have:Vf E j k=B12 E j k j:=by unfold Vf;rw [if_neg (fun x=>e (hg.2 x))]
     rw [this];exact i3
   ·rintro cs cA cn cc hp7 ⟨cs',cA',cn',cc',g4,eL,l4,s7,ic⟩
    obtain ⟨rfl,rfl,rfl,rfl⟩:cs=cs'/\cA=cA'/\cn=cn'/\cc=cc':=by simpa using eL
    have e4:=e3.mono l4
    have cE4:=n3.c1 s7
    rw [e4.len] at cE4
    have hne4:es3≠[]:=by rintro rfl;have:=e4.len;simp at this;omega
    obtain ⟨bE,hbE,rB⟩:=n3.oe.rowB hne4
    subst hbE
    have hc3:k*j+j<=c3:=by have:=n3.oe.1;rw [e4.len] at this;exact this
    have ekn:(((k*j:Nat):Int)).toNat=k*j:=rfl
    have ecut:I8 (some ⟨bE,0,none⟩) c3 ((((k*j:Nat):Int)).toNat) 2=some ⟨bE,k*j*2,none⟩:=by rw [ekn,Sj (by omega),D8,Nat.zero_add]
    have esub:k*j+j-(((k*j:Nat):Int)).toNat=j:=by rw [ekn];omega
    refine ⟨_,n3.cp s7,_,rfl,_,_,_,cE4,⟨by omega,by omega⟩,?_⟩
    rw [ecut,esub]
    refine ⟨fun L hp=>∃ (jj:Nat) (g o:Heap) (es:List IV),jj<=j/\L=[I (jj:Int)]/\g4.le g/\Sep hp g o/\NT o bp bt j es ss (some ⟨bE,0,none⟩) c3 A2 c2/\EsOk g E j k es (fun b=>if b<jj then Zp E j k b else A7v E j k b) j,fun L _=>j-(iAt L 0).toNat,⟨0,g4,o3,es3,by omega,rfl,B3 _,s7,n3,e4.congr fun b hb=>by rw [if_neg (by omega)]⟩,?_⟩
    rintro z hp8 ⟨jj,g5,o5,es5,hjj,eL,l5,s8,n5,e5⟩
    obtain rfl:z=(jj:Int):=by simpa using eL
    have ewj2:B4 ((jj:Int)+1)=((jj+1:Nat):Int):=by rw [B6]<;>omega
    have ewk:B4 (((k*j:Nat):Int)+(jj:Int))=((k*j+jj:Nat):Int):=by rw [B6]<;>omega
    have cE5:=n5.c1 s8
    rw [e5.len] at cE5
    have hcom0:=Qh E j k
    refine B7 (fun hlt=>?_) (fun hge=>?_)
    ·have hjc:jj<j:=by omega
     obtain ⟨w,ew,iw⟩:=e5.last jj hjc
     rw [if_neg (Nat.lt_irrefl jj)] at iw
     obtain ⟨bE',hbE',rB5⟩:=n5.oe.rowB (by rintro rfl;have:=e5.len;simp at this;omega)
     simp only [Option.some.injEq,Addr.mk.injEq,and_true] at hbE'
     subst hbE'
     have hlt5:k*j+jj<es5.length:=by have:=e5.len;omega
     have hew:es5[k*j+jj]=w:=by
      rw [List.getElem?_eq_getElem hlt5] at ew
      cases ew;rfl
     have ha:k*j*2+jj*2=(k*j+jj)*2:=by rw [Nat.add_mul]
     have cell:∀ x v,(enc w)[x]? = some v->hp8.cell? (Addr.add (Addr.add ⟨bE,k*j*2,none⟩ (((jj:Int)).toNat*2)) x)=some v:=by
      intro x v hx
      refine s8.cell ?_
      rw [D8,D8]
      show o5.cell? ⟨bE,k*j*2+jj*2+x,none⟩=_
      rw [ha]
      exact rB5.cell hlt5 (by rw [hew];exact hx)
     refine ⟨_,rfl,by omega,by omega,_,_,_,_,cell 0 _ rfl,cell 1 _ rfl,_,n5.cp s8,_,rfl,_,_,_,cE5,?_⟩
     refine s8.call (Bi iw (ic.mono l5) (Wq bk hjc) (Yh bk) hm (by omega) ?_)
     intro s9 A9 n9 c9 g9 l9 i9 hp9 sp9
     refine ⟨_,_,_,_,rfl,s8.le_le sp9 l9,_,rfl,by omega,by omega,?_⟩
     rw [ewk]
     refine OwnSl.store A7j (y:=(⟨s9,A9,n9,c9⟩:IV)) rfl sp9 n5.oe hlt5 rfl ?_
     intro hp10 o10 s10 ow10 ko
     obtain ⟨x1,hx1⟩:=n5.hp
     obtain ⟨x2,hx2⟩:=n5.ht
     have b1:bp≠bE:=fun e=>n5.a1.1 (by rw [e])
     have b2:bt≠bE:=fun e=>n5.a1.2 (by rw [e])
     rw [ewj2]
     refine ⟨⟨jj+1,g9,o10,es5.set (k*j+jj) ⟨s9,A9,n9,c9⟩,by omega,rfl,A0 l5 l9,s10,⟨⟨x1,by rw [ko _ b1];exact hx1⟩,⟨x2,by rw [ko _ b2,List.length_set];exact hx2⟩,ow10,n5.os.keep fun b x hb hx=>by rw [ko b (fun e=>n5.a3 bE rfl (by rw [<- e];exact hb))];exact hx,n5.ne,n5.a1,n5.a2,n5.a3⟩,((e5.mono l9).set hjc (show ZIr g9 ⟨s9,A9,n9,c9⟩ (Zp E j k jj) from i9)).congr fun b hb=>?_⟩,by simp only [Fd];omega⟩
     show (if b=jj then Zp E j k jj else if b<jj then Zp E j k b else A7v E j k b)=if b<jj+1 then Zp E j k b else A7v E j k b
     by_cases eb:b=jj
     ·subst eb;rw [if_pos rfl,if_pos (by omega)]
     ·rw [if_neg eb]
      by_cases h7:b<jj
      ·rw [if_pos h7,if_pos (by omega)]
      ·rw [if_neg h7,if_neg (by omega)]
    ·have hje:jj=j:=by omega
     subst hje
     have eN:EsOk g5 E jj (k+1) es5 (fun _=>0) 0:=e5.next (fun b hb=>by rw [if_pos hb]) _
     have sS:=A7i (E:=E) (cols:=jj) (i:=k) bk
     have fr:∀ (gg:Heap) (w:QV),g5.le gg->RQ gg w (Rat.divInt (Jq (A42 E jj k) jj:Int) (Vf E jj k:Int))->∀ h' g' o' A2' c2',gg.le g'->Sep h' g' o'->NT o' bp bt jj es5 (ss++[w]) (some ⟨bE,0,none⟩) c3 A2' c2'->∃ (g1 o1:Heap) (es:List IV) (ss:List QV) (A1:Option Addr) (c1:Nat) (A2:Option Addr) (c2:Nat),g0.le g1/\Sep h' g1 o1/\NT o1 bp bt jj es ss A1 c1 A2 c2/\EsOk g1 E jj (k+1) es (fun _=>0) 0/\ss.length=k+1/\Row RQr g1 ss (k+1) (A5b E jj):=by
      intro gg w lgg iw h' g' o' A2' c2' lg' s' n'
      have lall:g1.le g':=A0 l2 (A0 l3 (A0 l4 (A0 l5 (A0 lgg lg'))))
      refine ⟨g',o',es5,ss++[w],_,c3,A2',c2',A0 lg1 lall,s',n',eN.mono (A0 lgg lg'),by simp [hss],?_⟩
      have rs':Row RQr g' ss ss.length (A5b E jj):=by rw [hss];exact rs.mono S5 lall
      have:=rs'.push (w:=w) (by rw [hss];exact S5 _ _ _ _ lg' iw)
      rw [List.length_append,hss] at this
      exact this
     have glf:=(gl.mono (A0 lh3 (A0 l4 l5))).tz
     have idf:=(id.mono (A0 l3 (A0 l4 l5)))
     have hsl:ss.length<=100000000:=by omega
     refine ⟨_,n5.cp s8,_,rfl,_,_,_,n5.c2 s8,⟨_,n5.cp s8,?_⟩,?_⟩
     ·refine s8.call (Q3 glf idf (ic.mono l5) (d2.mono hmk) (Yh bk) hm ?_)
      intro w gf lf iw hp9 s9
      refine ⟨_,_,_,_,_,_,_,_,rfl,s8.le_le s9 lf,?_⟩
      exact n5.buildS s9 w hsl (fr gf w lf iw) fun B m d hp lp cp happ=>⟨_,_,_,rfl,lp,happ fun A2 c2 h2 _ hst=>⟨_,_,_,rfl,_,rfl,hst⟩⟩
     ·refine s8.call (Q3 glf idf (ic.mono l5) (d2.mono hmk) (Yh bk) hm ?_)
      intro w gf lf iw hp9 s9
      refine ⟨_,_,_,_,_,_,_,_,rfl,s8.le_le s9 lf,⟨_,n5.cp s9,?_⟩,?_⟩
      ·exact n5.buildS s9 w hsl (fr gf w lf iw) fun B m d hp lp cp happ=>⟨_,_,_,rfl,lp,happ fun A2 c2 h2 _ hst=>⟨_,_,_,rfl,_,rfl,hst⟩⟩
      ·exact n5.buildS s9 w hsl (fr gf w lf iw) fun B m d hp lp cp happ=>⟨_,_,_,rfl,lp,⟨_,cp,happ fun A2 c2 h2 _ hst=>⟨_,_,_,rfl,_,rfl,hst⟩⟩,happ fun A2 c2 h2 cp2 hst=>⟨_,_,_,rfl,_,cp2,_,rfl,hst⟩⟩
 ·rintro hp ⟨g1,o1,es,ss,A1,c1,A2,c2,lg,s1,n1,e1,hss,rs⟩
  refine ⟨_,n1.cp s1,?_⟩
  have hel:es.length=rows*cols:=by rw [e1.len];rfl
  have hpos:0<rows*cols:=Nat.mul_pos (by omega) (by omega)
  obtain ⟨bE,hbE,rE⟩:=n1.oe.rowB (by rintro rfl;simp at hel;omega)
  obtain ⟨bS,hbS,rS⟩:=n1.os.rowB (by rintro rfl;simp at hss;omega)
  subst hbE hbS
  obtain ⟨x2,hx2⟩:=n1.ht
  refine hK hp g1 o1 ⟨bt,bE,bS,rows,cols,c1,c2⟩ (A0 l0 lg) ⟨s1,fun (e:bt=bE)=>n1.a1.2 (by rw [<- e]),fun (e:bt=bS)=>n1.a2.2 (by rw [<- e]),fun (e:bE=bS)=>n1.a3 bE rfl (by rw [e]),⟨x2,by rw [hx2,hel,hss]⟩,⟨es,rE,hel,fun i j hi hj=>e1.rows i j hi hj⟩,⟨ss,rS,hss,rs⟩,by rw [<- hel];exact n1.oe.1,by rw [<- hss];exact n1.os.1,⟨hr2,hc2⟩,hc⟩ rfl rfl
end
def B8n(c:Array Value):Prop:=∀ (i:Nat) (n:Int),c[i]? ≠ some (Value.int .u64 n)
theorem SlI.without{h:Heap}{A:Option Addr}{xs:List Int}{b:Nat}{c:Array Value}{e:TypeId}(hb:h b=some (.cells c e))(hc:B8n c)(s:SlI .u64 h A xs):SlI .u64 (h.without b) A xs:=by
 rcases s with s|⟨a,ha,hcell⟩
 ·exact .inl s
 ·by_cases hx:xs=[]
  ·subst hx;exact SlI.nil
  ·right
   refine ⟨a,ha,fun i v hv=>?_⟩
   have h1:=hcell i v hv
   have hne:a.block≠b:=by
    rintro rfl
    obtain ⟨x,hx⟩:∃ x,v= .int .u64 x:=by
     rw [List.getElem?_map] at hv
     cases hy:xs[i]? with
     | none=>rw [hy] at hv;cases hv
     | some y=>rw [hy] at hv;exact ⟨y,(Option.some.inj hv).symm⟩
    subst hx
    unfold Heap.cell? at h1
    rw [A12,hb] at h1
    simp only at h1
    split at h1
    ·cases h1
    ·exact hc _ _ h1
   unfold Heap.cell? at h1 ⊢
   rw [A12] at h1 ⊢
   unfold Heap.without
   rw [if_neg hne];exact h1
theorem ZI.without{h:Heap}{s:Bool}{A:Option Addr}{n c:Nat}{z:Int}{b:Nat}{cs:Array Value}{e:TypeId}(hb:h b=some (.cells cs e))(hc:B8n cs)(i:ZI h s A n c z):ZI (h.without b) s A n c z:=by
 obtain ⟨i1,⟨xs,s1,s2,s3⟩,i3⟩:=i
 exact ⟨i1,⟨xs,s1,SlI.without hb hc s2,s3⟩,i3⟩
theorem RQ.without{h:Heap}{w:QV}{q:Rat}{b:Nat}{cs:Array Value}{e:TypeId}(hb:h b=some (.cells cs e))(hc:B8n cs)(i:RQ h w q):RQ (h.without b) w q:=⟨ZI.without hb hc i.num,ZI.without hb hc i.den⟩
theorem A07(xs:List QV):B8n (xs.flatMap enc).toArray:=by
 intro i n h
 have h':(xs.flatMap enc)[i]? = some (.int .u64 n):=by simpa using h
 have hm:=List.mem_of_getElem? h'
 obtain ⟨x,_,hx⟩:=List.mem_flatMap.1 hm
 have hx':(.int .u64 n:Value)∈[.bool x.s,.slice x.A x.n x.c,.bool x.s2,.slice x.A2 x.n2 x.c2]:=hx
 simp at hx'
theorem Sep.grab{h g o:Heap}(s:Sep h g o){b:Nat}{x:Obj}(hb:g b=some x):Sep h (g.without b) (o.put b x):=by
 have hob:o b=none:=by
  cases ho:o b with
  | none=>rfl
  | some y=>rw [s.dis b y ho] at hb;cases hb
 refine ⟨fun k y e=>?_,fun k e=>?_,fun k y e=>?_⟩
 ·by_cases hk:k=b
  ·subst hk
   rw [B9] at e;cases e
   exact s.le k _ hb
  ·rw [B5 _ _ hk] at e;exact s.own k y e
 ·by_cases hk:k=b
  ·subst hk;rw [B9] at e;cases e
  ·rw [B5 _ _ hk] at e
   unfold Heap.without
   rw [if_neg hk];exact s.rest k e
 ·by_cases hk:k=b
  ·subst hk;exact V7 _ _
  ·rw [B5 _ _ hk] at e
   unfold Heap.without
   rw [if_neg hk];exact s.dis k y e
theorem Tm{h g:Heap}{b:Nat}(l:h.le g)(hb:h b=none):h.le (g.without b):=fun k x e=>by
 have hk:k≠b:=by rintro rfl;rw [hb] at e;cases e
 unfold Heap.without
 rw [if_neg hk];exact l k x e
theorem Tab.grab{h g o:Heap}{T:Tb}{M:Nat->Nat->Int}{S:Nat->Rat}(t:Tab h g o T M S){b:Nat}{cs:Array Value}{e:TypeId}(hb:g b=some (.cells cs e))(hc:B8n cs):Tab h (g.without b) (o.put b (.cells cs e)) T M S:=by
 have hob:∀ k x,o k=some x->k≠b:=by rintro k x e rfl;rw [t.sep.dis k x e] at hb;cases hb
 refine ⟨t.sep.grab hb,t.n1,t.n2,t.n3,?_,?_,?_,t.cE,t.cS,t.small,t.pos⟩
 ·obtain ⟨e,he⟩:=t.head
  exact ⟨e,by rw [B5 _ _ (hob _ _ he)];exact he⟩
 ·obtain ⟨ws,⟨e1,ex,h1⟩,hl,hw⟩:=t.elems
  refine ⟨ws,⟨e1,ex,by rw [B5 _ _ (hob _ _ h1)];exact h1⟩,hl,fun i j hi hj=>?_⟩
  obtain ⟨w,e,hz⟩:=hw i j hi hj
  exact ⟨w,e,ZI.without hb hc hz⟩
 ·obtain ⟨ss,⟨e1,ex,h1⟩,hl,hw⟩:=t.scales
  refine ⟨ss,⟨e1,ex,by rw [B5 _ _ (hob _ _ h1)];exact h1⟩,hl,fun i hi=>?_⟩
  obtain ⟨w,e,hz⟩:=hw i hi
  exact ⟨w,e,RQ.without hb hc hz⟩
structure MOk (r c:Int) (n:Nat) (ls:Nat->List UInt8) (rows cols:Nat):Prop where
 er:r=rows
 ec:c=cols
 r1:1<=rows
 r2:rows<=64
 c1:1<=cols
 c2:cols<=64
 len:n=rows*cols
 num:∀ i,i<n->IsNum (ls i)
def A3i(r c:Int)(n:Nat):Prop:=1<=r/\r<=64/\1<=c/\c<=64/\(n:Int)=r*c
theorem MOk.of{r c:Int}{n:Nat}{ls:Nat->List UInt8}(s:A3i r c n)(h:∀ i,i<n->IsNum (ls i)):MOk r c n ls r.toNat c.toNat:=by
 obtain ⟨h1,h2,h3,h4,h5⟩:=s
 refine ⟨by omega,by omega,by omega,by omega,by omega,by omega,?_,h⟩
 have e1:(r.toNat:Int)=r:=by omega
 have e2:(c.toNat:Int)=c:=by omega
 have:((r.toNat*c.toNat:Nat):Int)=r*c:=by rw [Int.natCast_mul,e1,e2]
 omega
theorem MOk.shape{r c:Int}{n:Nat}{ls:Nat->List UInt8}{rows cols:Nat}(m:MOk r c n ls rows cols):A3i r c n:=by
 obtain ⟨rfl,rfl,h1,h2,h3,h4,h5,_⟩:=m
 exact ⟨by omega,by omega,by omega,by omega,by rw [h5,Int.natCast_mul]⟩
abbrev Nh(r c:Int)(A:Option Addr)(n cap:Nat):Value:=.agg #[I r,I c,.slice A n cap]
def Mx(r c:Int)(n:Nat)(ls:Nat->List UInt8):Prop:=∃ rows cols,MOk r c n ls rows cols
theorem Vw{r c:Int}{n:Nat}{ls:Nat->List UInt8}:Mx r c n ls↔A3i r c n/\∀ i,i<n->IsNum (ls i):=by
 constructor
 ·rintro ⟨rows,cols,m⟩;exact ⟨m.shape,m.num⟩
 ·rintro ⟨s,h⟩;exact ⟨_,_,MOk.of s h⟩
section
variable {h:Heap} {K:Value->Heap->Prop} {A:Option Addr} {n cap m:Nat} {r c:Int} {ls:Nat->List UInt8}
theorem Xa(hn:n<=1000000000)(hK1:A3i r c n->K (.bool true) h)(hK0:¬ A3i r c n->K (.bool false) h):FCall Tryz.prog Jg #[Nh r c A n cap] h K:=by
 refine A1m _ _ _ _ _ ?_
 unfold A1n
 refine B7 (fun h1=>B7 (fun h2=>B7 (fun h3=>B7 (fun h4=>?_) (fun e=>hK0 fun s=>e s.2.2.2.1)) (fun e=>hK0 fun s=>e s.2.2.1)) (fun e=>hK0 fun s=>e s.2.1)) (fun e=>hK0 fun s=>e s.1)
 have hrc:r*c<=64*64:=Int.mul_le_mul h2 h4 (by omega) (by omega)
 have hrc0:0<=r*c:=Int.mul_nonneg (by omega) (by omega)
 have ew:B4 (r*c)=r*c:=B6 (by omega) (by omega)
 rw [ew]
 by_cases e:(n:Int)=r*c
 ·rw [show ((n:Int)==r*c)=true by simpa using e]
  exact hK1 ⟨h1,h2,h3,h4,e⟩
 ·rw [show ((n:Int)==r*c)=false by simpa using e]
  exact hK0 fun s=>e s.2.2.2.2
theorem Ho(gl:Gl h)(rv':RowV SSr h A n ls)(hn:n<=1000000)(hl:∀ i,i<n->(ls i).length<=100000000)
 (hK1:∀ rows cols,MOk r c n ls rows cols->∀ b h',Own RQr h h' b n (fun i=>rv (ls i))->K (.tuple #[.slice (some ⟨b,0,none⟩) n n,.bool true]) h')
 (hK0:¬ Mx r c n ls->∀ h',h.le h'->K (.tuple #[.slice none 0 0,.bool false]) h'):FCall Tryz.prog Ns #[Nh r c A n cap] h K:=by
 refine B3i _ _ _ _ _ ?_
 unfold B92
 refine Xa (by omega) (fun s=>⟨_,rfl,?_⟩) (fun s=>⟨_,rfl,hK0 (fun x=>s (Vw.1 x).1) h (B3 _)⟩)
 refine A02 gl rv' hn hl (fun hnum b h' w=>⟨_,_,_,_,rfl,hK1 _ _ (MOk.of s hnum) b h' w⟩) (fun hno h' l=>⟨_,_,_,_,rfl,hK0 (fun x=>hno (Vw.1 x).2) h' l⟩)
theorem Eh{f:Nat->Rat}(gl:Gl h)(rq:RowV RQr h A n f)(hn:n<=1000000)(hs:∀ i,i<n->Sz m (f i))(hm:m<=40000000)
 (hK:∀ b h',Own SSr h h' b n (fun i=>N5 (f i))->K (Nh r c (some ⟨b,0,none⟩) n n) h'):FCall Tryz.prog Ht #[I r,I c,.slice A n cap] h K:=by
 refine B0k _ _ _ _ _ ?_
 unfold B51
 exact Zt gl rq hn hs hm fun b h' w=>⟨_,_,_,rfl,hK b h' w⟩
end
def mtx(E:Nat->Rat)(cols:Nat):Nat->Nat->Rat:=fun i j=>E (i*cols+j)
def elE(E:Nat->Rat)(rows cols c:Nat):ES:=A2b rows ⟨mtx E cols,[],1⟩ c
def elP(E:Nat->Rat)(rows cols c:Nat):PS:=Ce rows ⟨Zp E cols,A5b E cols,[],1,1⟩ c
theorem Vd(E:Nat->Rat){rows cols c:Nat}(hc:c<=cols):ERel rows cols c (mtx E cols) (elE E rows cols c) (elP E rows cols c):=
 (ERel.start (fun i j _ hj=>B5i E cols i hj) (fun i _=>by have:=B1l E cols i;grind)).run c hc
theorem B2i(E:Nat->Rat){rows cols c:Nat}(hc:c<=cols):(elP E rows cols c).cs=(elE E rows cols c).cs:=(Vd E hc).cs.symm
theorem B4g(E:Nat->Rat){rows cols c:Nat}(hc:c<=cols){i j:Nat}(hi:i<rows)(hj:j<cols)(h:i<(elE E rows cols c).cs.length\/j<c):Rat.divInt ((elP E rows cols c).M i j) (elP E rows cols c).last=(elE E rows cols c).R i j:=by
 have r:=Vd E hc (rows:=rows)
 have hv:=r.val i j hi hj
 have hl:=P7 r.last
 rw [Rat.divInt_eq_div,hv]
 by_cases h1:i<(elE E rows cols c).cs.length
 ·rw [if_pos h1,Rat.mul_comm,Rat.div_def,Rat.mul_assoc,Rat.mul_inv_cancel _ hl,Rat.mul_one]
 ·rw [if_neg h1,r.zero i j hi (by omega) (by omega),Rat.mul_zero,Rat.mul_zero]
  rw [Rat.div_def,Rat.zero_mul]
def bnd(cols m:Nat):Nat:=1+cols*m+m
theorem B87{E:Nat->Rat}{rows cols m:Nat}(h:∀ i,i<rows*cols->Sz m (E i)):ZbP rows cols (bnd cols m) (bnd cols m) ⟨Zp E cols,A5b E cols,[],1,1⟩:=by
 have hb:∀ i,i<rows->∀ j,j<cols->Sz m (E (i*cols+j)):=fun i hi j hj=>h _ (U1 hi hj)
 refine ⟨fun a b ha hb'=>?_,?_,fun a ha=>A7i (hb a ha),Nat.zero_le _⟩
 ·show ZB (3^0*bnd cols m) (Zp E cols a b)
  rw [Nat.pow_zero,Nat.one_mul];exact B5h (hb a ha) hb'
 ·show ZB (3^0*bnd cols m) 1
  exact ZB.one (by unfold bnd;omega)
theorem A4k{E:Nat->Rat}{rows cols m c:Nat}(h:∀ i,i<rows*cols->Sz m (E i))(hc:c<=cols):ZbP rows cols (bnd cols m) (bnd cols m) (elP E rows cols c):=(B87 h).run (by unfold bnd;omega) c hc
theorem B88(E:Nat->Rat)(rows cols c:Nat):(elP E rows cols c).cs.length<=c:=A41 _ _ rfl c
theorem Yb(E:Nat->Rat)(rows cols c:Nat)(x:Nat):3^(elP E rows cols c).cs.length*x<=3^c*x:=Nat.mul_le_mul_right _ (Nat.pow_le_pow_right (by decide) (B88 E rows cols c))
theorem A91(E:Nat->Rat)(rows cols c:Nat):(elP E rows cols c).last≠0:=(Qt rows _ (show (1:Int)≠0 by decide) (.inl rfl) (Nat.zero_le _) c).1
structure Own2 (h h':Heap) (b n:Nat) (f:Nat->List UInt8) (A:Option Addr) (cap:Nat) (l:List Int):Prop where
 ex:∃ g o xs,h.le g/\Sep h' g o/\RowX o b xs/\xs.length=n/\Row SSr g xs n f/\OwnSl o E4 A cap l/\A≠some ⟨b,0,none⟩
theorem Own2.le{h h':Heap}{b n:Nat}{f:Nat->List UInt8}{A:Option Addr}{cap:Nat}{l:List Int}(w:Own2 h h' b n f A cap l):h.le h':=by
 obtain ⟨g,o,xs,lg,s,_⟩:=w.ex
 exact A0 lg s.le
theorem Own2.strs{h h':Heap}{b n:Nat}{f:Nat->List UInt8}{A:Option Addr}{cap:Nat}{l:List Int}(w:Own2 h h' b n f A cap l):RowV SSr h' (some ⟨b,0,none⟩) n f:=by
 obtain ⟨g,o,xs,lg,s,r,e,q,_⟩:=w.ex
 exact ⟨xs,r.rowB.slF s.ole,e,q.mono Bq s.le⟩
theorem Own2.ints{h h':Heap}{b n:Nat}{f:Nat->List UInt8}{A:Option Addr}{cap:Nat}{l:List Int}(w:Own2 h h' b n f A cap l):SlF h' A l/\l.length<=cap:=by
 obtain ⟨g,o,xs,lg,s,r,e,q,ow,_⟩:=w.ex
 exact ⟨ow.slF s.ole,ow.1⟩
theorem Own2.own{h h':Heap}{b n:Nat}{f:Nat->List UInt8}{A:Option Addr}{cap:Nat}{l:List Int}(w:Own2 h h' b n f A cap l):Own SSr h h' b n f:=by
 obtain ⟨g,o,xs,lg,s,r,e,q,_⟩:=w.ex
 exact ⟨g,o,xs,lg,s,r,e,q⟩
section
variable {h g o:Heap} {T:Tb} {M:Nat->Nat->Int} {S:Nat->Rat}
theorem Tab.fat(t:Tab h g o T M S){k:Nat}(hk:k<T.rows*T.cols):∃ w:IV,ZIr g w (M (k/T.cols) (k%T.cols))/\o.cell? (Addr.add (Addr.add ⟨T.bE,0,none⟩ (k*2)) 0)=some (.bool w.s)/\o.cell? (Addr.add (Addr.add ⟨T.bE,0,none⟩ (k*2)) 1)=some (.slice w.A w.n w.c):=by
 have hp:=t.pos
 have hi:k/T.cols<T.rows:=Nat.div_lt_of_lt_mul (by rw [Nat.mul_comm];exact hk)
 obtain ⟨w,hz,c0,c1⟩:=t.ato hi (Nat.mod_lt k hp)
 have e:k/T.cols*T.cols*2+k%T.cols*2=k*2:=by rw [<- Nat.add_mul,Nat.mul_comm (k/T.cols),Nat.div_add_mod]
 rw [D8,D8,e] at c0 c1
 refine ⟨w,hz,?_,?_⟩
 ·rw [D8,D8,Nat.zero_add];exact c0
 ·rw [D8,D8,Nat.zero_add];exact c1
end
section
variable {h:Heap} {K:Value->Heap->Prop} {A:Option Addr} {n cap m:Nat} {r c:Int} {ls:Nat->List UInt8}
abbrev rvs(ls:Nat->List UInt8):Nat->Rat:=fun i=>rv (ls i)
theorem Ir{E:Nat->Rat}{rows cols cc:Nat}(gl:Gl h)(rq:RowV RQr h A (rows*cols) E)(hcap:rows*cols<=cap)(hr:1<=rows)(hr2:rows<=10000)(hc:1<=cols)(hc2:cols<=10000)(hcc:cc<=cols)(hs:∀ i,i<rows*cols->Sz m (E i))(hm:2*(3^cc*bnd cols m)+1<=100000000){K:Value->Heap->Prop}
 (hK:∀ T h1,FCall Tryz.prog Dk #[.pointer (some ⟨T.bt,0,none⟩),I (cc:Int)] h1 (fun r h'=>∃ g' o' A' cap' w,h.le g'/\Tab h' g' o' T (elP E rows cols cc).M (elP E rows cols cc).S/\OwnSl o' E4 A' cap' (zs (elP E rows cols cc).cs)/\B76 T A'/\ZIr g' w (elP E rows cols cc).last/\
  r= .tuple #[.slice A' (elP E rows cols cc).cs.length cap',w.v,I (elP E rows cols cc).sgn])->h.le h1->T.rows=rows->T.cols=cols->K (.pointer (some ⟨T.bt,0,none⟩)) h1):FCall Tryz.prog R5 #[.slice A (rows*cols) cap,I (cols:Int)] h K:=by
 have h1:bnd cols m<=3^cc*bnd cols m:=Nat.le_mul_of_pos_left _ (Nat.pow_pos (by decide))
 have h2:bnd cols m=1+cols*m+m:=rfl
 refine Ko (m:=m) gl rq hcap hr hr2 hc hc2 hs (by omega) ?_
 intro h' g' o' T lg t e1 e2
 refine hK T h' ?_ (A0 lg t.sep.le) e1 e2
 have hz:=B87 hs
 rw [<- e1,<- e2] at hz
 refine A2j (m:=bnd cols m) (l:=bnd cols m) t (by omega) (by unfold bnd;omega) hm (by rw [e1] at hz ⊢;rw [e2] at hz ⊢;exact hz) ?_
 intro h2 g2 o2 A2 cap2 w l2 t2 ow ap ko iw
 rw [e1] at t2 ow iw ⊢
 exact ⟨g2,o2,A2,cap2,w,A0 lg l2,t2,ow,ap,iw,rfl⟩
end
def B5r(E:Nat->Rat)(rows cols:Nat):Nat->Rat:=fun k=>(elE E rows cols cols).R (k/cols) (k%cols)
theorem Own2.of{h g o g5 h7:Heap}{b n:Nat}{f:Nat->List UInt8}{A:Option Addr}{cap:Nat}{l:List Int}(s:Sep h7 g5 o)(lh:h.le g)(ow:OwnSl o E4 A cap l)(w:Own SSr g g5 b n f):Own2 h h7 b n f A cap l:=by
 obtain ⟨gs,os,xs,lg,ss,rx,hx,rr⟩:=w.ex
 have j1:∀ k x,os k=some x->(o.join os) k=some x:=fun k x e=>by show (match os k with|some x=>some x|none=>o k)=_;rw [e]
 have j2:∀ k,os k=none->(o.join os) k=o k:=fun k e=>by show (match os k with|some x=>some x|none=>o k)=_;rw [e]
 have hk:∀ k x,o k=some x->os k=none:=by
  intro k x e
  cases ho:os k with
  | none=>rfl
  | some y=>have:=s.dis k x e;rw [ss.own k y ho] at this;cases this
 refine ⟨gs,o.join os,xs,A0 lh lg,s.join ss,rx.keep (fun x e=>j1 b x e),hx,rr,ow.keep fun k x _ e=>by rw [j2 k (hk k x e)];exact e,fun hA=>?_⟩
 obtain ⟨e,hb⟩:=rx
 rcases ow.2 with ⟨_,h0⟩|⟨b',arr,hA',hb',_⟩
 ·rw [hA] at h0;cases h0
 ·rw [hA] at hA'
  simp only [Option.some.injEq,Addr.mk.injEq,and_true] at hA'
  subst hA'
  rw [hk _ _ hb'] at hb;cases hb
def Rd(o:Heap)(A:Option Addr):Heap:=fun k=>if A=some ⟨k,0,none⟩ then o k else none
theorem A06(o:Heap)(A:Option Addr):(Rd o A).le o:=fun k x e=>by
 unfold Rd at e
 split at e
 ·exact e
 ·cases e
theorem OwnSl.only{α:Type}[E:Enc α]{o:Heap}{e:TypeId}{A:Option Addr}{c:Nat}{xs:List α}(w:OwnSl o e A c xs):OwnSl (Rd o A) e A c xs:=w.keep fun b x hA hb=>by unfold Rd;rw [if_pos hA];exact hb
theorem Rc(o:Heap){A:Option Addr}{k:Nat}(h:A≠some ⟨k,0,none⟩):Rd o A k=none:=by unfold Rd;rw [if_neg h]
section
variable {h:Heap} {K:Value->Heap->Prop} {A:Option Addr} {n cap m:Nat} {r c:Int} {ls:Nat->List UInt8}
theorem A0a(gl:Gl h)(rv':RowV SSr h A n ls)(hn:n<=1000000)(hl:∀ i,i<n->(ls i).length<=100000000)(hs:∀ i,i<n->Sz m (rv (ls i)))(hb:∀ rows cols,MOk r c n ls rows cols->2*(3^cols*bnd cols m)+1<=40000000)
 (hK1:∀ rows cols,MOk r c n ls rows cols->∀ b h' A' cap',Own2 h h' b n (fun k=>N5 (B5r (rvs ls) rows cols k)) A' cap' (zs (elE (rvs ls) rows cols cols).cs)->K (.tuple #[Nh r c (some ⟨b,0,none⟩) n n,.slice A' (elE (rvs ls) rows cols cols).cs.length cap',I 0]) h')
 (hK0:¬ Mx r c n ls->∀ h',h.le h'->K (.tuple #[Nh 0 0 none 0 0,.slice none 0 0,I 1]) h'):FCall Tryz.prog Rw #[Nh r c A n cap] h K:=by
 refine A6r _ _ _ _ _ ?_
 unfold B0l
 refine Ho gl rv' hn hl ?_ ?_
 ·intro rows cols mk b h1 own
  have hb':=hb rows cols mk
  have:=mk.r1;have:=mk.r2;have:=mk.c1;have:=mk.c2
  obtain ⟨rfl,rfl,h1',h2',h3',h4',rfl,hnum⟩:=id mk
  have ol:=own.le
  have ov:=own.vis S5
  obtain ⟨g1,o1,xs,lg1,s1,rx,hx,rr⟩:=own.ex
  obtain ⟨e1,hb1⟩:=id rx
  refine ⟨_,_,_,_,rfl,?_⟩
  refine Ir (E:=rvs ls) (cc:=cols) (m:=m) (gl.mono ol) ov (Nat.le_refl _) (by omega) (by omega) (by omega) (by omega) (Nat.le_refl _) hs (by omega) ?_
  intro T h2 hred l2 e1' e2'
  refine ⟨_,rfl,?_⟩
  refine FCall.mono hred ?_
  rintro r3 h3 ⟨g3,o3,A3,cap3,w,l3,t3,ow,ap,iw,rfl⟩
  refine ⟨_,_,_,_,_,_,_,_,rfl,_,rfl,_,_,_,t3.c1,?_⟩
  have hzb:=A4k (E:=rvs ls) (rows:=rows) (c:=cols) hs (Nat.le_refl _)
  have hbd:=Yb (rvs ls) rows cols cols (bnd cols m)
  have hlast:=A91 (rvs ls) rows cols cols
  have hdiv:∀ k,k<rows*cols->Rat.divInt ((elP (rvs ls) rows cols cols).M (k/cols) (k%cols)) (elP (rvs ls) rows cols cols).last=B5r (rvs ls) rows cols k:=by
   intro k hk
   have hi:k/cols<rows:=Nat.div_lt_of_lt_mul (by rw [Nat.mul_comm];exact hk)
   have hj:=Nat.mod_lt k (show 0<cols by omega)
   exact B4g (rvs ls) (Nat.le_refl _) hi hj (.inr hj)
  rw [B2i _ (Nat.le_refl _)] at ow ⊢
  generalize elP (rvs ls) rows cols cols=st at *
  have hgb:g3 b=some (.cells (xs.flatMap enc).toArray e1):=l3 _ _ (s1.own _ _ hb1)
  have hA3:A3≠some ⟨b,0,none⟩:=by
   intro hA
   rcases ow.2 with ⟨_,h0⟩|⟨b',arr,hA',hb',_⟩
   ·rw [hA] at h0;cases h0
   ·rw [hA] at hA'
    simp only [Option.some.injEq,Addr.mk.injEq,and_true] at hA'
    subst hA'
    rw [t3.sep.dis _ _ hb'] at hgb;cases hgb
  have hob:∀ k x,o3 k=some x->k≠b:=by rintro k x e rfl;rw [t3.sep.dis k x e] at hgb;cases hgb
  have t4:=t3.grab hgb (A07 xs)
  have iw4:ZI (g3.without b) w.s w.A w.n w.c st.last:=ZI.without hgb (A07 xs) iw
  have lg4:g1.le (g3.without b):=Tm (A0 s1.le l3) (s1.dis _ _ hb1)
  have ow4:OwnSl (o3.put b (.cells (xs.flatMap enc).toArray e1)) E4 A3 cap3 (zs (elE (rvs ls) rows cols cols).cs):=ow.keep fun k x _ e=>by rw [B5 _ _ (hob k x e)];exact e
  have rx4:RowX (o3.put b (.cells (xs.flatMap enc).toArray e1)) b xs:=RowX.mk
  generalize g3.without b=g4 at *
  generalize o3.put b (.cells (xs.flatMap enc).toArray e1)=o4 at *
  have tb:=t4.own
  have nb:b≠T.bt/\b≠T.bE/\b≠T.bS:=by
   obtain ⟨⟨x1,y1⟩,⟨x2,y2⟩,⟨x3,y3⟩⟩:=t3.own
   exact ⟨fun e=>hob _ _ y1 e.symm,fun e=>hob _ _ y2 e.symm,fun e=>hob _ _ y3 e.symm⟩
  refine ⟨fun L hp=>∃ (k:Nat) (g o:Heap) (ys:List QV),k<=rows*cols/\L=[I (k:Int)]/\g4.le g/\Tab hp g o T st.M st.S/\RowX o b ys/\ys.length=rows*cols/\Row RQr g ys k (B5r (rvs ls) rows cols)/\(∀ kk,kk≠b->o kk=o4 kk),fun L _=>rows*cols-(iAt L 0).toNat,⟨0,g4,o4,xs,by omega,rfl,B3 _,t4,rx4,hx,Row.nil,fun _ _=>rfl⟩,?_⟩
  rintro z hp ⟨k,g5,o5,ys,hk,eL,l5,t5,rx5,hy,rr5,ho5⟩
  obtain rfl:z=(k:Int):=by simpa using eL
  refine B7 (fun hlt=>?_) (fun hge=>?_)
  ·have hkn:k<rows*cols:=by rw [e1',e2'] at hlt;omega
   obtain ⟨w5,z5,c0,c1⟩:=t5.fat (k:=k) (by rw [e1',e2'];exact hkn)
   rw [e2'] at z5
   have hi:k/cols<rows:=Nat.div_lt_of_lt_mul (by rw [Nat.mul_comm];exact hkn)
   have hj:=Nat.mod_lt k (show 0<cols by omega)
   refine ⟨_,rfl,by omega,hlt,_,_,_,_,t5.sep.cell c0,t5.sep.cell c1,?_⟩
   refine t5.sep.call (Q3 (gl.mono (A0 lg1 (A0 lg4 l5))).tz z5 (iw4.mono l5) (hzb.M _ _ hi hj) hzb.last (by omega) ?_)
   intro w6 g6 l6 i6 h6 s6
   rw [hdiv k hkn] at i6
   refine ⟨_,_,_,_,_,_,_,_,rfl,_,rfl,by omega,by omega,?_⟩
   refine Dv Kb (y:=w6) rfl s6 rx5 (i:=k) (by omega) ?_
   intro h7 o7 x7 eo s7 rx7
   have ko:∀ kk,kk≠b->o7 kk=o5 kk:=fun kk hk=>by rw [eo,B5 _ _ hk]
   have hrc:rows*cols<=64*64:=Nat.mul_le_mul (by omega) (by omega)
   rw [show B4 ((k:Int)+1)=((k+1:Nat):Int) by rw [B6]<;>omega]
   refine ⟨⟨k+1,g6,o7,_,by omega,rfl,A0 l5 l6,t5.keep s7 l6 (fun kk x e hkk=>by
    rw [ko kk (by rcases hkk with rfl|rfl|rfl
                  ·exact nb.1.symm
                  ·exact nb.2.1.symm
                  ·exact nb.2.2.symm)];exact e),rx7,by simpa using hy,(rr5.mono S5 l6).set (by omega) i6,fun kk hk=>by rw [ko kk hk,ho5 kk hk]⟩,by simp only [Fd];omega⟩
  ·have hkn:k=rows*cols:=by rw [e1',e2'] at hge;omega
   subst hkn
   have ow5:OwnSl o5 E4 A3 cap3 (zs (elE (rvs ls) rows cols cols).cs):=ow4.keep fun kk x hA e=>by rw [ho5 kk (fun e=>hA3 (by rw [<- e];exact hA))];exact e
   obtain ⟨g6,l6,s6⟩:=t5.sep.give (A06 o5 A3)
   obtain ⟨e5,hb5⟩:=id rx5
   have hg6:g6 b=some (.cells (ys.flatMap enc).toArray e5):=by
    rw [<- s6.rest b (Rc o5 hA3)]
    exact t5.sep.own _ _ hb5
   have rq6:RowV RQr g6 (some ⟨b,0,none⟩) (rows*cols) (B5r (rvs ls) rows cols):=⟨ys,(RowX.rowB ⟨e5,hg6⟩).slF (B3 _),hy,rr5.mono S5 l6⟩
   have lh6:h.le g6:=A0 lg1 (A0 lg4 (A0 l5 l6))
   have hsz:∀ k,k<rows*cols->Sz (3^st.cs.length*bnd cols m) (B5r (rvs ls) rows cols k):=by
    intro k hk
    have hi:k/cols<rows:=Nat.div_lt_of_lt_mul (by rw [Nat.mul_comm];exact hk)
    have hj:=Nat.mod_lt k (show 0<cols by omega)
    rw [<- hdiv k hk]
    exact Z1 hlast (hzb.M _ _ hi hj) hzb.last
   refine s6.call (Eh (gl.mono lh6) rq6 hn hsz (by omega) ?_)
   intro b2 g7 own7 h7 s7
   exact ⟨_,_,_,_,_,rfl,hK1 rows cols mk b2 h7 A3 cap3 (Own2.of s7 lh6 ow5.only own7)⟩
 ·intro hno h1 l1
  exact ⟨_,_,_,_,rfl,hK0 hno h1 l1⟩
end
def B2m(E:Nat->Rat)(n:Nat):Rat:=if (elE E n n n).cs.length<n then 0 else (elE E n n n).det
theorem A56{h:Heap}{K:Value->Heap->Prop}{s:Bool}{A:Option Addr}{n c:Nat}{z:Int}(i:ZI h s A n c z)(hK:∀ w,RQ h w (z:Rat)->K w.v h):FCall Tryz.prog Xi #[.agg #[.bool s,.slice A n c]] h K:=by
 refine A9y _ _ _ _ ?_
 unfold B4s
 exact hK _ (Wn i)
theorem Zj:N5 0=[48]:=by simp [N5,Jp,L7]
theorem B6h(E:Nat->Rat){n:Nat}(h:(elE E n n n).cs.length=n):((elP E n n n).sgn:Rat)*(elP E n n n).last/pr n (elP E n n n).S=B2m E n:=by
 have r:=Vd E (rows:=n) (Nat.le_refl n)
 have hd:=r.det h
 have hne:=C03 r.scale
 rw [h] at hd
 unfold B2m
 rw [if_neg (by omega),<- hd,Rat.div_def,Rat.mul_assoc,Rat.mul_inv_cancel _ hne,Rat.mul_one]
section
variable {h:Heap} {K:Value->Heap->Prop} {A:Option Addr} {n cap m:Nat} {r c:Int} {ls:Nat->List UInt8}
theorem A0c(gl:Gl h)(rv':RowV SSr h A n ls)(hn:n<=1000000)(hl:∀ i,i<n->(ls i).length<=100000000)(hs:∀ i,i<n->Sz m (rv (ls i)))(hb:∀ rows cols,MOk r c n ls rows cols->70*(3^cols*bnd cols m)+100<=40000000)
 (hK1:∀ q,MOk r c n ls q q->∀ h',h.le h'->K (.tuple #[.string (bs (N5 (B2m (rvs ls) q))),I 0]) h')
 (hK2:Mx r c n ls->r≠c->∀ h',h.le h'->K (.tuple #[.string (bs []),I 4]) h')
 (hK0:¬ Mx r c n ls->∀ h',h.le h'->K (.tuple #[.string (bs []),I 1]) h'):FCall Tryz.prog A0q #[Nh r c A n cap] h K:=by
 refine B72 _ _ _ _ _ ?_
 unfold C1j
 refine Ho gl rv' hn hl ?_ ?_
 ·intro rows cols mk b h1 own
  have hb':=hb rows cols mk
  have:=mk.r1;have:=mk.r2;have:=mk.c1;have:=mk.c2
  obtain ⟨rfl,rfl,h1',h2',h3',h4',rfl,hnum⟩:=id mk
  refine ⟨_,_,_,_,rfl,L8 (fun hne=>hK2 ⟨_,_,mk⟩ hne h1 own.le) (fun heq=>?_)⟩
  obtain rfl:rows=cols:=by omega
  refine Ir (E:=rvs ls) (cc:=rows) (m:=m) (gl.mono own.le) (own.vis S5) (Nat.le_refl _) (by omega) (by omega) (by omega) (by omega) (Nat.le_refl _) hs (by omega) ?_
  intro T h2 hred l2 e1 e2
  refine ⟨_,rfl,?_⟩
  refine FCall.mono hred ?_
  rintro r3 h3 ⟨g3,o3,A3,cap3,w,l3,t3,ow,ap,iw,rfl⟩
  have hzb:=A4k (E:=rvs ls) (rows:=rows) (c:=rows) hs (Nat.le_refl _)
  have hbd:=Yb (rvs ls) rows rows rows (bnd rows m)
  have hsg:=(Qt rows ⟨Zp (rvs ls) rows,A5b (rvs ls) rows,[],1,1⟩ (show (1:Int)≠0 by decide) (.inl rfl) (Nat.zero_le _) rows).2.1
  have hsg':(elP (rvs ls) rows rows rows).sgn=1\/(elP (rvs ls) rows rows rows).sgn= -1:=hsg
  have hscale:∀ i,i<rows->(elP (rvs ls) rows rows rows).S i≠0:=(Vd (rvs ls) (rows:=rows) (Nat.le_refl rows)).scale
  have lh3:=A0 own.le (A0 l3 t3.sep.le)
  have hdet:=B6h (rvs ls) (n:=rows)
  have hdet0:(elE (rvs ls) rows rows rows).cs.length<rows->B2m (rvs ls) rows=0:=fun h=>by unfold B2m;rw [if_pos h]
  have hlen:=(Vd (rvs ls) (rows:=rows) (Nat.le_refl rows)).asc
  refine ⟨_,_,_,_,_,_,_,_,rfl,?_⟩
  rw [B2i _ (Nat.le_refl _)]
  refine B7 (fun hlt=>?_) (fun hge=>?_)
  ·have:=hK1 rows mk h3 lh3
   rw [hdet0 (by omega),Zj] at this
   exact this
  have hfull:(elE (rvs ls) rows rows rows).cs.length=rows:=by omega
  have hdet':=hdet hfull
  generalize elP (rvs ls) rows rows rows=st at *
  have iw3:ZI h3 w.s w.A w.n w.c st.last:=iw.mono t3.sep.le
  refine A56 iw3 (fun w4 i4=>?_)
  have hB:1<=3^st.cs.length*bnd rows m:=Ws _ _ (by unfold bnd;omega)
  have sl:Sz (3^rows*bnd rows m) (st.last:Rat):=(Sz.int hzb.last hB).mono hbd
  refine ⟨_,_,_,_,_,_,_,_,rfl,fun L hp=>∃ w:QV,hp=h3/\L=[.bool w.s,.slice w.A w.n w.c,.bool w.s2,.slice w.A2 w.n2 w.c2]/\RQ h3 w ((st.sgn:Rat)*st.last),?_,?_⟩
  ·refine B7 (fun e=>?_) (fun e=>?_)
   ·have e1:st.sgn= -1:=by omega
    refine A5j i4 (fun w5 i5=>⟨_,_,_,_,_,_,_,_,rfl,w5,rfl,rfl,?_⟩)
    rw [e1]
    have:(((-1:Int)):Rat)*(st.last:Rat)= -(st.last:Rat):=by
     have:((-1:Int):Rat)= -1:=by decide +kernel
     rw [this];grind
    rw [this];exact i5
   ·have e1:st.sgn=1:=by omega
    refine ⟨w4,rfl,rfl,?_⟩
    rw [e1]
    have:((1:Int):Rat)*(st.last:Rat)=(st.last:Rat):=by
     have:((1:Int):Rat)=1:=rfl
     rw [this,Rat.one_mul]
    rw [this];exact i4
  ·rintro d0 d1A d1n d1c d2 d3A d3n d3c hp ⟨w5,rfl,eL,i5⟩
   simp only [List.cons.injEq,Value.bool.injEq,Value.slice.injEq,and_true] at eL
   obtain ⟨rfl,⟨rfl,rfl,rfl⟩,rfl,⟨rfl,rfl,rfl⟩⟩:=eL
   have s0:Sz (3^rows*bnd rows m) ((st.sgn:Rat)*st.last):=by
    rcases hsg' with e|e
    ·rw [e]
     have:((1:Int):Rat)*(st.last:Rat)=(st.last:Rat):=by
      have:((1:Int):Rat)=1:=rfl
      rw [this,Rat.one_mul]
     rw [this];exact sl
    ·rw [e]
     have:(((-1:Int)):Rat)*(st.last:Rat)= -(st.last:Rat):=by
      have:((-1:Int):Rat)= -1:=by decide +kernel
      rw [this];grind
     rw [this];exact sl.neg
   refine ⟨_,rfl,_,_,_,t3.c2,fun L hp'=>∃ (k:Nat) (w:QV),k<=rows/\hp.le hp'/\L=[I (k:Int),.bool w.s,.slice w.A w.n w.c,.bool w.s2,.slice w.A2 w.n2 w.c2]/\RQ hp' w ((st.sgn:Rat)*st.last/pr k st.S)/\Sz ((k+1)*(3^rows*bnd rows m)) ((st.sgn:Rat)*st.last/pr k st.S),fun L _=>rows-(iAt L 0).toNat,⟨0,w5,by omega,B3 _,rfl,?_,?_⟩,?_⟩
   ·have:(st.sgn:Rat)*st.last/pr 0 st.S=(st.sgn:Rat)*st.last:=by rw [pr,Rat.div_def];grind
    rw [this];exact i5
   ·have:(st.sgn:Rat)*st.last/pr 0 st.S=(st.sgn:Rat)*st.last:=by rw [pr,Rat.div_def];grind
    rw [this];exact s0.mono (by omega)
   rintro z e0 e1A e1n e1c e2' e3A e3n e3c h6 ⟨k,w6,hk,l6,eL,i6,s6⟩
   simp only [List.cons.injEq,Value.int.injEq,Value.bool.injEq,Value.slice.injEq,true_and,and_true] at eL
   obtain ⟨rfl,rfl,⟨rfl,rfl,rfl⟩,rfl,⟨rfl,rfl,rfl⟩⟩:=eL
   have lh6:=A0 lh3 l6
   have hk64:(k+1)*(3^rows*bnd rows m)<=65*(3^rows*bnd rows m):=Nat.mul_le_mul_right _ (by omega)
   refine B7 (fun hlt=>?_) (fun hge=>?_)
   ·have hkr:k<rows:=by rw [e1] at hlt;omega
    obtain ⟨w7,i7,c0,c1,c2,c3⟩:=t3.sat (i:=k) (by rw [e1];exact hkr)
    refine ⟨_,rfl,by omega,hlt,_,_,_,_,_,_,_,_,C6 l6 c0,C6 l6 c1,C6 l6 c2,C6 l6 c3,?_⟩
    have sS:Sz (3^rows*bnd rows m) (st.S k):=(hzb.S k hkr).mono (Nat.le_mul_of_pos_left _ (Nat.pow_pos (by decide)))
    have i7':RQ h6 w7 (st.S k):=S5 _ _ _ _ (A0 t3.sep.le l6) i7
    have ek:(k+1+1)*(3^rows*bnd rows m)=(k+1)*(3^rows*bnd rows m)+3^rows*bnd rows m:=by rw [Nat.add_mul (k+1),Nat.one_mul]
    refine My (gl.mono lh6).tz i6 i7' s6 (sS.mono (Nat.le_mul_of_pos_left _ (by omega))) (Nat.le_trans hB (Nat.le_trans hbd (Nat.le_mul_of_pos_left _ (by omega)))) (by omega) ?_
    intro w8 h8 l8 i8
    have hdv:(st.sgn:Rat)*st.last/pr k st.S/st.S k=(st.sgn:Rat)*st.last/pr (k+1) st.S:=by
     rw [pr,Rat.div_def,Rat.div_def,Rat.div_def,Rat.inv_mul_rev]
     grind
    refine ⟨_,_,_,_,_,_,_,_,rfl,?_⟩
    rw [show B4 ((k:Int)+1)=((k+1:Nat):Int) by rw [B6]<;>omega]
    refine ⟨⟨k+1,w8,by omega,A0 l6 l8,rfl,by rw [<- hdv];exact i8,?_⟩,by simp only [Fd];omega⟩
    rw [<- hdv,ek]
    exact s6.div sS (Nat.le_trans hB hbd)
   ·have hkr:k=rows:=by rw [e1] at hge;omega
    subst hkr
    rw [hdet'] at i6 s6
    exact On (gl.mono lh6).p10 i6 s6 (by omega) ⟨_,rfl,hK1 k mk h6 lh6⟩
 ·intro hno h1 l1
  exact ⟨_,_,_,_,rfl,hK0 hno h1 l1⟩
end
structure HV where
 A:Option Addr
 n:Nat
 c:Nat
abbrev HV.v(s:HV):Value:=.slice s.A s.n s.c
instance:Enc HV:=⟨⟨fun s=>[.slice s.A s.n s.c],1,fun _=>rfl,fun s v hv=>by rw [List.mem_singleton.1 hv];rfl⟩⟩
def RowsV(h:Heap)(A:Option Addr)(n w:Nat)(M:Nat->Nat->Rat):Prop:=∃ hd:List HV,SlF h A hd/\hd.length=n/\∀ i,i<n->∃ s,hd[i]? = some s/\s.n=w/\w<=s.c/\RowV NQr h s.A w (M i)
theorem RowsV.mono{h h':Heap}{A:Option Addr}{n w:Nat}{M:Nat->Nat->Rat}(l:h.le h')(r:RowsV h A n w M):RowsV h' A n w M:=by
 obtain ⟨hd,s,e,r⟩:=r
 refine ⟨hd,s.mono l,e,fun i hi=>?_⟩
 obtain ⟨s,e1,e2,e3,r⟩:=r i hi
 exact ⟨s,e1,e2,e3,r.mono Iv l⟩
theorem RowsV.congr{h:Heap}{A:Option Addr}{n w:Nat}{M M':Nat->Nat->Rat}(r:RowsV h A n w M)(e:∀ i j,i<n->j<w->M i j=M' i j):RowsV h A n w M':=by
 obtain ⟨hd,s,e1,r⟩:=r
 refine ⟨hd,s,e1,fun i hi=>?_⟩
 obtain ⟨s,e1,e2,e3,r⟩:=r i hi
 exact ⟨s,e1,e2,e3,r.congr fun j hj=>e i j hi hj⟩
theorem RowsV.at{h:Heap}{A:Option Addr}{n w:Nat}{M:Nat->Nat->Rat}(r:RowsV h A n w M){i:Nat}(hi:i<n):∃ (a:Addr) (s:HV),A=some a/\s.n=w/\w<=s.c/\h.cell? (Addr.add a (i*1))=some (.slice s.A s.n s.c)/\RowV NQr h s.A w (M i):=by
 obtain ⟨hd,s,e,r⟩:=r
 obtain ⟨u,e1,e2,e3,r⟩:=r i hi
 obtain ⟨a,ha,hc⟩:=SlF.at (by decide) s (i:=i) (by omega)
 have hu:hd[i]=u:=by
  rw [List.getElem?_eq_getElem (by omega)] at e1;exact Option.some.inj e1
 have:=hc 0 _ (by rw [hu];rfl)
 rw [Ls] at this
 exact ⟨a,u,ha,e2,e3,this,r⟩
structure Mt (h g o:Heap) (bo:Nat) (rb:Nat->Nat) (n w:Nat) (M:Nat->Nat->Rat):Prop where
 sep:Sep h g o
 hd:∃ hd:List HV,RowB o bo hd/\hd.length=n/\∀ i,i<n->∃ c,hd[i]? = some ⟨some ⟨rb i,0,none⟩,w,c⟩/\w<=c
 nb:∀ i,i<n->rb i≠bo
 inj:∀ i j,i<n->j<n->rb i=rb j->i=j
 row:∀ i,i<n->∃ xs:List QV,RowB o (rb i) xs/\xs.length=w/\Row NQr g xs w (M i)
section
variable {h g o:Heap} {bo n w:Nat} {rb:Nat->Nat} {M:Nat->Nat->Rat}
theorem Mt.next(t:Mt h g o bo rb n w M){h' g':Heap}(s:Sep h' g' o)(l:g.le g'):Mt h' g' o bo rb n w M:=by
 refine ⟨s,t.hd,t.nb,t.inj,fun i hi=>?_⟩
 obtain ⟨xs,r,e,q⟩:=t.row i hi
 exact ⟨xs,r,e,q.mono Iv l⟩
theorem Mt.congr(t:Mt h g o bo rb n w M){M':Nat->Nat->Rat}(e:∀ i j,i<n->j<w->M i j=M' i j):Mt h g o bo rb n w M':=by
 refine ⟨t.sep,t.hd,t.nb,t.inj,fun i hi=>?_⟩
 obtain ⟨xs,r,e1,q⟩:=t.row i hi
 exact ⟨xs,r,e1,q.congr fun j hj=>e i j hi hj⟩
theorem Mt.keep(t:Mt h g o bo rb n w M){h' g' o':Heap}(s:Sep h' g' o')(l:g.le g')(hk:∀ k x,o k=some x->(k=bo\/∃ i,i<n/\k=rb i)->o' k=some x):Mt h' g' o' bo rb n w M:=by
 refine ⟨s,?_,t.nb,t.inj,fun i hi=>?_⟩
 ·obtain ⟨hd,⟨e,ex,hb⟩,h1,h2⟩:=t.hd
  exact ⟨hd,⟨e,ex,hk _ _ hb (.inl rfl)⟩,h1,h2⟩
 ·obtain ⟨xs,⟨e,ex,hb⟩,h1,h2⟩:=t.row i hi
  exact ⟨xs,⟨e,ex,hk _ _ hb (.inr ⟨i,hi,rfl⟩)⟩,h1,h2.mono Iv l⟩
theorem Mt.own(t:Mt h g o bo rb n w M):(∃ x,o bo=some x)/\∀ i,i<n->∃ x,o (rb i)=some x:=by
 obtain ⟨hd,⟨e,ex,hb⟩,_⟩:=t.hd
 refine ⟨⟨_,hb⟩,fun i hi=>?_⟩
 obtain ⟨xs,⟨e,ex,hb⟩,_⟩:=t.row i hi
 exact ⟨_,hb⟩
theorem Mt.rowsV(t:Mt h g o bo rb n w M):RowsV h (some ⟨bo,0,none⟩) n w M:=by
 obtain ⟨hd,r,e,q⟩:=t.hd
 refine ⟨hd,r.slF t.sep.ole,e,fun i hi=>?_⟩
 obtain ⟨c,e1,hc⟩:=q i hi
 obtain ⟨xs,rx,e2,qx⟩:=t.row i hi
 exact ⟨_,e1,rfl,hc,xs,rx.slF t.sep.ole,e2,qx.mono Iv t.sep.le⟩
theorem Mt.head(t:Mt h g o bo rb n w M){i:Nat}(hi:i<n):∃ c,w<=c/\o.cell? (Addr.add ⟨bo,0,none⟩ (i*1))=some (.slice (some ⟨rb i,0,none⟩) w c):=by
 obtain ⟨hd,r,e,q⟩:=t.hd
 obtain ⟨c,e1,hc⟩:=q i hi
 refine ⟨c,hc,?_⟩
 have hu:hd[i]=⟨some ⟨rb i,0,none⟩,w,c⟩:=by
  rw [List.getElem?_eq_getElem (by omega)] at e1;exact Option.some.inj e1
 rw [D8,Nat.zero_add]
 exact r.cell (i:=i) (by omega) (j:=0) (by rw [hu];rfl)
theorem Mt.elem(t:Mt h g o bo rb n w M){i j:Nat}(hi:i<n)(hj:j<w):∃ x:QV,NQ g x (M i j)/\o.cell? (Addr.add (Addr.add ⟨rb i,0,none⟩ (j*4)) 0)=some (.bool x.s)/\o.cell? (Addr.add (Addr.add ⟨rb i,0,none⟩ (j*4)) 1)=some (.slice x.A x.n x.c)/\o.cell? (Addr.add (Addr.add ⟨rb i,0,none⟩ (j*4)) 2)=some (.bool x.s2)/\o.cell? (Addr.add (Addr.add ⟨rb i,0,none⟩ (j*4)) 3)=some (.slice x.A2 x.n2 x.c2):=by
 obtain ⟨xs,r,e,q⟩:=t.row i hi
 obtain ⟨x,e1,hx⟩:=q j hj
 have hu:xs[j]=x:=by
  rw [List.getElem?_eq_getElem (by omega)] at e1;exact Option.some.inj e1
 have cell:∀ k v,(enc x)[k]? = some v->o.cell? (Addr.add (Addr.add ⟨rb i,0,none⟩ (j*4)) k)=some v:=by
  intro k v hk
  rw [D8,D8,Nat.zero_add]
  exact r.cell (i:=j) (by omega) (j:=k) (by rw [hu];exact hk)
 exact ⟨x,hx,cell 0 _ rfl,cell 1 _ rfl,cell 2 _ rfl,cell 3 _ rfl⟩
def Wd(M:Nat->Nat->Rat)(i j:Nat)(q:Rat):Nat->Nat->Rat:=fun a b=>if a=i/\b=j then q else M a b
theorem Mt.store(t:Mt h g o bo rb n w M){i j:Nat}(hi:i<n)(hj:j<w){x:QV}{q:Rat}(hx:NQ g x q){K:Unit->Heap->Prop}
 (k:∀ h' o',Mt h' g o' bo rb n w (Wd M i j q)->(∀ k,k≠rb i->o' k=o k)->K () h'):wpH Tryz.prog (Instr.storeAt F7 (.pointer (some (Addr.add ⟨rb i,0,none⟩ (j*4)))) x.v) K h:=by
 obtain ⟨xs,r,e,q'⟩:=t.row i hi
 rw [D8,Nat.zero_add]
 refine Sep.store (E:=inferInstanceAs (Enc QV)) Zq (v:=x.v) (y:=x) rfl t.sep r (i:=j) (by omega) rfl ?_
 intro h' o' x' eo s' r'
 refine k h' o' ⟨s',?_,t.nb,t.inj,fun a ha=>?_⟩ (fun k hk=>by rw [eo,B5 _ _ hk])
 ·obtain ⟨hd,rh,h1,h2⟩:=t.hd
  exact ⟨hd,by rw [eo];exact rh.other (t.nb i hi).symm _,h1,h2⟩
 ·by_cases ea:a=i
  ·subst ea
   refine ⟨_,r',by simpa using e,?_⟩
   refine (Row.upd q' (k:=j) (by omega) hx).congr fun b _=>?_
   unfold Wd
   by_cases eb:b=j
   ·rw [if_pos eb,if_pos ⟨rfl,eb⟩]
   ·rw [if_neg eb,if_neg (fun x=>eb x.2)]
  ·obtain ⟨ys,ry,ey,qy⟩:=t.row a ha
   refine ⟨ys,by rw [eo];exact ry.other (fun e=>ea (t.inj a i ha hi e)) _,ey,qy.congr fun b _=>?_⟩
   unfold Wd
   rw [if_neg (fun x=>ea x.1)]
theorem Mt.swap{P:Program}(t:Mt h g o bo rb n w M){i k:Nat}(hi:i<n)(hk:k<n){t':TypeId}(one:P.cellsOf t'=1/\(P.info? t').isSome=true){ci ck:Nat}(hci:o.cell? (Addr.add ⟨bo,0,none⟩ (i*1))=some (.slice (some ⟨rb i,0,none⟩) w ci))(hck:o.cell? (Addr.add ⟨bo,0,none⟩ (k*1))=some (.slice (some ⟨rb k,0,none⟩) w ck))(hcw:w<=ci)(hcw2:w<=ck){X:Unit->Heap->Prop}
 (xx:∀ h1,(∀ {K:Unit->Heap->Prop},(∀ h' o',Mt h' g o' bo (fun a=>rb (xch i k a)) n w (fun a=>M (xch i k a))->(∀ k,k≠bo->o' k=o k)->K () h')->wpH P (Instr.storeAt t' (.pointer (some (Addr.add ⟨bo,0,none⟩ (i*1)))) (.slice (some ⟨rb k,0,none⟩) w ck)) K h1)->X () h1):
 wpH P (Instr.storeAt t' (.pointer (some (Addr.add ⟨bo,0,none⟩ (k*1)))) (.slice (some ⟨rb i,0,none⟩) w ci)) X h:=by
 obtain ⟨hd,r,e,q⟩:=t.hd
 rw [D8,Nat.zero_add]
 refine Sep.store (E:=inferInstanceAs (Enc HV)) one (v:=.slice (some ⟨rb i,0,none⟩) w ci) (y:=(⟨some ⟨rb i,0,none⟩,w,ci⟩:HV)) rfl t.sep r (i:=k) (by omega) rfl ?_
 intro h1 o1 x1 eo1 s1 r1
 refine xx h1 (fun {K} kk=>?_)
 rw [D8,Nat.zero_add]
 refine Sep.store (E:=inferInstanceAs (Enc HV)) one (v:=.slice (some ⟨rb k,0,none⟩) w ck) (y:=(⟨some ⟨rb k,0,none⟩,w,ck⟩:HV)) rfl s1 r1 (i:=i) (by simpa using (by omega:i<hd.length)) rfl ?_
 intro h2 o2 x2 eo2 s2 r2
 have ko:∀ b,b≠bo->o2 b=o b:=fun b hb=>by rw [eo2,B5 _ _ hb,eo1,B5 _ _ hb]
 have hx:∀ a,a<n->xch i k a<n:=fun a ha=>Fu hi hk ha
 have hinj:∀ a b,xch i k a=xch i k b->a=b:=fun a b h=>by rw [<- A72 (k:=i) (l:=k) (i:=a),h,A72]
 refine kk h2 o2 ⟨s2,⟨_,r2,by simpa using e,fun a ha=>?_⟩,fun a ha=>t.nb _ (hx a ha),fun a b ha hb h=>hinj a b (t.inj _ _ (hx a ha) (hx b hb) h),fun a ha=>?_⟩ ko
 ·by_cases e1:a=i
  ·subst e1
   exact ⟨ck,by rw [List.getElem?_set_self (by simp;omega)];unfold xch;rw [if_pos rfl],hcw2⟩
  ·rw [List.getElem?_set_ne (fun x=>e1 x.symm)]
   by_cases e2:a=k
   ·subst e2
    exact ⟨ci,by rw [List.getElem?_set_self (by omega)];unfold xch;rw [if_neg e1,if_pos rfl],hcw⟩
   ·rw [List.getElem?_set_ne (fun x=>e2 x.symm)]
    obtain ⟨c,h1,h2⟩:=q a ha
    exact ⟨c,by rw [h1];unfold xch;rw [if_neg e1,if_neg e2],h2⟩
 ·obtain ⟨xs,rx,ex,qx⟩:=t.row _ (hx a ha)
  obtain ⟨e,ex',hb⟩:=rx
  exact ⟨xs,⟨e,ex',by rw [ko _ (t.nb _ (hx a ha))];exact hb⟩,ex,qx⟩
end
def RWr(w:Nat):Heap->HV->(Nat->Rat)->Prop:=fun h s f=>s.n=w/\w<=s.c/\RowV NQr h s.A w f
theorem A5q(w:Nat):Mon (RWr w):=fun _ _ _ _ l i=>⟨i.1,i.2.1,i.2.2.mono Iv l⟩
theorem RowsV.of{h:Heap}{A:Option Addr}{n w:Nat}{M:Nat->Nat->Rat}(r:RowV (RWr w) h A n M):RowsV h A n w M:=r
theorem A3a{α:Type}[E:Enc α]{P:Program}{t e ty:TypeId}{z:Value}{bytes:Nat}(st:SliceT P t e z E.default.size bytes){h g o:Heap}(s:Sep h g o){A:Option Addr}{B:Option Addr}{d m:Nat}{ys:List α}(hm:m=ys.length)(hne:ys≠[])(sy:SlF h B ys)
 (hb:(2*ys.length+192)*bytes<=281474976710656) (hn:ys.length<=9223372036854775807) {K:Value->Heap->Prop}
 (x:∀ b c' h' g' o' y,o'=o.put b y->h b=none->g.le g'->Sep h' g' o'->ys.length<=c'->RowB o' b ys->K (.slice (some ⟨b,0,none⟩) m c') h'):wpH P (Builtin.append_ #[t,t] ty #[.slice A 0 0,.slice B m d]) K h:=by
 have p:PrivF h h e A 0 ([]:List α):=PrivF.nil h e A
 refine Ia st p hm sy (by simpa using hb) (by simpa using hn) ?_
 intro A' c' h' g' hg hp
 rw [List.nil_append] at hp
 obtain ⟨b,y,hA,hgb,hh,_,rb⟩:=B03 hp hne
 obtain ⟨g2,lg2,s2⟩:=s.after hg
 have hlc:=hp.2.1
 have hbn:h b=none:=by
  cases hx:h b with
  | none=>rfl
  | some u=>rw [hg b u hx] at hgb;cases hgb
 subst hh
 obtain ⟨e',ex,hb'⟩:=rb
 rw [B9] at hb'
 have:=x b c' _ g2 (o.put b y) y rfl hbn lg2 (s2.new hgb y) hlc ⟨e',ex,by rw [B9];exact hb'⟩
 rw [hA,List.nil_append,<- hm]
 exact this
section
variable {h:Heap} {K:Value->Heap->Prop} {A:Option Addr} {n cap m w:Nat} {r c:Int} {ls:Nat->List UInt8} {M:Nat->Nat->Rat}
theorem Nk(rv':RowV SSr h A n ls)(hn:n<=1000000)(hl:∀ i,i<n->(ls i).length<=100000000)
 (hK1:∀ rows cols,MOk r c n ls rows cols->∀ b h',h.le h'->RowsV h' (some ⟨b,0,none⟩) rows cols (mtx (rvs ls) cols)->K (.tuple #[.slice (some ⟨b,0,none⟩) rows rows,.bool true]) h')
 (hK0:¬ Mx r c n ls->∀ h',h.le h'->K (.tuple #[.slice none 0 0,.bool false]) h'):FCall Tryz.prog Rx #[Nh r c A n cap] h K:=by
 refine B3m _ _ _ _ _ ?_
 unfold B96
 have no:∀ (_:¬ A3i r c n),K (.tuple #[.slice none 0 0,.bool false]) h:=fun hs=>hK0 (fun x=>hs (Vw.1 x).1) h (B3 _)
 refine B7 (fun e=>no fun s=>by have:=s.1;omega) (fun h1=>B7 (fun e=>no fun s=>by have:=s.2.1;omega) (fun h2=>B7 (fun e=>no fun s=>by have:=s.2.2.1;omega) (fun h3=>B7 (fun e=>no fun s=>by have:=s.2.2.2.1;omega) (fun h4=>?_))))
 have hrc:r*c<=64*64:=Int.mul_le_mul (by omega) (by omega) (by omega) (by omega)
 have hrc0:0<=r*c:=Int.mul_nonneg (by omega) (by omega)
 have ew:B4 (r*c)=r*c:=B6 (by omega) (by omega)
 rw [ew]
 refine L8 (fun e=>no fun s=>e s.2.2.2.2) (fun h5=>?_)
 have sh:A3i r c n:=⟨by omega,by omega,by omega,by omega,h5⟩
 refine A89 rv' hn hl (fun hnum b h1' own=>?_) (fun hno h' l=>⟨_,_,_,_,rfl,hK0 (fun x=>hno (Vw.1 x).2) h' l⟩)
 have mk:=MOk.of sh hnum
 generalize r.toNat=rows at mk
 generalize c.toNat=cols at mk
 have:=mk.r1;have:=mk.r2;have:=mk.c1;have:=mk.c2
 obtain ⟨rfl,rfl,_,_,_,_,rfl,_⟩:=id mk
 have ov:=own.vis Iv
 refine ⟨_,_,_,_,rfl,N9 B7k (zx:=(⟨none,0,0⟩:HV)) rfl (by omega) (by omega) (by omega) (by omega) ?_⟩
 intro b2 hb2
 refine ⟨_,_,_,rfl,fun L hp=>∃ k:Nat,k<=rows/\L=[I (k:Int)]/\OwnK (RWr cols) h1' hp b2 rows k (mtx (rvs ls) cols),fun L _=>rows-(iAt L 0).toNat,⟨0,by omega,rfl,OwnK.zero hb2⟩,?_⟩
 rintro z hp ⟨k,hk,eL,g,o,xs,lg,s,rb,hx,rr⟩
 obtain rfl:z=(k:Int):=by simpa using eL
 refine B7 (fun hlt=>?_) (fun hge=>?_)
 ·have hkr:k<rows:=by omega
  have h2:(k+1)*cols<=rows*cols:=Nat.mul_le_mul_right _ hkr
  have h3:(k+1)*cols=k*cols+cols:=by rw [Nat.add_mul,Nat.one_mul]
  have hrc':rows*cols<=64*64:=Nat.mul_le_mul (by omega) (by omega)
  have e0:B4 ((k:Int)+1)=((k+1:Nat):Int):=B6 (by omega) (by omega)
  have e1:B4 ((k:Int)*(cols:Int))=((k*cols:Nat):Int):=by rw [<- Int.natCast_mul];exact V9 (by omega)
  have e2:B4 (B4 ((k:Int)+1)*(cols:Int))=(((k+1)*cols:Nat):Int):=by rw [e0,<- Int.natCast_mul];exact V9 (by omega)
  rw [e1,e2,e0]
  refine ⟨⟨by omega,by omega⟩,⟨by omega,by simp only [Int.toNat_natCast];omega⟩,_,rfl,by omega,by omega,?_⟩
  simp only [Int.toNat_natCast]
  have e5:(k+1)*cols-k*cols=cols:=by omega
  rw [e5]
  have row:RowV NQr h1' (I8 (some ⟨b,0,none⟩) (rows*cols) (k*cols) 4) cols (mtx (rvs ls) cols k):=ov.cut (c:=rows*cols) (l:=k*cols) (k:=cols) (by omega) (Nat.le_refl _)
  refine OwnK.store (A5q cols) Kc (y:=(⟨I8 (some ⟨b,0,none⟩) (rows*cols) (k*cols) 4,cols,rows*cols-k*cols⟩:HV)) lg (B3 _) s rb (by simpa using hx) rr hkr rfl ⟨rfl,by show cols<=rows*cols-k*cols;omega,row.mono Iv lg⟩ ?_
  intro h4 ow
  exact ⟨⟨k+1,by omega,rfl,ow⟩,by simp only [Fd];omega⟩
 ·have:k=rows:=by omega
  subst this
  have own2:Own (RWr cols) h1' hp b2 k (mtx (rvs ls) cols):=⟨g,o,xs,lg,s,rb,hx,rr⟩
  exact hK1 _ _ mk b2 hp (A0 own.le own2.le) (RowsV.of (own2.vis (A5q cols)))
theorem Uy{rcap:Nat}(rs:RowsV h A n w M)(hn:n<=1000000)(hw1:1<=w)(hw:w<=1000000)(hn1:1<=n)
 (hK:∀ h' g' o' bo rb c',h.le g'->Mt h' g' o' bo rb n w M->K (.slice (some ⟨bo,0,none⟩) n c') h'):FCall Tryz.prog Xv #[.slice A n rcap] h K:=by
 refine B3o _ _ _ ?_
 unfold B99
 refine ⟨fun L hp=>∃ (k:Nat) (g o:Heap) (hd:List HV) (rb:Nat->Nat) (A':Option Addr) (c':Nat),k<=n/\L=[.slice A' k c',I (k:Int)]/\h.le g/\Sep hp g o/\OwnSl o G0 A' c' hd/\hd.length=k/\(∀ i,i<k->∃ c,hd[i]? = some ⟨some ⟨rb i,0,none⟩,w,c⟩/\w<=c)/\(∀ i,i<k->A'≠some ⟨rb i,0,none⟩)/\(∀ i j,i<k->j<k->rb i=rb j->i=j)/\∀ i,i<k->∃ xs:List QV,RowB o (rb i) xs/\xs.length=w/\Row NQr g xs w (M i),fun L _=>n-(iAt L 1).toNat,
  ⟨0,h,Ch,[],fun _=>0,none,0,by omega,rfl,B3 _,Sep.refl h,OwnSl.nil,rfl,fun i hi=>by omega,fun i hi=>by omega,fun i j hi=>by omega,fun i hi=>by omega⟩,?_⟩
 rintro oA on oc z hp ⟨k,g,o,hd,rb,A',c',hk,eL,lg,s,ow,hhd,hhd2,hap,hinj,hrow⟩
 simp only [List.cons.injEq,Value.int.injEq,Value.slice.injEq,true_and,and_true] at eL
 obtain ⟨⟨rfl,rfl,rfl⟩,rfl⟩:=eL
 refine B7 (fun hlt=>?_) (fun hge=>?_)
 ·have hkn:on<n:=by omega
  refine Ri Zr ?_
  intro be hbe
  have s1:=s.vis hbe (.cells #[] F7)
  have lgb:g.le (g.put be (.cells #[] F7)):=Heap.le_put _ (by
   cases hx:g be with
   | none=>rfl
   | some y=>rw [s.le _ _ hx] at hbe;cases hbe)
  have lh1:=A0 lg lgb
  obtain ⟨a,sv,ea,e1,e2,hc,xs,sx,hxl,qx⟩:=rs.at hkn
  refine ⟨_,_,_,rfl,a,ea,by omega,by omega,_,_,_,C6 (A0 lh1 s1.le) hc,?_⟩
  refine A3a Zr s1 (ys:=xs) (by omega) (by rintro rfl;simp at hxl;omega) (sx.mono (A0 lh1 s1.le)) (by omega) (by omega) ?_
  intro b2 c2 h2 g2 o2 y eo hb2 l2 s2 hc2 rb2
  refine ⟨_,_,_,rfl,?_⟩
  have ob2:∀ q x,o q=some x->q≠b2:=by
   rintro q x e rfl
   have:=s1.ole q x e
   rw [this] at hb2;cases hb2
  have ow2:OwnSl o2 G0 oA oc hd:=ow.keep fun q x _ e=>by rw [eo,B5 _ _ (ob2 q x e)];exact e
  have hA2:oA≠some ⟨b2,0,none⟩:=by
   intro hA
   rcases ow.2 with ⟨_,h0⟩|⟨b',arr,hA',hbo,_⟩
   ·rw [hA] at h0;cases h0
   ·rw [hA] at hA'
    simp only [Option.some.injEq,Addr.mk.injEq,and_true] at hA'
    exact ob2 _ _ hbo hA'.symm
  refine V6 (ty:=Fw) B7k s2 ow2 hhd.symm (y:=(⟨some ⟨b2,0,none⟩,sv.n,c2⟩:HV)) rfl (by decide) (by rw [hhd];omega) (by rw [hhd];omega) ?_
  intro A3 c3 h3 g3 o3 l3 s3 ow3 kp
  have kq:∀ i,i<on->∃ x,o (rb i)=some x:=fun i hi=>by
   obtain ⟨xs,⟨e,ex,hb⟩,_⟩:=hrow i hi;exact ⟨_,hb⟩
  obtain ⟨e5,ex5,hb5⟩:=id rb2
  have k2:=kp b2 _ hb5 hA2
  rw [hhd,show B4 ((on:Int)+1)=((on+1:Nat):Int) by rw [B6]<;>omega]
  have gall:=A0 lgb (A0 l2 l3)
  refine ⟨⟨on+1,g3,o3,_,fun i=>if i=on then b2 else rb i,A3,c3,by omega,rfl,A0 lg gall,s3,ow3,by rw [List.length_append,hhd];rfl,fun i hi=>?_,fun i hi=>?_,fun i j hi hj h=>?_,fun i hi=>?_⟩,?_⟩
  ·show ∃ c,(hd++[(⟨some ⟨b2,0,none⟩,sv.n,c2⟩:HV)])[i]? = some ⟨some ⟨if i=on then b2 else rb i,0,none⟩,w,c⟩/\w<=c
   by_cases e:i=on
   ·subst e
    exact ⟨c2,by rw [List.getElem?_append_right (by omega),hhd,if_pos rfl,e1];simp,by omega⟩
   ·obtain ⟨c,h1,h2⟩:=hhd2 i (by omega)
    exact ⟨c,by rw [List.getElem?_append_left (by omega),if_neg e];exact h1,h2⟩
  ·show A3≠some ⟨if i=on then b2 else rb i,0,none⟩
   by_cases e:i=on
   ·rw [if_pos e];exact k2.2
   ·rw [if_neg e]
    obtain ⟨x,hx⟩:=kq i (by omega)
    exact (kp (rb i) x (by rw [eo,B5 _ _ (ob2 _ _ hx)];exact hx) (hap i (by omega))).2
  ·have h':(if i=on then b2 else rb i)=(if j=on then b2 else rb j):=h
   by_cases e1:i=on
   ·by_cases e2:j=on
    ·omega
    ·rw [if_pos e1,if_neg e2] at h'
     obtain ⟨x,hx⟩:=kq j (by omega)
     exact absurd h'.symm (ob2 _ _ hx)
   ·by_cases e2:j=on
    ·rw [if_neg e1,if_pos e2] at h'
     obtain ⟨x,hx⟩:=kq i (by omega)
     exact absurd h' (ob2 _ _ hx)
    ·rw [if_neg e1,if_neg e2] at h'
     exact hinj i j (by omega) (by omega) h'
  ·show ∃ xs:List QV,RowB o3 (if i=on then b2 else rb i) xs/\_
   by_cases e:i=on
   ·subst e
    rw [if_pos rfl]
    exact ⟨xs,⟨e5,ex5,k2.1⟩,hxl,qx.mono Iv (A0 lg gall)⟩
   ·rw [if_neg e]
    obtain ⟨ys,⟨ey,exy,hby⟩,hyl,qy⟩:=hrow i (by omega)
    refine ⟨ys,⟨ey,exy,?_⟩,hyl,qy.mono Iv gall⟩
    exact (kp (rb i) _ (by rw [eo,B5 _ _ (ob2 _ _ hby)];exact hby) (hap i (by omega))).1
  ·show n-((on+1:Nat):Int).toNat<n-((on:Nat):Int).toNat
   omega
 ·have hke:on=n:=by omega
  subst hke
  obtain ⟨bo,rfl,rbo⟩:=ow.rowB (by rintro rfl;simp at hhd;omega)
  exact hK hp g o bo rb oc lg ⟨s,⟨hd,rbo,hhd,hhd2⟩,fun i hi e=>hap i hi (by rw [e]),hinj,hrow⟩
end
section
variable {α:Type} [E:Enc α]
theorem OwnSl.app{P:Program}{t e ty:TypeId}{z:Value}{bytes:Nat}(st:SliceT P t e z E.default.size bytes){h g o:Heap}{A:Option Addr}{c:Nat}{xs:List α}(s:Sep h g o)(w:OwnSl o e A c xs){B:Option Addr}{d m n:Nat}{ys:List α}(hxn:n=xs.length)(hm:m=ys.length)(hne:ys≠[])(sy:SlF h B ys)(hb:(2*(xs.length+ys.length)+192)*bytes<=281474976710656)(hn:xs.length+ys.length<=9223372036854775807){K:Value->Heap->Prop}
 (x:∀ A' c' h' g' o',g.le g'->Sep h' g' o'->OwnSl o' e A' c' (xs++ys)->(∀ k u,o k=some u->A≠some ⟨k,0,none⟩->o' k=some u/\A'≠some ⟨k,0,none⟩)->K (.slice A' (xs.length+m) c') h'):
 wpH P (Builtin.append_ #[t,t] ty #[.slice A n c,.slice B m d]) K h:=by
 subst hxn
 obtain ⟨gb,p,hkeep⟩:=w.priv s
 refine Ia st p hm sy hb hn ?_
 intro A' c' h' g' hg hp
 rw [List.length_append,<- hm]
 have hgk:∀ k u,h k=some u->A≠some ⟨k,0,none⟩->g' k=some u:=by
  intro k u e1 hne
  exact hg k u (hkeep k u e1 hne)
 have hnA:∀ k u,g k=some u->A≠some ⟨k,0,none⟩:=by
  intro k u e1 hA
  rcases w.2 with ⟨_,h0⟩|⟨b',arr,hA',hb',_⟩
  ·rw [hA] at h0;cases h0
  ·rw [hA] at hA'
   simp only [Option.some.injEq,Addr.mk.injEq,and_true] at hA'
   subst hA'
   rw [s.dis k _ hb'] at e1;cases e1
 rcases hp.2.2 with ⟨hc0,_⟩|⟨b',arr,hA',hb',hh',ha,ht⟩
 ·exfalso
  have:=hp.2.1
  rw [List.length_append] at this
  have:ys.length≠0:=fun h=>hne (List.eq_nil_of_length_eq_zero h)
  omega
 ·subst hA'
  let o':Heap:=fun k=>if k=b' then some (.cells (List.toArray arr) e) else if A=some ⟨k,0,none⟩ then none else o k
  have ob:o' b'=some (.cells (List.toArray arr) e):=by show (if b'=b' then _ else _)=_;rw [if_pos rfl]
  have ok:∀ k,k≠b'->A≠some ⟨k,0,none⟩->o' k=o k:=fun k h1 h2=>by show (if k=b' then _ else if _ then _ else _)=_;rw [if_neg h1,if_neg h2]
  have ono:∀ k,k≠b'->A=some ⟨k,0,none⟩->o' k=none:=fun k h1 h2=>by show (if k=b' then _ else if _ then _ else _)=_;rw [if_neg h1,if_pos h2]
  let g2:Heap:=fun k=>match o' k with|some _=>none|none=>h' k
  have gs:∀ k u,o' k=some u->g2 k=none:=fun k u e1=>by show (match o' k with|some _=>none|none=>h' k)=_;rw [e1]
  have gn:∀ k,o' k=none->g2 k=h' k:=fun k e1=>by show (match o' k with|some _=>none|none=>h' k)=_;rw [e1]
  have hput:∀ k u,k≠b'->g' k=some u->h' k=some u:=fun k u h1 e1=>by rw [hh',B5 _ _ h1];exact e1
  have hown:∀ k u,o k=some u->A≠some ⟨k,0,none⟩->k≠b':=by
   rintro k u e1 h2 rfl
   have:=hgk k u (s.own k u e1) h2
   rw [hb'] at this;cases this
  refine x _ c' h' g2 o' (fun k u e1=>?_) ⟨fun k u e1=>?_,fun k e1=>(gn k e1).symm,gs⟩ ⟨hp.2.1,.inr ⟨b',arr,rfl,ob,ha,ht⟩⟩ (fun k u e1 h2=>?_)
  ·have hk0:o k=none:=by
    cases ho:o k with
    | none=>rfl
    | some y=>rw [s.dis k y ho] at e1;cases e1
   have hA:=hnA k u e1
   have e3:=hgk k u (s.le k u e1) hA
   have hkb':k≠b':=by rintro rfl;rw [hb'] at e3;cases e3
   rw [gn k (by rw [ok k hkb' hA];exact hk0)]
   exact hput k u hkb' e3
  ·by_cases hkb:k=b'
   ·subst hkb
    rw [ob] at e1;cases e1
    rw [hh',B9]
   ·by_cases hA:A=some ⟨k,0,none⟩
    ·rw [ono k hkb hA] at e1;cases e1
    ·rw [ok k hkb hA] at e1
     exact hput k u hkb (hgk k u (s.own k u e1) hA)
  ·have hkb:=hown k u e1 h2
   refine ⟨by rw [ok k hkb h2];exact e1,fun h3=>hkb ?_⟩
   simp only [Option.some.injEq,Addr.mk.injEq,and_true] at h3
   exact h3.symm
end
def Nm(M:Nat->Nat->Rat)(w:Nat):Nat->List UInt8:=fun k=>N5 (M (k/w) (k%w))
section
variable {h:Heap} {K:Value->Heap->Prop} {A:Option Addr} {n cap m w:Nat} {M:Nat->Nat->Rat}
theorem Nl(rs:RowsV h A n w M)(hn:n<=10000)(hw1:1<=w)(hw:w<=10000)(hn1:1<=n)(hs:∀ i j,i<n->j<w->Sz m (M i j))(hm:m<=400000000)
 (hK:∀ A' c' h',h.le h'->n*w<=c'->RowV SSr h' A' (n*w) (Nm M w)->K (Nh n w A' (n*w) c') h'):FCall Tryz.prog Ry #[.slice A n cap] h K:=by
 refine B3n _ _ _ ?_
 unfold B97
 refine D9 (fun e=>by omega) (fun _=>?_)
 obtain ⟨a,sv,rfl,e1,e2,hc,_⟩:=rs.at (i:=0) (by omega)
 have hnw:n*w<=10000*10000:=Nat.mul_le_mul hn hw
 refine ⟨a,rfl,by omega,by omega,_,_,_,hc,fun L hp=>∃ (k:Nat) (g o:Heap) (xs:List (List UInt8)) (A':Option Addr) (c':Nat),k<=n/\L=[I (k:Int),I (n:Int),I (w:Int),.slice A' (k*w) c']/\h.le g/\Sep hp g o/\OwnSl o S4 A' c' xs/\xs.length=k*w/\Row SSr g xs (k*w) (Nm M w),fun L _=>n-(iAt L 0).toNat,⟨0,h,Ch,[],none,0,by omega,by rw [e1,Nat.zero_mul];rfl,B3 _,Sep.refl h,OwnSl.nil,by simp,by rw [Nat.zero_mul];exact Row.nil⟩,?_⟩
 rintro z m0 m1 mA mn mc hp ⟨k,g,o,xs,A',c',hk,eL,lg,s,ow,hxl,rr⟩
 simp only [List.cons.injEq,Value.int.injEq,Value.slice.injEq,true_and,and_true] at eL
 obtain ⟨rfl,rfl,rfl,rfl,rfl,rfl⟩:=eL
 refine B7 (fun hlt=>?_) (fun hge=>?_)
 ·have hkn:k<n:=by omega
  obtain ⟨a1,s1,ea,f1,f2,hc1,row⟩:=rs.at hkn
  have lhp:=A0 lg s.le
  have hk1:(k+1)*w=k*w+w:=by rw [Nat.add_mul,Nat.one_mul]
  have hkw:(k+1)*w<=n*w:=Nat.mul_le_mul_right _ hkn
  refine ⟨a1,ea,by omega,by omega,_,_,_,C6 lhp hc1,?_⟩
  rw [f1]
  refine s.call (A59 (row.mono Iv lg) (by omega) (fun j hj=>hs k j hkn hj) (by omega) ?_)
  intro b2 g2 own h2 s2
  have lg2:=own.le
  obtain ⟨ys,sy,hyl,qy⟩:=own.vis Bq
  refine ⟨_,_,_,rfl,s.le_le s2 lg2,?_⟩
  refine OwnSl.app (ty:=Qm) Hk s2 ow (by omega) hyl.symm (by rintro rfl;simp at hyl;omega) (sy.mono s2.le) (by omega) (by omega) ?_
  intro A3 c3 h3 g3 o3 l3 s3 ow3 _
  rw [hxl,<- hk1,show B4 ((k:Int)+1)=((k+1:Nat):Int) by rw [B6]<;>omega]
  refine ⟨_,_,_,rfl,⟨k+1,g3,o3,_,A3,c3,by omega,rfl,A0 lg (A0 lg2 l3),s3,ow3,by rw [List.length_append,hxl,hyl,hk1],fun i hi=>?_⟩,by simp only [Fd];omega⟩
  by_cases e:i<k*w
  ·obtain ⟨u,e1,hu⟩:=rr i e
   exact ⟨u,by rw [List.getElem?_append_left (by omega)];exact e1,hu⟩
  ·obtain ⟨j0,rfl⟩:∃ j0,i=k*w+j0:=⟨i-k*w,by omega⟩
   have hj0:j0<w:=by omega
   obtain ⟨u,e1,hu⟩:=qy j0 hj0
   refine ⟨u,by rw [List.getElem?_append_right (by omega),hxl,Nat.add_sub_cancel_left];exact e1,?_⟩
   have hu':u=N5 (M k j0):=hu
   have hd:(k*w+j0)/w=k:=by rw [Nat.mul_comm,Nat.mul_add_div (by omega),Nat.div_eq_of_lt hj0,Nat.add_zero]
   have hm':(k*w+j0)%w=j0:=by rw [Nat.mul_comm,Nat.mul_add_mod,Nat.mod_eq_of_lt hj0]
   show u=Nm M w (k*w+j0)
   unfold Nm
   rw [hd,hm'];exact hu'
 ·have:k=n:=by omega
  subst this
  have hcap:=ow.1
  exact hK mA mc hp (A0 lg s.le) (by omega) ⟨xs,ow.slF s.ole,hxl,rr.mono Bq s.le⟩
end
abbrev ecE(M:Nat->Nat->Rat)(n c:Nat):ES:=A2b n ⟨M,[],1⟩ c
theorem A7r{n:Nat}{s:ES}{c:Nat}(h:n<=(A2b n s c).cs.length):∀ d,A2b n s (c+d)=A2b n s c:=by
 intro d
 induction d with
 | zero=>rfl
 | succ d ih=>
  show Fo n (c+d) (A2b n s (c+d))=_
  rw [ih]
  unfold Fo
  rw [if_neg (by omega)]
theorem Yc(M:Nat->Nat->Rat)(n:Nat):∀ c,(ecE M n c).cs.length<=c/\(ecE M n c).cs.length<=n:=by
 intro c
 induction c with
 | zero=>exact ⟨Nat.le_refl _,Nat.zero_le _⟩
 | succ c ih=>
  show (Fo n c (ecE M n c)).cs.length<=c+1/\(Fo n c (ecE M n c)).cs.length<=n
  unfold Fo
  split
  ·split
   ·show ((ecE M n c).cs++[c]).length<=c+1/\((ecE M n c).cs++[c]).length<=n
    rw [List.length_append]
    exact ⟨Nat.succ_le_succ ih.1,by simp only [List.length_cons,List.length_nil];omega⟩
   ·show (ecE M n c).cs.length<=c+1/\_
    exact ⟨Nat.le_succ_of_le ih.1,ih.2⟩
  ·exact ⟨Nat.le_succ_of_le ih.1,ih.2⟩
def A0s(M:Nat->Nat->Rat)(n c:Nat):Rat:=if (ecE M n c).cs.length<c then 0 else (ecE M n c).det
abbrev qc(w:QV):List Value:=[.bool w.s,.slice w.A w.n w.c,.bool w.s2,.slice w.A2 w.n2 w.c2]
theorem B7q{w:QV}{a b:Bool}{A B:Option Addr}{n c n' c':Nat}{l l':List Value}(h:(.bool a:Value) :: .slice A n c :: .bool b :: .slice B n' c'::l= .bool w.s :: .slice w.A w.n w.c :: .bool w.s2 :: .slice w.A2 w.n2 w.c2::l'):(⟨a,A,n,c,b,B,n',c'⟩:QV)=w/\l=l':=by
 simp only [List.cons.injEq,Value.bool.injEq,Value.slice.injEq] at h
 obtain ⟨rfl,⟨rfl,rfl,rfl⟩,rfl,⟨rfl,rfl,rfl⟩,h⟩:=h
 exact ⟨rfl,h⟩
def To(bo:Nat)(rb:Nat->Nat)(n:Nat)(A:Option Addr):Prop:=A≠some ⟨bo,0,none⟩/\∀ i,i<n->A≠some ⟨rb i,0,none⟩
section
variable {g o h11 h14 h15 hp2:Heap} {bo n w r c i B:Nat} {rb:Nat->Nat} {R:Nat->Nat->Rat} {x:QV} {q:Rat} {Invv Invv3:List Value->Heap->Prop} {muv muv3:List Value->Heap->Nat}
theorem C0b(t:Mt h15 g o bo rb n w R)(hi:i<n)(hr:r<n)(hir:i≠r)(hcw:c<=w)(hn:n<=10000)(hw:w<=10000)(ix:NQ g x q)(s1:∀ b,b<w->Sz B (R i b))(s2:∀ b,b<w->Sz (B+B) (R r b))(s3:Sz B q)(hB:B*7<=100000000)
 (fin:∀ h' g' o',g.le g'->Mt h' g' o' bo rb n w (fun a b=>if a=i/\c<=b then R i b-q*R r b else R a b)->(∀ b,(∀ i,i<n->b≠rb i)->o' b=o b)->Invv3 [I (B4 ((i:Int)+1))] h'/\muv3 [I (B4 ((i:Int)+1))] h'<muv3 [I (i:Int)] h14):
 Jk Tryz.prog (some ⟨bo,0,none⟩) n r (c:Int) Invv3 muv3 (i:Int) x.s x.A x.n x.c x.s2 x.A2 x.n2 x.c2 h15 h14:=by
 unfold Jk
 refine ⟨fun L hq=>∃ (k:Nat) (g' o':Heap),c<=k/\k<=w/\L=[I (k:Int)]/\g.le g'/\Mt hq g' o' bo rb n w (fun a b=>if a=i/\c<=b/\b<k then R i b-q*R r b else R a b)/\(∀ b,(∀ i,i<n->b≠rb i)->o' b=o b),fun L _=>w-(iAt L 0).toNat,⟨c,g,o,Nat.le_refl _,hcw,rfl,B3 _,t.congr (fun a b _ _=>by rw [if_neg (by omega)]),fun _ _=>rfl⟩,?_⟩
 rintro z h16 ⟨k,g6,o6,hck,hkj,eL6,l6,t6,ko6⟩
 obtain rfl:z=(k:Int):=by simpa using eL6
 obtain ⟨c6,hc6,kh6⟩:=t6.head hi
 have hd6:=t6.sep.cell kh6
 refine ⟨_,rfl,by omega,by omega,_,_,_,hd6,B7 (fun hlt=>?_) (fun hge=>?_)⟩
 ·have hkj':k<w:=by omega
  obtain ⟨c7,hc7,kh7⟩:=t6.head hr
  obtain ⟨y,iy,y0,y1,y2,y3⟩:=t6.elem hi hkj'
  obtain ⟨v,iv,v0,v1,v2,v3⟩:=t6.elem hr hkj'
  rw [if_neg (by omega)] at iy
  rw [if_neg (fun x=>hir x.1.symm)] at iv
  refine ⟨_,rfl,by omega,by omega,_,_,_,hd6,_,rfl,by omega,by omega,_,_,_,hd6,_,rfl,by omega,by omega,_,_,_,_,_,_,_,_,t6.sep.cell y0,t6.sep.cell y1,t6.sep.cell y2,t6.sep.cell y3,_,rfl,by omega,by omega,_,_,_,t6.sep.cell kh7,_,rfl,by omega,by omega,_,_,_,_,_,_,_,_,t6.sep.cell v0,t6.sep.cell v1,t6.sep.cell v2,t6.sep.cell v3,?_⟩
  refine t6.sep.call (Qv (ix.mono l6) iv (s3.mono (show B<=B+B by omega)) (s2 k hkj') (by omega) ?_)
  intro w7 g7 l7 i7 h17 s17
  have t7:=t6.next s17 l7
  refine ⟨_,_,_,_,_,_,_,_,rfl,t6.sep.le_le s17 l7,?_⟩
  refine s17.call (Zy (iy.mono l7) i7 ((s1 k hkj').mono (show B<=B+(B+B) by omega)) (s3.mul (s2 k hkj')) (by omega) ?_)
  intro w8 g8 l8 i8 h18 s18
  have t8:=t7.next s18 l8
  refine ⟨_,_,_,_,_,_,_,_,rfl,s17.le_le s18 l8,_,rfl,by omega,by omega,?_⟩
  refine t8.store hi hkj' (x:=w8) i8 ?_
  intro h19 o19 t19 ko19
  rw [show B4 ((k:Int)+1)=((k+1:Nat):Int) by rw [B6]<;>omega]
  refine ⟨⟨k+1,g8,o19,by omega,by omega,rfl,A0 l6 (A0 l7 l8),t19.congr (fun a b _ _=>?_),fun b hb=>by rw [ko19 b (hb _ hi),ko6 b hb]⟩,by simp only [Fd];omega⟩
  show (if a=i/\b=k then R i k-q*R r k else if a=i/\c<=b/\b<k then R i b-q*R r b else R a b)=if a=i/\c<=b/\b<k+1 then R i b-q*R r b else R a b
  by_cases e1:a=i/\b=k
  ·obtain ⟨rfl,rfl⟩:=e1
   rw [if_pos ⟨rfl,rfl⟩,if_pos ⟨rfl,hck,by omega⟩]
  ·rw [if_neg e1]
   by_cases e2:a=i/\c<=b/\b<k
   ·rw [if_pos e2,if_pos ⟨e2.1,e2.2.1,by omega⟩]
   ·rw [if_neg e2,if_neg (by omega)]
 ·have hkj':k=w:=by omega
  subst hkj'
  refine fin h16 g6 o6 l6 (t6.congr (fun a b _ hb=>?_)) ko6
  by_cases e1:a=i/\c<=b
  ·rw [if_pos e1,if_pos ⟨e1.1,e1.2,hb⟩]
  ·rw [if_neg e1,if_neg (fun x=>e1 ⟨x.1,x.2.1⟩)]
theorem C0c{pA:Option Addr}{pc:Nat}{d0 d2 e0 e2:Bool}{d1A d3A e1A e3A:Option Addr}{d1n d1c d3n d3c e1n e1c e3n e3c:Nat}(t:Mt h11 g o bo rb n w (fun a b=>if a=r then R r b/R r c else R a b))(hr:r<n)(hcw:c<w)(hn:n<=10000)(hw:w<=10000)(hB1:1<=B)(hR:∀ a b,a<n->b<w->Sz B (R a b))(hB:B*7<=100000000)
 (fin:∀ h' g' o',g.le g'->Mt h' g' o' bo rb n w (elimE R r c)->(∀ b,(∀ i,i<n->b≠rb i)->o' b=o b)->wpH Tryz.prog (Instr.buildSlice Cg 1 #[(0,I (c:Int))]) (fun v hp20=>∃ (t167A:Option Addr) (t167n:Nat) (t167c:Nat),v= .slice t167A t167n t167c/\wpH Tryz.prog (Builtin.append_ #[Cg,Cg] Cg #[.slice pA r pc,.slice t167A t167n t167c]) (fun v1 hp21=>∃ (t168A:Option Addr) (t168n:Nat) (t168c:Nat),v1= .slice t168A t168n t168c/\Invv [.slice t168A t168n t168c,I (B4 ((c:Int)+(1:Int))),.bool e0,.slice e1A e1n e1c,.bool e2,.slice e3A e3n e3c] hp21/\muv [.slice t168A t168n t168c,I (B4 ((c:Int)+(1:Int))),.bool e0,.slice e1A e1n e1c,.bool e2,.slice e3A e3n e3c] hp21<muv [.slice pA r pc,I (c:Int),.bool d0,.slice d1A d1n d1c,.bool d2,.slice d3A d3n d3c] hp2) hp20) h'):
 Fa Tryz.prog (some ⟨bo,0,none⟩) n Invv muv pA r pc (c:Int) d0 d1A d1n d1c d2 d3A d3n d3c e0 e1A e1n e1c e2 e3A e3n e3c hp2 h11:=by
 unfold Fa
 refine ⟨fun L hq=>∃ (i:Nat) (g' o':Heap),i<=n/\L=[I (i:Int)]/\g.le g'/\Mt hq g' o' bo rb n w (fun a b=>if a=r then R r b/R r c else if a<i then elimE R r c a b else R a b)/\(∀ b,(∀ i,i<n->b≠rb i)->o' b=o b),fun L _=>n-(iAt L 0).toNat,⟨0,g,o,by omega,rfl,B3 _,t.congr (fun a b _ hb=>?_),fun _ _=>rfl⟩,?_⟩
 ·by_cases ea:a=r
  ·rw [if_pos ea,if_pos ea]
  ·rw [if_neg ea,if_neg ea,if_neg (by omega)]
 rintro z h14 ⟨i,g5,o5,hi,eL5,l5,t5,ko5⟩
 obtain rfl:z=(i:Int):=by simpa using eL5
 have ewi:B4 ((i:Int)+1)=((i+1:Nat):Int):=by rw [B6]<;>omega
 refine B7 (fun hilt=>?_) (fun hige=>?_)
 ·have hin:i<n:=by omega
  obtain ⟨c5,hc5,kh5⟩:=t5.head hin
  obtain ⟨x,ix,x0,x1,x2,x3⟩:=t5.elem hin hcw
  refine ⟨_,rfl,by omega,by omega,_,_,_,t5.sep.cell kh5,_,rfl,by omega,by omega,_,_,_,_,_,_,_,_,t5.sep.cell x0,t5.sep.cell x1,t5.sep.cell x2,t5.sep.cell x3,?_⟩
  have same:∀ (hq:i=r\/R i c=0),(∃ (i':Nat) (g' o':Heap),i'<=n/\[I (B4 ((i:Int)+1))]=[I (i':Int)]/\g.le g'/\Mt h14 g' o' bo rb n w (fun a b=>if a=r then R r b/R r c else if a<i' then elimE R r c a b else R a b)/\(∀ b,(∀ i,i<n->b≠rb i)->o' b=o b))/\n-(iAt [I (B4 ((i:Int)+1))] 0).toNat<n-(iAt [I (i:Int)] 0).toNat:=by
   intro hq
   rw [ewi]
   refine ⟨⟨i+1,g5,o5,by omega,rfl,l5,t5.congr (fun a b _ _=>?_),ko5⟩,by simp only [Fd];omega⟩
   by_cases ea:a=r
   ·rw [if_pos ea,if_pos ea]
   ·rw [if_neg ea,if_neg ea]
    by_cases h1:a<i
    ·rw [if_pos h1,if_pos (by omega)]
    ·rw [if_neg h1]
     by_cases h2:a<i+1
     ·rw [if_pos h2]
      have:a=i:=by omega
      subst this
      rcases hq with hq|hq
      ·exact absurd hq ea
      ·unfold elimE
       rw [if_neg ea,if_pos (.inl hq)]
     ·rw [if_neg h2]
  refine D9 (fun he=>same (.inl (by omega))) (fun he=>?_)
  have hir:i≠r:=by omega
  rw [if_neg hir,if_neg (Nat.lt_irrefl i)] at ix
  refine Hm (ix.mono t5.sep.le) ⟨_,rfl,D9 (fun e=>?_) (fun e=>?_)⟩
  ·exact same (.inr (by rw [Int.sign_eq_zero_iff_zero] at e;exact Rat.num_eq_zero.1 e))
  have hg0:R i c≠0:=fun h=>e (by rw [h];rfl)
  refine C0b (B:=B) t5 hin hr hir (by omega) hn hw ix (fun b hb=>by rw [if_neg hir,if_neg (Nat.lt_irrefl i)];exact hR i b hin hb) (fun b hb=>by rw [if_pos rfl];exact (hR r b hr hb).div (hR r c hr hcw) hB1) (hR i c hin hcw) hB ?_
  intro h16 g6 o6 l6 t6 ko6
  rw [ewi]
  refine ⟨⟨i+1,g6,o6,by omega,rfl,A0 l5 l6,t6.congr (fun a b _ hb=>?_),fun b hb=>by rw [ko6 b hb,ko5 b hb]⟩,by simp only [Fd];omega⟩
  by_cases ea:a=i
  ·subst ea
   rw [if_neg hir,if_pos (show a<a+1 by omega)]
   unfold elimE
   rw [if_neg hir]
   by_cases hcb:c<=b
   ·have hno:¬ (R a c=0\/b<c):=by
     rintro (h|h)
     ·exact hg0 h
     ·omega
    rw [if_pos ⟨rfl,hcb⟩,if_neg hir,if_neg (Nat.lt_irrefl a),if_pos rfl,if_neg hno]
   ·rw [if_neg (fun x=>hcb x.2),if_neg hir,if_neg (Nat.lt_irrefl a),if_pos (.inr (by omega))]
  ·rw [if_neg (fun x=>ea x.1)]
   by_cases er:a=r
   ·rw [if_pos er,if_pos er]
   ·rw [if_neg er,if_neg er]
    by_cases h1:a<i
    ·rw [if_pos h1,if_pos (by omega)]
    ·rw [if_neg h1,if_neg (by omega)]
 ·have hin:i=n:=by omega
  subst hin
  exact fin h14 g5 o5 l5 (t5.congr (fun a b ha _=>by
   by_cases ea:a=r
   ·rw [if_pos ea];unfold elimE;rw [if_pos ea]
   ·rw [if_neg ea,if_pos ha])) ko5
theorem C0d{h10:Heap}{xf:QV}{pA:Option Addr}{pc:Nat}{d0 d2 e0 e2:Bool}{d1A d3A e1A e3A:Option Addr}{d1n d1c d3n d3c e1n e1c e3n e3c:Nat}(t:Mt h10 g o bo rb n w R)(hr:r<n)(hcw:c<w)(hn:n<=10000)(hw:w<=10000)(ixf:NQ g xf (R r c))(hR:∀ b,b<w->Sz B (R r b))(hB:B*7<=100000000)
 (fin:∀ h' g' o',g.le g'->Mt h' g' o' bo rb n w (fun a b=>if a=r then R r b/R r c else R a b)->(∀ b,(∀ i,i<n->b≠rb i)->o' b=o b)->Fa Tryz.prog (some ⟨bo,0,none⟩) n Invv muv pA r pc (c:Int) d0 d1A d1n d1c d2 d3A d3n d3c e0 e1A e1n e1c e2 e3A e3n e3c hp2 h'):
 Jl Tryz.prog (some ⟨bo,0,none⟩) n Invv muv pA r pc (c:Int) d0 d1A d1n d1c d2 d3A d3n d3c xf.s xf.A xf.n xf.c xf.s2 xf.A2 xf.n2 xf.c2 e0 e1A e1n e1c e2 e3A e3n e3c h10 hp2:=by
 unfold Jl
 refine ⟨fun L hq=>∃ (j:Nat) (g' o':Heap),j<=w/\L=[I (j:Int)]/\g.le g'/\Mt hq g' o' bo rb n w (fun a b=>if a=r/\b<j then R r b/R r c else R a b)/\(∀ b,(∀ i,i<n->b≠rb i)->o' b=o b),fun L _=>w-(iAt L 0).toNat,⟨0,g,o,by omega,rfl,B3 _,t.congr (fun a b _ _=>by rw [if_neg (by omega)]),fun _ _=>rfl⟩,?_⟩
 rintro z h11 ⟨j,g4,o4,hj,eL4,l4,t4,ko4⟩
 obtain rfl:z=(j:Int):=by simpa using eL4
 obtain ⟨ch4,hch4,kh4⟩:=t4.head hr
 have hd4:=t4.sep.cell kh4
 refine ⟨_,rfl,by omega,by omega,_,_,_,hd4,B7 (fun hlt=>?_) (fun hge=>?_)⟩
 ·have hjw:j<w:=by omega
  obtain ⟨x,ix,x0,x1,x2,x3⟩:=t4.elem hr hjw
  rw [if_neg (by omega)] at ix
  refine ⟨_,rfl,by omega,by omega,_,_,_,hd4,_,rfl,by omega,by omega,_,_,_,hd4,_,rfl,by omega,by omega,_,_,_,_,_,_,_,_,t4.sep.cell x0,t4.sep.cell x1,t4.sep.cell x2,t4.sep.cell x3,?_⟩
  refine t4.sep.call (A03 ix (ixf.mono l4) (hR _ hjw) (hR _ hcw) (by omega) ?_)
  intro w5 g5 l5 i5 h12 s12
  refine ⟨_,_,_,_,_,_,_,_,rfl,t4.sep.le_le s12 l5,_,rfl,by omega,by omega,?_⟩
  have t5:=t4.next s12 l5
  refine t5.store hr hjw (x:=w5) i5 ?_
  intro h13 o13 t13 ko13
  rw [show B4 ((j:Int)+1)=((j+1:Nat):Int) by rw [B6]<;>omega]
  refine ⟨⟨j+1,g5,o13,by omega,rfl,A0 l4 l5,t13.congr (fun a b _ _=>?_),fun b hb=>by rw [ko13 b (hb _ hr),ko4 b hb]⟩,by simp only [Fd];omega⟩
  show (if a=r/\b=j then R r j/R r c else if a=r/\b<j then R r b/R r c else R a b)=if a=r/\b<j+1 then R r b/R r c else R a b
  by_cases e1:a=r/\b=j
  ·obtain ⟨rfl,rfl⟩:=e1
   rw [if_pos ⟨rfl,rfl⟩,if_pos ⟨rfl,by omega⟩]
  ·rw [if_neg e1]
   by_cases e2:a=r/\b<j
   ·rw [if_pos e2,if_pos ⟨e2.1,by omega⟩]
   ·rw [if_neg e2,if_neg (by omega)]
 ·have hjw:j=w:=by omega
  subst hjw
  refine fin h11 g4 o4 l4 (t4.congr (fun a b _ hb=>?_)) ko4
  by_cases ea:a=r
  ·rw [if_pos ⟨ea,hb⟩,if_pos ea]
  ·rw [if_neg (fun x=>ea x.1),if_neg ea]
end
section
variable {g o h5 h9 hp2:Heap} {bo n w r c B k:Nat} {rb:Nat->Nat} {R:Nat->Nat->Rat} {q:Rat} {Invv:List Value->Heap->Prop} {muv:List Value->Heap->Nat} {pA:Option Addr} {pc:Nat} {wd wd0:QV} {l:List Nat}
theorem C0e(hl:l.length=r)(t:Mt h9 g o bo rb n w R)(ow:OwnSl o E4 pA pc (zs l))(ap:To bo rb n pA)(iq:NQ g wd q)(hr:r<n)(hcw:c<w)(hn:n<=10000)(hw:w<=10000)(hB1:1<=B)(hq:Sz B q)(hR:∀ a b,a<n->b<w->Sz B (R a b))(hB:B*7<=100000000)
 (fin:∀ h' g' o' A' c' wd',g.le g'->Mt h' g' o' bo rb n w (elimE R r c)->OwnSl o' E4 A' c' (zs (l++[c]))->To bo rb n A'->NQ g' wd' (q*R r c)->Invv (.slice A' (r+1) c'::I (B4 ((c:Int)+1))::qc wd') h'/\muv (.slice A' (r+1) c'::I (B4 ((c:Int)+1))::qc wd') h'<muv (.slice pA r pc::I (c:Int)::qc wd0) hp2):
 Jm Tryz.prog (some ⟨bo,0,none⟩) n Invv muv pA r pc (c:Int) wd0.s wd0.A wd0.n wd0.c wd0.s2 wd0.A2 wd0.n2 wd0.c2 wd.s wd.A wd.n wd.c wd.s2 wd.A2 wd.n2 wd.c2 hp2 h9:=by
 unfold Jm
 obtain ⟨ch,hch,kh⟩:=t.head hr
 obtain ⟨xf,ixf,xf0,xf1,xf2,xf3⟩:=t.elem hr hcw
 refine ⟨_,rfl,by omega,by omega,_,_,_,t.sep.cell kh,_,rfl,by omega,by omega,_,_,_,_,_,_,_,_,t.sep.cell xf0,t.sep.cell xf1,t.sep.cell xf2,t.sep.cell xf3,?_⟩
 refine t.sep.call (Qv iq ixf hq (hR _ _ hr hcw) (by omega) ?_)
 intro wd4 g3 l3 i4 h10 s10
 refine ⟨_,_,_,_,_,_,_,_,rfl,?_⟩
 refine C0d (B:=B) (t.next s10 l3) hr hcw hn hw (ixf.mono l3) (fun b hb=>hR _ b hr hb) hB ?_
 intro h11 g4 o4 l4 t4 ko4
 refine C0c (B:=B) t4 hr hcw hn hw hB1 hR hB ?_
 intro h14 g5 o5 l5 tF ko5'
 have ko5:∀ b,(∀ i,i<n->b≠rb i)->o5 b=o b:=fun b hb=>by rw [ko5' b hb,ko4 b hb]
 have ow5:OwnSl o5 E4 pA pc (zs l):=ow.keep fun b x hA e=>by rw [ko5 b (fun i hi e=>ap.2 i hi (by rw [<- e];exact hA))];exact e
 have hzl0:(zs l).length=r:=by simp [hl]
 refine V6 (ty:=Cg) A7m tF.sep ow5 hzl0.symm (y:=((c:Nat):Int)) rfl (by decide) (by rw [hzl0];omega) (by rw [hzl0];omega) ?_
 intro A6 c6 h16 g6 o6 l6 s6 ow6 kp6
 obtain ⟨⟨y0,hy0⟩,hyr⟩:=tF.own
 have t6:=tF.keep s6 l6 (fun k x e hk=>by
  rcases hk with rfl|⟨q,hq,rfl⟩
  ·exact (kp6 _ _ e ap.1).1
  ·exact (kp6 _ _ e (ap.2 q hq)).1)
 rw [hzl0]
 refine fin h16 g6 o6 A6 c6 wd4 (A0 l3 (A0 l4 (A0 l5 l6))) t6 (by simpa [zs] using ow6) ⟨(kp6 _ _ hy0 ap.1).2,fun q hq=>?_⟩ (i4.mono (A0 l4 (A0 l5 l6)))
 obtain ⟨x,hx⟩:=hyr q hq
 exact (kp6 _ _ hx (ap.2 q hq)).2
theorem C0f(hl:l.length=r)(t:Mt h5 g o bo rb n w R)(ow:OwnSl o E4 pA pc (zs l))(ap:To bo rb n pA)(iq:NQ g wd0 q)(hr:r<n)(hk:k<=n)(hcw:c<w)(hn:n<=10000)(hw:w<=10000)(hB1:1<=B)(hq:Sz B q)(hR:∀ a b,a<n->b<w->Sz B (R a b))(hB:B*7<=100000000)
 (fin0:k=n->Invv (.slice pA r pc::I (B4 ((c:Int)+1))::qc ⟨false,none,0,0,false,none,0,0⟩) h5/\muv (.slice pA r pc::I (B4 ((c:Int)+1))::qc ⟨false,none,0,0,false,none,0,0⟩) h5<muv (.slice pA r pc::I (c:Int)::qc wd0) hp2)
 (fin:k<n->∀ h' g' o' rb' A' c' wd',g.le g'->Mt h' g' o' bo rb' n w (elimE (fun i=>R (xch r k i)) r c)->OwnSl o' E4 A' c' (zs (l++[c]))->To bo rb' n A'->NQ g' wd' ((if k=r then q else -q)*R k c)->Invv (.slice A' (r+1) c'::I (B4 ((c:Int)+1))::qc wd') h'/\muv (.slice A' (r+1) c'::I (B4 ((c:Int)+1))::qc wd') h'<muv (.slice pA r pc::I (c:Int)::qc wd0) hp2):
 Jn Tryz.prog (some ⟨bo,0,none⟩) n Invv muv pA r pc (c:Int) wd0.s wd0.A wd0.n wd0.c wd0.s2 wd0.A2 wd0.n2 wd0.c2 (k:Int) hp2 h5:=by
 unfold Jn
 refine D9 (fun e=>fin0 (by omega)) (fun hne=>?_)
 have hkn:k<n:=by omega
 have hxn:∀ i,i<n->xch r k i<n:=fun i hi=>Fu hr hkn hi
 have xk:xch r k r=k:=He _ _
 refine ⟨fun L hq=>∃ (g2 o2:Heap) (rb2:Nat->Nat) (wd:QV),L=qc wd/\g.le g2/\Mt hq g2 o2 bo rb2 n w (fun i=>R (xch r k i))/\OwnSl o2 E4 pA pc (zs l)/\To bo rb2 n pA/\NQ g2 wd (if k=r then q else -q),?_,?_⟩
 ·refine L8 (fun hne2=>?_) (fun heq2=>?_)
  ·have hne':k≠r:=by omega
   obtain ⟨c1,hc1,k1⟩:=t.head hr
   obtain ⟨c2,hc2,k2⟩:=t.head hkn
   refine ⟨_,rfl,by omega,by omega,_,_,_,t.sep.cell k1,_,rfl,by omega,by omega,_,_,_,t.sep.cell k2,_,rfl,by omega,by omega,?_⟩
   refine t.swap hr hkn Kc k1 k2 hc1 hc2 (fun h6 hst=>⟨_,rfl,by omega,by omega,hst (fun h7 o7 t7 ko7=>?_)⟩)
   refine t7.sep.call (A00 iq (fun wd3 i3 h8 s8=>⟨_,_,_,_,_,_,_,_,rfl,?_⟩))
   refine ⟨g,o7,_,wd3,rfl,B3 _,t7.next s8 (B3 _),ow.keep fun b x hA e=>?_,⟨ap.1,fun i hi=>ap.2 _ (hxn i hi)⟩,by rw [if_neg hne'];exact i3⟩
   rw [ko7 b (fun e=>ap.1 (by rw [<- e];exact hA))];exact e
  ·have heq':k=r:=by omega
   refine ⟨g,o,rb,wd0,rfl,B3 _,t.congr (fun i j _ _=>?_),ow,ap,by rw [if_pos heq'];exact iq⟩
   rw [heq'];unfold xch;grind
 rintro e0 e1A e1n e1c e2 e3A e3n e3c h9 ⟨g2,o2,rb2,wd3,eL2,lg2,t2,ow2,ap2,iq2⟩
 obtain ⟨rfl,_⟩:=B7q eL2
 have hq2:Sz B (if k=r then q else -q):=by
  split
  ·exact hq
  ·exact hq.neg
 refine C0e (wd:=⟨e0,e1A,e1n,e1c,e2,e3A,e3n,e3c⟩) hl t2 ow2 ap2 iq2 hr hcw hn hw hB1 hq2 (fun a b ha hb=>hR _ b (hxn a ha) hb) hB ?_
 intro h' g' o' A' c' wd' lg' t' ow' ap' iq'
 rw [xk] at iq'
 exact fin hkn h' g' o' rb2 A' c' wd' (A0 lg2 lg') t' ow' ap' iq'
end
section
variable {h:Heap} {K:Value->Heap->Prop} {A:Option Addr} {n cap m w:Nat} {M:Nat->Nat->Rat}
theorem Ky{cols:Nat}(rs:RowsV h A n w M)(hn1:1<=n)(hn:n<=10000)(hw1:1<=w)(hw:w<=10000)(hc:cols<=w)(hm1:1<=m)(hs:∀ i j,i<n->j<w->Sz m (M i j))(hm:7^cols*m<=100000000)
 (hK:∀ h' g' o' bo rb c' A' cap' wd,h.le g'->Mt h' g' o' bo rb n w (ecE M n cols).R->OwnSl o' E4 A' cap' (zs (ecE M n cols).cs)->To bo rb n A'->NQ g' wd (A0s M n cols)->
  K (.tuple #[.slice (some ⟨bo,0,none⟩) n c',.slice A' (ecE M n cols).cs.length cap',wd.v]) h'):FCall Tryz.prog Hw #[.slice A n cap,I (cols:Int)] h K:=by
 refine A3p _ _ _ _ ?_
 unfold A55
 refine Uy rs (by omega) hw1 (by omega) hn1 ?_
 intro h1 g1 o1 bo rb0 c0 lg1 t1
 refine ⟨_,_,_,rfl,t1.sep.call (A7x ⟨by omega,by omega⟩ ?_)⟩
 intro wd g2 l2 id h2 s2
 have one:((1:Int):Rat)=1:=rfl
 rw [one] at id
 refine ⟨_,_,_,_,_,_,_,_,rfl,fun L hp=>∃ (c:Nat) (g o:Heap) (rb:Nat->Nat) (A':Option Addr) (cap':Nat) (wd:QV),c<=cols/\L= .slice A' (ecE M n c).cs.length cap'::I (c:Int)::qc wd/\h.le g/\Mt hp g o bo rb n w (ecE M n c).R/\OwnSl o E4 A' cap' (zs (ecE M n c).cs)/\To bo rb n A'/\NQ g wd (ecE M n c).det,fun L _=>cols-(iAt L 1).toNat,
  ⟨0,g2,o1,rb0,none,0,wd,by omega,rfl,A0 lg1 l2,t1.next s2 l2,(OwnSl.nil:OwnSl o1 E4 none 0 ([]:List Int)),⟨by simp,fun i hi=>by simp⟩,id⟩,?_⟩
 rintro pA pn pc z d0 d1A d1n d1c d2 d3A d3n d3c hp ⟨c,g,o,rb,A',cap',wd2,hcc,eL,lg,t,ow,ap,iq⟩
 simp only [List.cons.injEq,Value.int.injEq,Value.slice.injEq,true_and] at eL
 obtain ⟨⟨rfl,rfl,rfl⟩,rfl,eL⟩:=eL
 obtain ⟨rfl,_⟩:=B7q (by simpa only [List.cons.injEq,Value.bool.injEq,Value.slice.injEq,and_true] using eL:(.bool d0:Value) :: .slice d1A d1n d1c :: .bool d2 :: .slice d3A d3n d3c::[]= .bool wd2.s :: .slice wd2.A wd2.n wd2.c :: .bool wd2.s2 :: .slice wd2.A2 wd2.n2 wd2.c2::[])
 have hlen:=Yc M n c
 have fin:∀ (he:ecE M n cols=ecE M n c),Br (decide ((((ecE M n c).cs.length:Nat):Int)<(cols:Int))) (K (.tuple #[.slice (some ⟨bo,0,none⟩) n c0,.slice pA (ecE M n c).cs.length pc,.agg #[.bool false,.slice none 0 0,.bool false,.slice none 0 0]]) hp)
  (K (.tuple #[.slice (some ⟨bo,0,none⟩) n c0,.slice pA (ecE M n c).cs.length pc,.agg #[.bool d0,.slice d1A d1n d1c,.bool d2,.slice d3A d3n d3c]]) hp):=by
  intro he
  rw [<- he] at t ow iq ⊢
  refine B7 (fun hlt=>?_) (fun hge=>?_)
  ·have e:A0s M n cols=0:=by unfold A0s;rw [if_pos (by omega)]
   exact hK hp g o bo rb c0 pA pc ⟨false,none,0,0,false,none,0,0⟩ lg t ow ap (by rw [e];exact NQ.zero)
  ·have e:A0s M n cols=(ecE M n cols).det:=by unfold A0s;rw [if_neg (by omega)]
   exact hK hp g o bo rb c0 pA pc ⟨d0,d1A,d1n,d1c,d2,d3A,d3n,d3c⟩ lg t ow ap (by rw [e];exact iq)
 refine B7 (fun hlt=>?_) (fun hge=>fin (by have:c=cols:=by omega
                                           rw [this]))
 have hccl:c<cols:=by omega
 have hcw:c<w:=by omega
 refine B7 (fun hfull=>?_) (fun hfull=>fin (by
  have:=A7r (n:=n) (s:=⟨M,[],1⟩) (c:=c) (by show n<=(ecE M n c).cs.length;omega) (cols-c)
  rw [show c+(cols-c)=cols by omega] at this
  exact this))
 have hrn:(ecE M n c).cs.length<n:=by omega
 have hsz:=(SzE.run (n:=n) (w:=w) (m:=m) (s:=⟨M,[],1⟩) ⟨fun a b ha hb=>by show Sz (7^0*m) (M a b);rw [Nat.pow_zero,Nat.one_mul];exact hs a b ha hb,by show Sz (7^0*m) 1;rw [Nat.pow_zero,Nat.one_mul];exact Sz.int (z:=1) (ZB.one hm1) hm1,Nat.zero_le _⟩ hm1 c (by omega))
 have hszc:SzE n w m (ecE M n c):=hsz
 have hstep:ecE M n (c+1)=Fo n c (ecE M n c):=rfl
 have hp7:7^(ecE M n c).cs.length*m*7<=7^cols*m:=by
  have h1:7^(ecE M n c).cs.length*7<=7^cols:=by rw [<- Nat.pow_succ];exact Nat.pow_le_pow_right (by decide) (by omega)
  calc 7^(ecE M n c).cs.length*m*7=7^(ecE M n c).cs.length*7*m:=by rw [Nat.mul_assoc,Nat.mul_comm m 7,<- Nat.mul_assoc]
   _<=7^cols*m:=Nat.mul_le_mul_right _ h1
 have hB1:=Hn (ecE M n c).cs.length m hm1
 obtain ⟨r1,r2,r3,r4⟩:=A5i n c (ecE M n c) hszc.len
 have ewc:B4 ((c:Int)+1)=((c+1:Nat):Int):=by rw [B6]<;>omega
 generalize hst:ecE M n c=st at *
 generalize hB:7^st.cs.length*m=B at *
 refine ⟨fun L hq=>L=[I ((Dy n c st:Nat):Int)]/\hq=hp,⟨fun L hq=>∃ k:Nat,st.cs.length<=k/\k<=Dy n c st/\L=[I (k:Int)]/\hq=hp,fun L _=>n-(iAt L 0).toNat,⟨st.cs.length,Nat.le_refl _,r1,rfl,rfl⟩,?_⟩,?_⟩
 ·rintro z hq ⟨k,hk1,hk2,eL,rfl⟩
  obtain rfl:z=(k:Int):=by simpa using eL
  refine B7 (fun hlt=>?_) (fun hge=>⟨by have:k=Dy n c st:=by omega
                                        rw [this],rfl⟩)
  have hkn:k<n:=by omega
  obtain ⟨ch,hch,hcell⟩:=t.head hkn
  obtain ⟨x,ix,x0,x1,x2,x3⟩:=t.elem hkn hcw
  refine ⟨_,rfl,by omega,by omega,_,_,_,t.sep.cell hcell,_,rfl,by omega,by omega,_,_,_,_,_,_,_,_,t.sep.cell x0,t.sep.cell x1,t.sep.cell x2,t.sep.cell x3,?_⟩
  refine Hm (ix.mono t.sep.le) ⟨_,rfl,D9 (fun e=>?_) (fun e=>?_)⟩
  ·have e0:st.R k c=0:=by rw [Int.sign_eq_zero_iff_zero] at e;exact Rat.num_eq_zero.1 e
   have hlt2:k<Dy n c st:=by
    by_cases hx:k<Dy n c st
    ·exact hx
    ·exfalso
     have hk3:k=Dy n c st:=by omega
     exact r3 (by omega) (by rw [<- hk3];exact e0)
   rw [show B4 ((k:Int)+1)=((k+1:Nat):Int) by rw [B6]<;>omega]
   exact ⟨⟨k+1,by omega,by omega,rfl,rfl⟩,by simp only [Fd];omega⟩
  ·have e0:st.R k c≠0:=fun h=>e (by rw [h];rfl)
   have:k=Dy n c st:=by
    by_cases hx:k<Dy n c st
    ·exact absurd (r4 k hk1 hx) e0
    ·omega
   exact ⟨by rw [this],rfl⟩
 rintro k1 hq ⟨eL,rfl⟩
 obtain rfl:k1=((Dy n c st:Nat):Int):=by simpa using eL
 refine C0f (B:=B) (wd0:=⟨d0,d1A,d1n,d1c,d2,d3A,d3n,d3c⟩) rfl t ow ap iq hrn r2 hcw hn hw hB1 (by rw [<- hB];exact hszc.det) (fun a b ha hb=>by rw [<- hB];exact hszc.R a b ha hb) (by omega) (fun hno=>?_) (fun hrr=>?_)
 ·have hs':Fo n c st={ st with det:=0 }:=by unfold Fo;rw [if_pos hrn,if_neg (by omega)]
  rw [ewc]
  refine ⟨⟨c+1,g,o,rb,pA,pc,⟨false,none,0,0,false,none,0,0⟩,by omega,?_,lg,?_⟩,?_⟩
  ·rw [hstep,hs']
  ·rw [hstep,hs'];exact ⟨t,ow,ap,NQ.zero⟩
  ·show cols-((c+1:Nat):Int).toNat<cols-((c:Nat):Int).toNat
   omega
 ·intro h' g' o' rb' A6 c6 wd' lg' t' ow' ap' iq'
  have hs':Fo n c st={ R:=elimE (fun i=>st.R (xch st.cs.length (Dy n c st) i)) st.cs.length c,cs:=st.cs++[c],det:=(if Dy n c st=st.cs.length then st.det else-st.det)*st.R (Dy n c st) c }:=by unfold Fo;rw [if_pos hrn,if_pos hrr]
  have elen:(st.cs++[c]).length=st.cs.length+1:=by simp
  rw [ewc]
  refine ⟨⟨c+1,g',o',rb',A6,c6,wd',by omega,?_,A0 lg lg',?_⟩,?_⟩
  ·rw [hstep,hs',elen]
  ·rw [hstep,hs'];exact ⟨t',ow',ap',iq'⟩
  ·show cols-((c+1:Nat):Int).toNat<cols-((c:Nat):Int).toNat
   omega
end
end Go.Proofs.YthilnfgnpdeofaaGreatDoor
