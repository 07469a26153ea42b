/-
  Texts of this proof, merged by a program of ours.
-/
import Derived.Test.YthilnfgnpdeofaaGreatDoorG27
import Derived.Test.YthilnfgnpdeofaaGreatDoorG28
import Derived.Test.YthilnfgnpdeofaaGreatDoorG21
import Derived.Test.YthilnfgnpdeofaaGreatDoorG22
namespace Go.Proofs.YthilnfgnpdeofaaGreatDoor
set_option maxRecDepth 20000
open Go
theorem Hl(z:Int)(l:List Value):iAt (I z::l) 0=z:=rfl
theorem A49:Tryz.prog.cellsOf E6=4/\(Tryz.prog.info? E6).isSome=true:=Iq
section
variable {α β:Type} [E:Enc α] {R:Heap->α->β->Prop}
def OwnK(R:Heap->α->β->Prop)(h h':Heap)(b n k:Nat)(f:Nat->β):Prop:=∃ g o xs,h.le g/\Sep h' g o/\RowX o b xs/\xs.length=n/\Row R g xs k f
theorem OwnK.own{h h':Heap}{b n:Nat}{f:Nat->β}(w:OwnK R h h' b n n f):Own R h h' b n f:=⟨w⟩
theorem OwnK.le{h h':Heap}{b n k:Nat}{f:Nat->β}(w:OwnK R h h' b n k f):h.le h':=by
 obtain ⟨g,o,xs,l,s,_⟩:=w
 exact A0 l s.le
theorem OwnK.zero{h:Heap}{b n:Nat}{f:Nat->β}{e:TypeId}{z:α}(hb:h b=none):OwnK R h (B08 e h b (List.replicate n z)) b n 0 f:=
 ⟨h,Jc.put b (.cells ((List.replicate n z).flatMap enc).toArray e),List.replicate n z,B3 _,Gq hb,RowX.mk,by simp,Row.nil⟩
theorem OwnK.store(m:Mon R){P:Program}{t:TypeId}(one:P.cellsOf t=E.default.size/\(P.info? t).isSome=true){h h' g g' o:Heap}{b n k:Nat}{f:Nat->β}{xs:List α}(lg:h.le g)(lg':g.le g')(s:Sep h' g' o)(rb:RowX o b xs)(hn:xs.length=n)(r:Row R g xs k f)(hk:k<n){v:Value}{y:α}(hv:v.cells=(enc y).toArray)(hy:R g' y (f k)){K:Unit->Heap->Prop}
 (x:∀ h2,OwnK R h h2 b n (k+1) f->K () h2):wpH P (Instr.storeAt t (.pointer (some (Addr.add ⟨b,0,none⟩ (k*E.default.size)))) v) K h':=by
 refine Z8 one hv s rb (by omega) ?_
 intro h2 o' x' e s2 r2
 exact x h2 ⟨g',o',_,A0 lg lg',s2,r2,by simpa using hn,(r.mono m lg').set (by omega) hy⟩
end
def At:QV:=⟨false,none,0,0,false,none,0,0⟩
section
variable {h:Heap} {K:Value->Heap->Prop} {A:Option Addr} {n c m:Nat} {ls:Nat->List UInt8} {f:Nat->Rat} {a w:QV} {q:Rat}
theorem Wj(gl:Gl h)(r:RowV SSr h A n ls)(hn:n<=1000000)(hl:∀ i,i<n->(ls i).length<=100000000)
 (hK1:(∀ i,i<n->IsNum (ls i))->∀ b h',Own RQr h h' b n (fun i=>rv (ls i))->K (.tuple #[.slice (some ⟨b,0,none⟩) n n,.bool true]) h')
 (hK0:¬ (∀ i,i<n->IsNum (ls i))->∀ h',h.le h'->K (.tuple #[.slice none 0 0,.bool false]) h'):FCall Tryz.prog Lb #[.slice A n c] h K:=by
 refine A0m _ _ _ ?_
 unfold A1w
 refine N3 Zf (zx:=At) rfl (by omega) (by omega) (by omega) (by omega) ?_
 intro b hb
 refine ⟨_,_,_,rfl,fun L hp=>∃ k:Nat,k<=n/\L=[I k]/\(∀ i,i<k->IsNum (ls i))/\OwnK RQr h hp b n k (fun i=>rv (ls i)),fun L _=>n-(iAt L 0).toNat,⟨0,by omega,rfl,fun i hi=>by omega,OwnK.zero hb⟩,?_⟩
 rintro t hp ⟨k,hk,eL,hnum,g,o,xs,lg,s,rb,hx,rr⟩
 obtain rfl:t=(k:Int):=by simpa using eL
 refine B7 (fun hlt=>?_) (fun hge=>?_)
 ·have hkn:k<n:=by omega
  obtain ⟨a,rfl,hc⟩:=(r.mono Bh (A0 lg s.le)).sat hkn
  refine ⟨a,rfl,by omega,by omega,_,hc,?_⟩
  refine s.call (A2h (gl.mono lg).tz (hl k hkn) ?_ ?_)
  ·intro q e w g' l' iw h2 s2
   refine ⟨_,_,_,_,_,_,_,_,_,rfl,_,rfl,by omega,by simpa using hlt,?_⟩
   refine OwnK.store K3 A49 (y:=w) lg l' s2 rb hx rr hkn rfl (by show RQ g' w (rv (ls k));rw [e,It];exact iw) ?_
   intro h3 ow
   rw [show B4 ((k:Int)+1)=((k+1:Nat):Int) by rw [B6]<;>omega]
   refine ⟨⟨k+1,by omega,rfl,fun i hi=>?_,ow⟩,?_⟩
   ·by_cases e':i=k
    ·subst e';exact ⟨q,e⟩
    ·exact hnum i (by omega)
   ·simp only [Hl];omega
  ·intro hno w g' l' _ h2 s2
   exact ⟨_,_,_,_,_,_,_,_,_,rfl,hK0 (fun hall=>hno (hall k hkn)) h2 (A0 lg (A0 l' s2.le))⟩
 ·have:k=n:=by omega
  subst this
  exact hK1 hnum b hp ⟨g,o,xs,lg,s,rb,hx,rr⟩
theorem Wd(gl:Gl h)(r:RowV RQr h A n f)(hn:n<=1000000)(hs:∀ i,i<n->Sz m (f i))(hm:m<=40000000)
 (hK:∀ b h',Own SSr h h' b n (fun i=>N2 (f i))->K (.slice (some ⟨b,0,none⟩) n n) h'):FCall Tryz.prog La #[.slice A n c] h K:=by
 refine A0l _ _ _ ?_
 unfold A1v
 refine N3 Ax (zx:=([]:List UInt8)) rfl (by omega) (by omega) (by omega) (by omega) ?_
 intro b hb
 refine ⟨_,_,_,rfl,fun L hp=>∃ k:Nat,k<=n/\L=[I k]/\OwnK SSr h hp b n k (fun i=>N2 (f i)),fun L _=>n-(iAt L 0).toNat,⟨0,by omega,rfl,OwnK.zero hb⟩,?_⟩
 rintro t hp ⟨k,hk,eL,g,o,xs,lg,s,rb,hx,rr⟩
 obtain rfl:t=(k:Int):=by simpa using eL
 refine B7 (fun hlt=>?_) (fun hge=>?_)
 ·have hkn:k<n:=by omega
  obtain ⟨a,w,rfl,iw,d0,d1,d2,d3⟩:=(r.mono K3 lg).qat hkn
  refine ⟨_,rfl,by omega,by omega,_,_,_,_,_,_,_,_,C0 s.le d0,C0 s.le d1,C0 s.le d2,C0 s.le d3,?_⟩
  refine s.call (Lu (gl.mono lg).p10 iw (hs k hkn) hm ?_)
  intro h2 s2
  refine ⟨_,rfl,_,rfl,by omega,by simpa using hlt,?_⟩
  refine OwnK.store Bh Ls (y:=N2 (f k)) lg (B3 _) s2 rb hx rr hkn rfl rfl ?_
  intro h3 ow
  rw [show B4 ((k:Int)+1)=((k+1:Nat):Int) by rw [B6]<;>omega]
  exact ⟨⟨k+1,by omega,rfl,ow⟩,by simp only [Hl];omega⟩
 ·have:k=n:=by omega
  subst this
  exact hK b hp ⟨g,o,xs,lg,s,rb,hx,rr⟩
def W8(f:Nat->Rat):Nat->Nat
 | 0=>1
 | n+1=>Nat.lcm (W8 f n) (f n).den
theorem Ty(f:Nat->Rat):∀ n,0<W8 f n:=by
 intro n
 induction n with
 | zero=>exact Nat.one_pos
 | succ n ih=>exact Nat.lcm_pos ih (f n).den_pos
theorem Tz(f:Nat->Rat):∀ n i,i<n->(f i).den∣W8 f n:=by
 intro n
 induction n with
 | zero=>intro i h;omega
 | succ n ih=>
  intro i hi
  by_cases e:i=n
  ·subst e;exact Nat.dvd_lcm_right _ _
  ·exact Nat.dvd_trans (ih i (by omega)) (Nat.dvd_lcm_left _ _)
theorem ZB.lcm{k j:Nat}{x y:Nat}(hx:ZB k (x:Int))(hy:ZB j (y:Int)):ZB (k+j) ((Nat.lcm x y:Nat):Int):=by
 have:=hx.mul hy
 unfold ZB at *
 rw [Int.natAbs_natCast]
 rw [Int.natAbs_mul,Int.natAbs_natCast,Int.natAbs_natCast] at this
 refine Nat.lt_of_le_of_lt ?_ this
 unfold Nat.lcm
 exact Nat.div_le_self _ _
theorem Hj{f:Nat->Rat}{m:Nat}: ∀ n,(∀ i,i<n->Sz m (f i))->ZB (1+n*m) (W8 f n:Int):=by
 intro n
 induction n with
 | zero=>intro _;exact ZB.one (by omega)
 | succ n ih=>
  intro h
  have:=(ih fun i hi=>h i (by omega)).lcm (h n (by omega)).den
  exact this.mono (by rw [Nat.add_mul,Nat.one_mul];omega)
theorem Bj(gl:Gl h)(r:RowV RQr h A n f)(hn:n<=1000000)(hs:∀ i,i<n->Sz m (f i))(hm:1+n*m+m<=6400000000)
 (hK:∀ s A' n' c' h',h.le h'->ZI h' s A' n' c' (W8 f n:Int)->K (.agg #[.bool s,.slice A' n' c']) h'):FCall Tryz.prog I3 #[.slice A n c] h K:=by
 refine Fu _ _ _ ?_
 unfold Be
 refine Bn (by omega) (by omega) ?_
 intro s1 A1 n1 c1 h1 l1 i1
 refine ⟨_,_,_,_,rfl,fun L hp=>∃ (k:Nat) (s:Bool) (B:Option Addr) (bn bc:Nat),k<=n/\L=[I k,.bool s,.slice B bn bc]/\h.le hp/\ZI hp s B bn bc (W8 f k:Int),fun L _=>n-(iAt L 0).toNat,⟨0,_,_,_,_,by omega,rfl,l1,i1⟩,?_⟩
 rintro t s B bn bc hp ⟨k,s',B',bn',bc',hk,eL,l,i⟩
 simp only [List.cons.injEq,Value.int.injEq,Value.bool.injEq,Value.slice.injEq,true_and,and_true] at eL
 obtain ⟨rfl,rfl,rfl,rfl,rfl⟩:=eL
 have ew:B4 ((k:Int)+1)=((k+1:Nat):Int):=by rw [B6]<;>omega
 refine B7 (fun hlt=>?_) (fun hge=>?_)
 ·have hkn:k<n:=by omega
  obtain ⟨a,w,rfl,iw,d0,d1,d2,d3⟩:=(r.mono K3 l).qat hkn
  have hmk:1+k*m<=6400000000:=by
   have:k*m<=n*m:=Nat.mul_le_mul_right _ (by omega)
   omega
  have hmk2:1+k*m+m<=6400000000:=by
   have:k*m<=n*m:=Nat.mul_le_mul_right _ (by omega)
   omega
  have bz:=(Hj k fun i hi=>hs i (by omega)).mono (show 1+k*m<=1+k*m+m by omega)
  have bd:=(hs k hkn).den.mono (show m<=1+k*m+m by omega)
  refine ⟨_,rfl,by omega,by omega,_,_,_,_,_,_,_,_,d0,d1,d2,d3,?_⟩
  refine F6 iw.den ⟨_,rfl,?_⟩
  have hd0:((if (f k).den=1 then 0 else ((f k).den:Int))=0)↔(f k).den=1:=by
   have:=(f k).den_pos
   split<;>omega
  have same:W8 f (k+1)=W8 f k->(∃ (k':Nat) (s':Bool) (B':Option Addr) (bn' bc':Nat),k'<=n/\[I (B4 ((k:Int)+1)),.bool s,.slice B bn bc]=[I k',.bool s',.slice B' bn' bc']/\h.le hp/\ZI hp s' B' bn' bc' (W8 f k':Int))/\n-(iAt [I (B4 ((k:Int)+1)),.bool s,.slice B bn bc] 0).toNat<n-(iAt [I (k:Int),.bool s,.slice B bn bc] 0).toNat:=by
   intro e
   rw [ew]
   exact ⟨⟨k+1,_,_,_,_,by omega,rfl,l,by rw [e];exact i⟩,by simp only [Hl];omega⟩
  refine Cj (B7 (fun h1=>?_) (fun h1=>?_))
  ·have e1:=hd0.1 h1
   exact same (by rw [W8,e1];exact Nat.lcm_one_right _)
  ·have e1:(if (f k).den=1 then 0 else ((f k).den:Int))=((f k).den:Int):=if_neg fun e=>h1 (hd0.2 e)
   have iden:=iw.den
   rw [e1] at iden
   refine Yv iden i bd hmk2 ⟨_,rfl,?_⟩
   refine Cj (B7 (fun h2=>?_) (fun h2=>?_))
   ·have e2:(f k).den=W8 f k:=by exact_mod_cast h2
    exact same (by rw [W8,e2];exact Nat.lcm_self _)
   ·refine A3n (gl.mono l).tz i iden bz bd hmk2 ?_
    intro A' n' c' h' l' i'
    refine ⟨_,_,_,_,rfl,?_⟩
    rw [ew]
    refine ⟨⟨k+1,_,_,_,_,by omega,rfl,A0 l l',?_⟩,by simp only [Hl];omega⟩
    have:Int.lcm (W8 f k:Int) ((f k).den:Int)=W8 f (k+1):=by simp [Int.lcm,W8]
    rw [this] at i';exact i'
 ·have:k=n:=by omega
  subst this
  exact hK _ _ _ _ hp l i
def scl(q:Rat)(d:Int):Int:=q.num*d.tdiv q.den
theorem B1l(q:Rat):q*(q.den:Rat)=(q.num:Rat):=by
 have h:=Rat.num_divInt_den q
 rw [Rat.divInt_eq_div] at h
 have hd:((q.den:Int):Rat)≠0:=J6 (den_ne q)
 have e:((q.den:Int):Rat)=(q.den:Rat):=rfl
 rw [<- e]
 calc q*((q.den:Int):Rat)=(q.num:Rat)/((q.den:Int):Rat)*((q.den:Int):Rat):=by rw [h]
  _=q.num:=Rat.div_mul_cancel hd
theorem A4g{q:Rat}{d:Int}(h:(q.den:Int)∣d):(scl q d:Rat)=q*d:=by
 obtain ⟨e,rfl⟩:=h
 unfold scl
 rw [Int.mul_tdiv_cancel_left _ (den_ne q),Rat.intCast_mul,Rat.intCast_mul]
 have h1:q*(q.den:Rat)=(q.num:Rat):=B1l q
 have h2:(((q.den:Nat):Int):Rat)=(q.den:Rat):=rfl
 rw [h2,<- h1,Rat.mul_assoc]
theorem A4f{q:Rat}{d:Int}{k:Nat}(hq:Sz m q)(hd:ZB k d):ZB (m+k) (scl q d):=hq.num.mul hd.tdiv
theorem He{s:Bool}{B:Option Addr}{bn bc:Nat}{d:Int}(i:RQ h w q)(j:ZI h s B bn bc d)(hq:Sz m q)(hd:ZB m d)(hm:m<=6400000000)
 (hK:∀ s A' n' c' h',h.le h'->ZI h' s A' n' c' (scl q d)->K (.agg #[.bool s,.slice A' n' c']) h'):FCall Tryz.prog Ev #[w.v,.agg #[.bool s,.slice B bn bc]] h K:=by
 refine A3e _ _ _ _ _ _ _ _ _ _ _ _ ?_
 unfold A6u
 refine F6 i.den ⟨_,rfl,?_⟩
 have hd0:((if q.den=1 then 0 else (q.den:Int))=0)↔q.den=1:=by
  have:=q.den_pos
  split<;>omega
 refine B7 (fun h1=>?_) (fun h1=>?_)
 ·have e1:=hd0.1 h1
  refine Bo i.num j hq.num hd hm ?_
  intro s1 A' n' c' h' l' i'
  refine ⟨_,_,_,_,rfl,hK _ _ _ _ _ l' ?_⟩
  have:scl q d=q.num*d:=by unfold scl;rw [e1];simp
  rw [this];exact i'
 ·have e1:(if q.den=1 then 0 else (q.den:Int))=(q.den:Int):=if_neg fun e=>h1 (hd0.2 e)
  have iden:=i.den
  rw [e1] at iden
  refine Z9 j iden hd hq.den hm (den_ne q) ?_
  intro s1 A1 n1 c1 h1' l1 i1
  refine ⟨_,_,_,_,rfl,l1,?_⟩
  refine Bo (i.num.mono l1) i1 hq.num hd.tdiv hm ?_
  intro s2 A2 n2 c2 h2 l2 i2
  exact ⟨_,_,_,_,rfl,l2,hK _ _ _ _ _ (A0 l1 l2) i2⟩
end
instance:Enc Int:=⟨⟨fun z=>[I z],1,fun _=>rfl,fun z v hv=>by rw [List.mem_singleton.1 hv];rfl⟩⟩
abbrev IIr:Heap->Int->Int->Prop:=fun _ w z=>w=z
theorem B3m:Mon IIr:=fun _ _ _ _ _ i=>i
section
variable {α:Type} [E:Enc α]
def OwnSl(o:Heap)(e:TypeId)(A:Option Addr)(c:Nat)(xs:List α):Prop:=
 xs.length<=c/\((c=0/\A=none)\/∃ b arr,A=some ⟨b,0,none⟩/\o b=some (.cells (List.toArray arr) e)/\arr.length=c*E.default.size/\arr.take (xs.length*E.default.size)=xs.flatMap enc)
theorem OwnSl.nil{o:Heap}{e:TypeId}:OwnSl o e none 0 ([]:List α):=⟨Nat.le_refl _,.inl ⟨rfl,rfl⟩⟩
theorem OwnSl.keep{o o':Heap}{e:TypeId}{A:Option Addr}{c:Nat}{xs:List α}(w:OwnSl o e A c xs)(h:∀ b x,A=some ⟨b,0,none⟩->o b=some x->o' b=some x):OwnSl o' e A c xs:=by
 refine ⟨w.1,?_⟩
 rcases w.2 with h0|⟨b,arr,hA,hb,h1,h2⟩
 ·exact .inl h0
 ·exact .inr ⟨b,arr,hA,h b _ hA hb,h1,h2⟩
theorem OwnSl.rowB{o:Heap}{e:TypeId}{A:Option Addr}{c:Nat}{xs:List α}(w:OwnSl o e A c xs)(hne:xs≠[]):∃ b,A=some ⟨b,0,none⟩/\RowB o b xs:=by
 rcases w.2 with h0|⟨b,arr,hA,hb,h1,h2⟩
 ·exfalso
  have:=w.1
  have:=h0.1
  have:xs.length≠0:=fun h=>hne (List.eq_nil_of_length_eq_zero h)
  omega
 ·exact ⟨b,hA,e,arr.drop (xs.length*E.default.size),by rw [hb,<- h2,List.take_append_drop]⟩
theorem OwnSl.slF{o h:Heap}{e:TypeId}{A:Option Addr}{c:Nat}{xs:List α}(w:OwnSl o e A c xs)(hl:o.le h):SlF h A xs:=by
 by_cases hne:xs=[]
 ·rw [hne];exact SlF.nil
 ·obtain ⟨b,rfl,r⟩:=w.rowB hne
  exact r.slF hl
theorem OwnSl.priv{h g o:Heap}{e:TypeId}{A:Option Addr}{c:Nat}{xs:List α}(s:Sep h g o)(w:OwnSl o e A c xs):∃ gb,PrivF h gb e A c xs/\∀ k x,h k=some x->A≠some ⟨k,0,none⟩->gb k=some x:=by
 rcases w.2 with ⟨h0,h00⟩|⟨b,arr,hA,hb,h1,h2⟩
 ·subst h0
  have hx:xs=[]:=List.eq_nil_of_length_eq_zero (by have:=w.1;omega)
  subst hx
  exact ⟨h,PrivF.nil h e A,fun k x e _=>e⟩
 ·refine ⟨h.without b,⟨J3 xs,w.1,.inr ⟨b,arr,hA,T3 _ _,(L9 (s.own b _ hb)).symm,h1,h2⟩⟩,fun k x e hne=>?_⟩
  unfold Heap.without
  rw [if_neg]
  ·exact e
  ·rintro rfl;exact hne hA
theorem OwnSl.push{P:Program}{t e ty:TypeId}{z:Value}{bytes:Nat}(st:SliceT P t e z E.default.size bytes){h g o:Heap}{A:Option Addr}{c:Nat}{xs:List α}(s:Sep h g o)(w:OwnSl o e A c xs){v:Value}{y:α}(hv:v.cells=(enc y).toArray)(hsz:E.default.size<=1000)
 (hb:(2*(xs.length+1)+192)*bytes<=281474976710656) (hn:xs.length+1<=9223372036854775807) {K1:Heap->Prop} {K:Option Addr->Nat->Nat->Heap->Prop}
 (x0:∀ h1,h.le h1->K1 h1)
 (x:∀ A' c' h' g' o',g.le g'->Sep h' g' o'->OwnSl o' e A' c' (xs++[y])->(∀ k u,o k=some u->A≠some ⟨k,0,none⟩->o' k=some u/\A'≠some ⟨k,0,none⟩)->K A' (xs.length+1) c' h'):
 wpH P (Instr.buildSlice t 1 #[(0,v)]) (fun v' hp=>∃ (B:Option Addr) (m d:Nat),v'= .slice B m d/\K1 hp/\wpH P (Builtin.append_ #[t,t] ty #[.slice A xs.length c,.slice B m d]) (fun v1 hp1=>∃ (A':Option Addr) (n' c':Nat),v1= .slice A' n' c'/\K A' n' c' hp1) hp) h:=by
 obtain ⟨gb,p,hkeep⟩:=w.priv s
 refine Ox st (vs:=[v]) (fun u hu=>by rw [List.mem_singleton.1 hu,hv];simp [E.default.len]) rfl (by simp;omega) rfl ?_
 intro b hfree
 have hfl:[v].flatMap (fun v=>v.cells.toList)=[y].flatMap enc:=by simp [hv]
 rw [hfl]
 refine ⟨_,_,_,rfl,x0 _ (Heap.le_put _ hfree),?_⟩
 have p':PrivF (h.put b (.cells ([y].flatMap enc).toArray e)) (gb.put b (.cells ([y].flatMap enc).toArray e)) e A c xs:=Priv.put p hfree _
 refine Lj st p' (ys:=[y]) rfl (A0f e h b [y]) hb hn ?_
 intro A' c' h' g' hg hp
 refine ⟨_,_,_,rfl,?_⟩
 rw [List.length_append]
 have hgk:∀ k u,h k=some u->A≠some ⟨k,0,none⟩->g' k=some u:=by
  intro k u e1 hne
  have hkb:k≠b:=by rintro rfl;rw [hfree] at e1;cases e1
  exact hg k u (by rw [B5 _ _ hkb];exact hkeep k u e1 hne)
 have hnA:∀ k u,g k=some u->A≠some ⟨k,0,none⟩:=by
  intro k u e1 hA
  rcases w.2 with ⟨_,h0⟩|⟨b',arr,hA',hb',_⟩
  ·rw [hA] at h0;cases h0
  ·rw [hA] at hA'
   simp only [Option.some.injEq,Addr.mk.injEq,and_true] at hA'
   subst hA'
   rw [s.dis k _ hb'] at e1;cases e1
 rcases hp.2.2 with ⟨hc0,_⟩|⟨b',arr,hA',hb',hh',ha,ht⟩
 ·exfalso
  have:=hp.2.1
  rw [List.length_append] at this
  simp at this
  omega
 ·subst hA'
  let o':Heap:=fun k=>if k=b' then some (.cells (List.toArray arr) e) else if A=some ⟨k,0,none⟩ then none else o k
  have ob:o' b'=some (.cells (List.toArray arr) e):=by show (if b'=b' then _ else _)=_;rw [if_pos rfl]
  have ok:∀ k,k≠b'->A≠some ⟨k,0,none⟩->o' k=o k:=fun k h1 h2=>by show (if k=b' then _ else if _ then _ else _)=_;rw [if_neg h1,if_neg h2]
  have ono:∀ k,k≠b'->A=some ⟨k,0,none⟩->o' k=none:=fun k h1 h2=>by show (if k=b' then _ else if _ then _ else _)=_;rw [if_neg h1,if_pos h2]
  let g2:Heap:=fun k=>match o' k with|some _=>none|none=>h' k
  have gs:∀ k u,o' k=some u->g2 k=none:=fun k u e1=>by show (match o' k with|some _=>none|none=>h' k)=_;rw [e1]
  have gn:∀ k,o' k=none->g2 k=h' k:=fun k e1=>by show (match o' k with|some _=>none|none=>h' k)=_;rw [e1]
  have hput:∀ k u,k≠b'->g' k=some u->h' k=some u:=fun k u h1 e1=>by rw [hh',B5 _ _ h1];exact e1
  have hown:∀ k u,o k=some u->A≠some ⟨k,0,none⟩->k≠b':=by
   rintro k u e1 h2 rfl
   have:=hgk k u (s.own k u e1) h2
   rw [hb'] at this;cases this
  refine x _ c' h' g2 o' (fun k u e1=>?_) ⟨fun k u e1=>?_,fun k e1=>(gn k e1).symm,gs⟩ ⟨hp.2.1,.inr ⟨b',arr,rfl,ob,ha,ht⟩⟩ (fun k u e1 h2=>?_)
  ·have hk0:o k=none:=by
    cases ho:o k with
    | none=>rfl
    | some y=>rw [s.dis k y ho] at e1;cases e1
   have hA:=hnA k u e1
   have e3:=hgk k u (s.le k u e1) hA
   have hkb':k≠b':=by rintro rfl;rw [hb'] at e3;cases e3
   rw [gn k (by rw [ok k hkb' hA];exact hk0)]
   exact hput k u hkb' e3
  ·by_cases hkb:k=b'
   ·subst hkb
    rw [ob] at e1;cases e1
    rw [hh',B9]
   ·by_cases hA:A=some ⟨k,0,none⟩
    ·rw [ono k hkb hA] at e1;cases e1
    ·rw [ok k hkb hA] at e1
     exact hput k u hkb (hgk k u (s.own k u e1) hA)
  ·have hkb:=hown k u e1 h2
   refine ⟨by rw [ok k hkb h2];exact e1,fun h3=>hkb ?_⟩
   simp only [Option.some.injEq,Addr.mk.injEq,and_true] at h3
   exact h3.symm
end
structure Tb where
 bt:Nat
 bE:Nat
 bS:Nat
 rows:Nat
 cols:Nat
 cE:Nat
 cS:Nat
structure Tab (h g o:Heap) (T:Tb) (M:Nat->Nat->Int) (S:Nat->Rat):Prop where
 sep:Sep h g o
 n1:T.bt≠T.bE
 n2:T.bt≠T.bS
 n3:T.bE≠T.bS
 head:∃ e,o T.bt=some (.cells #[I T.cols,.slice (some ⟨T.bE,0,none⟩) (T.rows*T.cols) T.cE,.slice (some ⟨T.bS,0,none⟩) T.rows T.cS] e)
 elems:∃ ws:List IV,RowB o T.bE ws/\ws.length=T.rows*T.cols/\∀ i j,i<T.rows->j<T.cols->∃ w,ws[i*T.cols+j]? = some w/\ZIr g w (M i j)
 scales:∃ ss:List QV,RowB o T.bS ss/\ss.length=T.rows/\Row RQr g ss T.rows S
 cE:T.rows*T.cols<=T.cE
 cS:T.rows<=T.cS
 small:T.rows<=10000/\T.cols<=10000
 pos:0<T.cols
def B6o(M:Nat->Nat->Int)(i j:Nat)(z:Int):Nat->Nat->Int:=fun a b=>if a=i/\b=j then z else M a b
theorem K9{rows cols i j:Nat}(hi:i<rows)(hj:j<cols):i*cols+j<rows*cols:=by
 have:(i+1)*cols<=rows*cols:=Nat.mul_le_mul_right _ hi
 rw [Nat.add_mul,Nat.one_mul] at this
 omega
theorem A56{cols i j i' j':Nat}(hj:j<cols)(hj':j'<cols)(h:i*cols+j=i'*cols+j'):i=i'/\j=j':=by
 have h1:(i*cols+j)/cols=i:=by rw [Nat.mul_comm,Nat.mul_add_div (by omega),Nat.div_eq_of_lt hj,Nat.add_zero]
 have h2:(i'*cols+j')/cols=i':=by rw [Nat.mul_comm,Nat.mul_add_div (by omega),Nat.div_eq_of_lt hj',Nat.add_zero]
 have:i=i':=by rw [<- h1,<- h2,h]
 subst this
 exact ⟨rfl,by omega⟩
section
variable {h g o:Heap} {T:Tb} {M:Nat->Nat->Int} {S:Nat->Rat} {K:Value->Heap->Prop} {m:Nat}
theorem Tab.next(t:Tab h g o T M S){h' g':Heap}(s:Sep h' g' o)(l:g.le g'):Tab h' g' o T M S:=by
 refine ⟨s,t.n1,t.n2,t.n3,t.head,?_,?_,t.cE,t.cS,t.small,t.pos⟩
 ·obtain ⟨ws,r,hl,hw⟩:=t.elems
  refine ⟨ws,r,hl,fun i j hi hj=>?_⟩
  obtain ⟨w,e,hz⟩:=hw i j hi hj
  exact ⟨w,e,Dz _ _ _ _ l hz⟩
 ·obtain ⟨ss,r,hl,hw⟩:=t.scales
  exact ⟨ss,r,hl,hw.mono K3 l⟩
theorem Tab.congr(t:Tab h g o T M S){M':Nat->Nat->Int}{S':Nat->Rat}(hM:∀ i j,i<T.rows->j<T.cols->M i j=M' i j)(hS:∀ i,i<T.rows->S i=S' i):Tab h g o T M' S':=by
 refine ⟨t.sep,t.n1,t.n2,t.n3,t.head,?_,?_,t.cE,t.cS,t.small,t.pos⟩
 ·obtain ⟨ws,r,hl,hw⟩:=t.elems
  refine ⟨ws,r,hl,fun i j hi hj=>?_⟩
  rw [<- hM i j hi hj];exact hw i j hi hj
 ·obtain ⟨ss,r,hl,hw⟩:=t.scales
  exact ⟨ss,r,hl,hw.congr hS⟩
theorem Tab.c0(t:Tab h g o T M S):h.cell? (Addr.add ⟨T.bt,0,none⟩ 0)=some (I T.cols):=by
 obtain ⟨e,he⟩:=t.head
 refine t.sep.cell ?_
 rw [D3];unfold Heap.cell?;simp only [he];rfl
theorem Tab.c1(t:Tab h g o T M S):h.cell? (Addr.add ⟨T.bt,0,none⟩ 1)=some (.slice (some ⟨T.bE,0,none⟩) (T.rows*T.cols) T.cE):=by
 obtain ⟨e,he⟩:=t.head
 refine t.sep.cell ?_
 rw [D3];unfold Heap.cell?;simp only [he];rfl
theorem Tab.c2(t:Tab h g o T M S):h.cell? (Addr.add ⟨T.bt,0,none⟩ 2)=some (.slice (some ⟨T.bS,0,none⟩) T.rows T.cS):=by
 obtain ⟨e,he⟩:=t.head
 refine t.sep.cell ?_
 rw [D3];unfold Heap.cell?;simp only [he];rfl
theorem Tab.at(t:Tab h g o T M S){i j:Nat}(hi:i<T.rows)(hj:j<T.cols):∃ w:IV,ZIr g w (M i j)/\h.cell? (Addr.add (Addr.add ⟨T.bE,i*T.cols*2,none⟩ (j*2)) 0)=some (.bool w.s)/\h.cell? (Addr.add (Addr.add ⟨T.bE,i*T.cols*2,none⟩ (j*2)) 1)=some (.slice w.A w.n w.c):=by
 obtain ⟨ws,r,hl,hw⟩:=t.elems
 obtain ⟨w,e,hz⟩:=hw i j hi hj
 have hlt:=K9 hi hj
 have he:ws[i*T.cols+j]=w:=by
  rw [List.getElem?_eq_getElem (by omega)] at e
  cases e;rfl
 have ha:i*T.cols*2+j*2=(i*T.cols+j)*2:=by rw [Nat.add_mul]
 refine ⟨w,hz,t.sep.cell ?_,t.sep.cell ?_⟩
 ·rw [D3,D3,ha]
  exact r.cell (i:=i*T.cols+j) (by omega) (j:=0) (v:=.bool w.s) (by rw [he];rfl)
 ·rw [D3,D3,ha]
  exact r.cell (i:=i*T.cols+j) (by omega) (j:=1) (v:=.slice w.A w.n w.c) (by rw [he];rfl)
theorem Tab.ato(t:Tab h g o T M S){i j:Nat}(hi:i<T.rows)(hj:j<T.cols):∃ w:IV,ZIr g w (M i j)/\o.cell? (Addr.add (Addr.add ⟨T.bE,i*T.cols*2,none⟩ (j*2)) 0)=some (.bool w.s)/\o.cell? (Addr.add (Addr.add ⟨T.bE,i*T.cols*2,none⟩ (j*2)) 1)=some (.slice w.A w.n w.c):=by
 obtain ⟨ws,r,hl,hw⟩:=t.elems
 obtain ⟨w,e,hz⟩:=hw i j hi hj
 have hlt:=K9 hi hj
 have he:ws[i*T.cols+j]=w:=by
  rw [List.getElem?_eq_getElem (by omega)] at e
  cases e;rfl
 have ha:i*T.cols*2+j*2=(i*T.cols+j)*2:=by rw [Nat.add_mul]
 refine ⟨w,hz,?_,?_⟩
 ·rw [D3,D3,ha]
  exact r.cell (i:=i*T.cols+j) (by omega) (j:=0) (v:=.bool w.s) (by rw [he];rfl)
 ·rw [D3,D3,ha]
  exact r.cell (i:=i*T.cols+j) (by omega) (j:=1) (v:=.slice w.A w.n w.c) (by rw [he];rfl)
theorem Sep.le_le{h' g':Heap}(s:Sep h g o)(s':Sep h' g' o)(l:g.le g'):h.le h':=fun k x e=>by
 cases ho:o k with
 | some y=>rw [s.own k y ho] at e;rw [s'.own k y ho];exact e
 | none=>rw [s.rest k ho] at e;rw [s'.rest k ho];exact l k x e
theorem Tab.sat(t:Tab h g o T M S){i:Nat}(hi:i<T.rows):∃ w:QV,RQ g w (S i)/\h.cell? (Addr.add (Addr.add ⟨T.bS,0,none⟩ (i*4)) 0)=some (.bool w.s)/\h.cell? (Addr.add (Addr.add ⟨T.bS,0,none⟩ (i*4)) 1)=some (.slice w.A w.n w.c)/\h.cell? (Addr.add (Addr.add ⟨T.bS,0,none⟩ (i*4)) 2)=some (.bool w.s2)/\h.cell? (Addr.add (Addr.add ⟨T.bS,0,none⟩ (i*4)) 3)=some (.slice w.A2 w.n2 w.c2):=by
 obtain ⟨ss,r,hl,hw⟩:=t.scales
 obtain ⟨w,e,hz⟩:=hw i hi
 have he:ss[i]=w:=by
  rw [List.getElem?_eq_getElem (by omega)] at e
  cases e;rfl
 have cell:∀ k v,(enc w)[k]? = some v->h.cell? (Addr.add (Addr.add ⟨T.bS,0,none⟩ (i*4)) k)=some v:=by
  intro k v hk
  refine t.sep.cell ?_
  rw [D3,D3,Nat.zero_add]
  exact r.cell (i:=i) (by omega) (j:=k) (by rw [he];exact hk)
 exact ⟨w,hz,cell 0 _ rfl,cell 1 _ rfl,cell 2 _ rfl,cell 3 _ rfl⟩
theorem Tab.store(t:Tab h g o T M S){i j:Nat}(hi:i<T.rows)(hj:j<T.cols){w:IV}{z:Int}(hz:ZIr g w z){K:Unit->Heap->Prop}
 (x:∀ h' o',Tab h' g o' T (B6o M i j z) S->(∀ k,k≠T.bE->o' k=o k)->K () h'):wpH Tryz.prog (Instr.storeAt Cn (.pointer (some (Addr.add ⟨T.bE,i*T.cols*2,none⟩ (j*2)))) w.v) K h:=by
 obtain ⟨ws,r,hl,hw⟩:=t.elems
 have hlt:=K9 hi hj
 have ha:i*T.cols*2+j*2=(i*T.cols+j)*2:=by rw [Nat.add_mul]
 rw [D3,ha]
 refine Sep.store (E:=inferInstanceAs (Enc IV)) Ti (v:=w.v) (y:=w) rfl t.sep r (i:=i*T.cols+j) (by omega) rfl ?_
 intro h' o' x' eo s' r'
 refine x h' o' ⟨s',t.n1,t.n2,t.n3,?_,⟨_,r',by simpa using hl,fun a b ha' hb=>?_⟩,?_,t.cE,t.cS,t.small,t.pos⟩ (fun k hk=>by rw [eo,B5 _ _ hk])
 ·obtain ⟨e,he⟩:=t.head
  exact ⟨e,by rw [eo,B5 _ _ t.n1];exact he⟩
 ·unfold B6o
  by_cases e:a=i/\b=j
  ·obtain ⟨rfl,rfl⟩:=e
   exact ⟨w,by rw [List.getElem?_set_self (by omega)],by rw [if_pos ⟨rfl,rfl⟩];exact hz⟩
  ·obtain ⟨u,e1,hu⟩:=hw a b ha' hb
   refine ⟨u,?_,by rw [if_neg e];exact hu⟩
   rw [List.getElem?_set_ne (fun x=>e (by have:=A56 hj hb x;exact ⟨this.1.symm,this.2.symm⟩))]
   exact e1
 ·obtain ⟨ss,r2,hl2,hw2⟩:=t.scales
  exact ⟨ss,by rw [eo];exact r2.other t.n3.symm _,hl2,hw2⟩
theorem Tab.sstore(t:Tab h g o T M S){i:Nat}(hi:i<T.rows){w:QV}{q:Rat}(hz:RQ g w q){K:Unit->Heap->Prop}
 (x:∀ h' o',Tab h' g o' T M (fun a=>if a=i then q else S a)->(∀ k,k≠T.bS->o' k=o k)->K () h'):wpH Tryz.prog (Instr.storeAt E6 (.pointer (some (Addr.add ⟨T.bS,0,none⟩ (i*4)))) w.v) K h:=by
 obtain ⟨ss,r,hl,hw⟩:=t.scales
 rw [D3,Nat.zero_add]
 refine Sep.store (E:=inferInstanceAs (Enc QV)) Iq (v:=w.v) (y:=w) rfl t.sep r (i:=i) (by omega) rfl ?_
 intro h' o' x' eo s' r'
 refine x h' o' ⟨s',t.n1,t.n2,t.n3,?_,?_,⟨_,r',by simpa using hl,Row.upd hw (by omega) hz⟩,t.cE,t.cS,t.small,t.pos⟩ (fun k hk=>by rw [eo,B5 _ _ hk])
 ·obtain ⟨e,he⟩:=t.head
  exact ⟨e,by rw [eo,B5 _ _ t.n2];exact he⟩
 ·obtain ⟨ws,r2,hl2,hw2⟩:=t.elems
  exact ⟨ws,by rw [eo];exact r2.other t.n3 _,hl2,hw2⟩
theorem K8{n:Nat}(h:n<=9223372036854775807):B4 (n:Int)=(n:Int):=B6 (by omega) (by omega)
theorem Y2(t:Tab h g o T M S){i:Nat}(hi:i<T.rows)(hK:K (.slice (some ⟨T.bE,i*T.cols*2,none⟩) T.cols (T.cE-i*T.cols)) h):FCall Tryz.prog Fd #[.pointer (some ⟨T.bt,0,none⟩),I (i:Int)] h K:=by
 refine B2r _ _ ?_
 unfold B7o
 have hs:=t.small
 have hc:=t.pos
 have h1:(i+1)*T.cols<=T.rows*T.cols:=Nat.mul_le_mul_right _ hi
 have h2:T.rows*T.cols<=10000*10000:=Nat.mul_le_mul hs.1 hs.2
 have h3:=t.cE
 have h4:(i+1)*T.cols=i*T.cols+T.cols:=by rw [Nat.add_mul,Nat.one_mul]
 have e1:B4 ((i:Int)*(T.cols:Int))=((i*T.cols:Nat):Int):=by rw [<- Int.natCast_mul];exact K8 (by omega)
 have e0:B4 ((i:Int)+1)=((i+1:Nat):Int):=B6 (by omega) (by omega)
 have e2:B4 (B4 ((i:Int)+1)*(T.cols:Int))=(((i+1)*T.cols:Nat):Int):=by rw [e0,<- Int.natCast_mul];exact K8 (by omega)
 refine ⟨_,rfl,_,_,_,t.c1,_,rfl,_,t.c0,_,rfl,_,t.c0,?_⟩
 rw [e1,e2]
 refine ⟨⟨by omega,by omega⟩,⟨by omega,by simp only [Int.toNat_natCast];omega⟩,?_⟩
 simp only [Int.toNat_natCast]
 rw [Ju (by omega),D3,Nat.zero_add,h4,Nat.add_sub_cancel_left]
 exact hK
theorem Xc(t:Tab h g o T M S){start col:Nat}(hs:start<=T.rows)(hc:col<T.cols)
 (hK1:fnd (fun i=>decide (M i col≠0)) (T.rows-start) start<T.rows->K (.tuple #[I ((fnd (fun i=>decide (M i col≠0)) (T.rows-start) start:Nat):Int),.bool true]) h)
 (hK0:fnd (fun i=>decide (M i col≠0)) (T.rows-start) start=T.rows->K (.tuple #[I 0,.bool false]) h):FCall Tryz.prog Ur #[.pointer (some ⟨T.bt,0,none⟩),I (start:Int),I (col:Int)] h K:=by
 refine A9i _ _ _ ?_
 unfold B4y
 refine ⟨fun L hp=>∃ k:Nat,k<=T.rows/\L=[I k]/\hp=h/\start<=k/\∀ j,start<=j->j<k->decide (M j col≠0)=false,fun L _=>T.rows-(iAt L 0).toNat,⟨start,hs,rfl,rfl,Nat.le_refl _,fun j h1 h2=>by omega⟩,?_⟩
 rintro i hp ⟨k,hk,eL,rfl,hsk,hz⟩
 obtain rfl:i=(k:Int):=by simpa using eL
 refine ⟨_,rfl,_,_,_,t.c2,B7 (fun hlt=>?_) (fun hge=>?_)⟩
 ·have hkn:k<T.rows:=by omega
  refine Y2 t hkn ⟨_,_,_,rfl,_,rfl,by omega,by omega,?_⟩
  obtain ⟨w,hw,d0,d1⟩:=t.at hkn hc
  refine ⟨_,_,_,_,d0,d1,F6 (hw.mono t.sep.le) ⟨_,rfl,Cj (B7 (fun e=>?_) (fun e=>?_))⟩⟩
  ·rw [show B4 ((k:Int)+1)=((k+1:Nat):Int) by have:=t.small;rw [B6]<;>omega]
   refine ⟨⟨k+1,by omega,rfl,rfl,by omega,fun j h1 h2=>?_⟩,by simp only [Hl];omega⟩
   by_cases ej:j=k
   ·subst ej;simp [e]
   ·exact hz j h1 (by omega)
  ·have:fnd (fun i=>decide (M i col≠0)) (T.rows-start) start=k:=A9v _ hsk (by omega) hz (fun _=>by simpa using e)
   rw [this] at hK1
   exact hK1 hkn
 ·have:fnd (fun i=>decide (M i col≠0)) (T.rows-start) start=T.rows:=A9v _ hs (by omega) (fun j h1 h2=>hz j h1 (by omega)) (fun hx=>by omega)
  exact hK0 this
theorem Wc(t:Tab h g o T M S){i k:Nat}(hi:i<T.rows)(hk:k<T.rows)(hik:i≠k)
 (hK:∀ h' o',Tab h' g o' T (fun a=>M (xch i k a)) (fun a=>S (xch i k a))->(∀ b,b≠T.bE->b≠T.bS->o' b=o b)->K (.tuple #[]) h'):FCall Tryz.prog Uq #[.pointer (some ⟨T.bt,0,none⟩),I (i:Int),I (k:Int)] h K:=by
 refine A9h _ _ _ ?_
 unfold B4x
 refine Y2 t hi ⟨_,_,_,rfl,Y2 t hk ⟨_,_,_,rfl,?_⟩⟩
 refine ⟨fun L hp=>∃ (c:Nat) (o1:Heap),c<=T.cols/\L=[I c]/\Tab hp g o1 T (fun a b=>if b<c then M (xch i k a) b else M a b) S/\∀ b,b≠T.bE->o1 b=o b,fun L _=>T.cols-(iAt L 0).toNat,⟨0,o,by omega,rfl,t.congr (fun a b _ _=>by rw [if_neg (by omega)]) (fun _ _=>rfl),fun _ _=>rfl⟩,?_⟩
 rintro z hp ⟨c,o1,hc,eL,t1,ho1⟩
 obtain rfl:z=(c:Int):=by simpa using eL
 refine B7 (fun hlt=>?_) (fun hge=>?_)
 ·have hcn:c<T.cols:=by omega
  obtain ⟨w1,z1,d0,d1⟩:=t1.at hk hcn
  obtain ⟨w2,z2,e0,e1⟩:=t1.at hi hcn
  rw [if_neg (Nat.lt_irrefl c)] at z1 z2
  refine ⟨_,rfl,by omega,by omega,_,_,_,_,d0,d1,_,rfl,by omega,by omega,_,_,_,_,e0,e1,_,rfl,by omega,by omega,?_⟩
  refine t1.store hi hcn (w:=w1) z1 ?_
  intro h2 o2 t2 ho2
  refine ⟨_,rfl,by omega,by omega,?_⟩
  refine t2.store hk hcn (w:=w2) z2 ?_
  intro h3 o3 t3 ho3
  rw [show B4 ((c:Int)+1)=((c+1:Nat):Int) by have:=t.small;rw [B6]<;>omega]
  refine ⟨⟨c+1,o3,by omega,rfl,t3.congr (fun a b _ _=>?_) (fun _ _=>rfl),fun b hb=>by rw [ho3 b hb,ho2 b hb,ho1 b hb]⟩,by simp only [Hl];omega⟩
  show (if a=k/\b=c then M i c else if a=i/\b=c then M k c else if b<c then M (xch i k a) b else M a b)=if b<c+1 then M (xch i k a) b else M a b
  unfold xch
  grind
 ·have hce:c=T.cols:=by omega
  subst hce
  obtain ⟨w1,z1,d0,d1,d2,d3⟩:=t1.sat hk
  obtain ⟨w2,z2,e0,e1,e2,e3⟩:=t1.sat hi
  refine ⟨_,rfl,_,_,_,t1.c2,_,rfl,_,_,_,t1.c2,_,rfl,_,_,_,t1.c2,_,rfl,by omega,by omega,_,_,_,_,_,_,_,_,d0,d1,d2,d3,_,rfl,_,_,_,t1.c2,_,rfl,by omega,by omega,_,_,_,_,_,_,_,_,e0,e1,e2,e3,_,rfl,by omega,by omega,?_⟩
  refine t1.sstore hi (w:=w1) z1 ?_
  intro h2 o2 t2 ho2
  refine ⟨_,rfl,by omega,by omega,?_⟩
  refine t2.sstore hk (w:=w2) z2 ?_
  intro h3 o3 t3 ho3
  refine hK h3 o3 (t3.congr (fun a b _ hb=>by rw [if_pos hb]) (fun a _=>?_)) (fun b hb1 hb2=>by rw [ho3 b hb2,ho2 b hb2,ho1 b hb1])
  show (if a=k then S i else if a=i then S k else S a)=S (xch i k a)
  unfold xch
  grind
end
theorem A0d{P:Program}{t:TypeId}{v:Value}{K:Value->Heap->Prop}{h:Heap}(x:∀ b,h b=none->K (.pointer (some ⟨b,0,none⟩)) (h.put b (.cells v.cells t))):wpH P (Instr.box t v) K h:=by
 unfold Instr.box newVar
 simp only [C3,O5,E7]
 exact x
theorem A4m{m k:Nat}(hm:1<=m)(hk:k<4611686018427387904):(k:Int)*2^(2*m)<b64^m:=by
 have e:b64^m=(2:Int)^(2*m)*2^(62*m):=by
  have:b64=(2:Int)^64:=by decide
  rw [this,<- Int.pow_mul,<- Int.pow_add]
  congr 1;omega
 have h1:(2:Int)^62<=2^(62*m):=D0 (by decide) (by omega)
 have h2:(k:Int)<2^62:=by
  have:(2:Int)^62=4611686018427387904:=by decide
  rw [this];omega
 have hp:(0:Int)<2^(2*m):=Int.pow_pos (by decide)
 rw [e,Int.mul_comm]
 exact Int.mul_lt_mul_of_pos_left (Int.lt_of_lt_of_le h2 h1) hp
theorem Zr{m:Nat}{x y:Int}(hx:ZB m x)(hy:ZB m y):((x*y).natAbs:Int)<=2^(2*m):=by
 have:=hx.mul hy
 unfold ZB at this
 have e:m+m=2*m:=by omega
 rw [e] at this
 have:((x*y).natAbs:Int)<((2^(2*m):Nat):Int):=by omega
 rw [Int.natCast_pow] at this
 exact Int.le_of_lt this
section
variable {h g o:Heap} {T:Tb} {M:Nat->Nat->Int} {S:Nat->Rat} {K:Value->Heap->Prop} {m:Nat}
theorem A12:(Tryz.prog.info? Hb).map (·.zero)=some (some (.agg #[.slice none 0 0,.slice none 0 0])):=by kernel_rfl
theorem Sl(t:Tab h g o T M S){i p c:Nat}{wb:IV}{d:Int}(hi:i<T.rows)(hp':p<T.rows)(hip:i≠p)(hc:c<T.cols)(ib:ZIr g wb d)(hd:d≠0)(hm1:1<=m)(hm:2*m+1<=100000000)(hMi:∀ b,b<T.cols->ZB m (M i b))(hMp:∀ b,b<T.cols->ZB m (M p b))(hdb:ZB m d)
 (hK:∀ h' g' o',g.le g'->Tab h' g' o' T (fun a b=>if a=i then (M p c*M i b-M i c*M p b).tdiv d else M a b) S->(∀ b,b≠T.bE->o' b=o b)->K (.tuple #[]) h'):FCall Tryz.prog Nw #[.pointer (some ⟨T.bt,0,none⟩),I (i:Int),I (p:Int),I (c:Int),wb.v] h K:=by
 refine A7e _ _ _ _ _ _ _ _ ?_
 unfold B0z
 refine Y2 t hi ⟨_,_,_,rfl,Y2 t hp' ⟨_,_,_,rfl,?_⟩⟩
 obtain ⟨wf,zf,f0,f1⟩:=t.at hi hc
 refine ⟨_,rfl,by omega,by omega,_,_,_,_,f0,f1,?_⟩
 refine ⟨fun L hp=>∃ (k:Nat) (g1 o1:Heap),k<=T.cols/\L=[I k]/\g.le g1/\Tab hp g1 o1 T (fun a b=>if a=i/\b<k then (M p c*M i b-M i c*M p b).tdiv d else M a b) S/\∀ b,b≠T.bE->o1 b=o b,fun L _=>T.cols-(iAt L 0).toNat,⟨0,g,o,by omega,rfl,B3 _,t.congr (fun a b _ _=>by rw [if_neg (by omega)]) (fun _ _=>rfl),fun _ _=>rfl⟩,?_⟩
 rintro z hq ⟨k,g1,o1,hk,eL,lg,t1,ho1⟩
 obtain rfl:z=(k:Int):=by simpa using eL
 have ew:B4 ((k:Int)+1)=((k+1:Nat):Int):=by have:=t.small;rw [B6]<;>omega
 refine B7 (fun hlt=>?_) (fun hge=>?_)
 ·have hkn:k<T.cols:=by omega
  obtain ⟨w1,z1,d0,d1⟩:=t1.at hi hkn
  rw [if_neg (by omega)] at z1
  have same:(M p c*M i k-M i c*M p k).tdiv d=M i k->(∃ (k':Nat) (g1 o1:Heap),k'<=T.cols/\[I (B4 ((k:Int)+1))]=[I k']/\g.le g1/\Tab hq g1 o1 T (fun a b=>if a=i/\b<k' then (M p c*M i b-M i c*M p b).tdiv d else M a b) S/\∀ b,b≠T.bE->o1 b=o b)/\T.cols-(iAt [I (B4 ((k:Int)+1))] 0).toNat<T.cols-(iAt [I (k:Int)] 0).toNat:=by
   intro e
   rw [ew]
   refine ⟨⟨k+1,g1,o1,by omega,rfl,lg,t1.congr (fun a b _ _=>?_) (fun _ _=>rfl),ho1⟩,by simp only [Hl];omega⟩
   by_cases h1:a=i/\b<k
   ·rw [if_pos h1,if_pos ⟨h1.1,by omega⟩]
   ·rw [if_neg h1]
    by_cases h2:a=i/\b<k+1
    ·obtain ⟨rfl,h3⟩:=h2
     have:b=k:=by omega
     subst this
     rw [if_pos ⟨rfl,by omega⟩,e]
    ·rw [if_neg h2]
  refine ⟨_,rfl,by omega,by omega,_,_,_,_,d0,d1,fun L hp=>hp=hq,?_,?_⟩
  ·refine F6 (z1.mono t1.sep.le) ⟨_,rfl,B7 (fun e1=>?_) (fun _=>rfl)⟩
   refine F6 (zf.mono (A0 lg t1.sep.le)) ⟨_,rfl,B7 (fun e2=>same (by rw [e1,e2];simp)) (fun _=>?_)⟩
   obtain ⟨w2,z2,c0,c1⟩:=t1.at hp' hkn
   rw [if_neg (by omega)] at z2
   refine ⟨_,rfl,by omega,by omega,_,_,_,_,c0,c1,F6 (z2.mono t1.sep.le) ⟨_,rfl,B7 (fun e3=>same (by rw [e1,e3];simp)) (fun _=>rfl)⟩⟩
  ·rintro hp rfl
   refine Dk A12 ?_
   intro bs hbs
   have hgb:g1 bs=none:=by
    cases hx:g1 bs with
    | none=>rfl
    | some y=>rw [t1.sep.le _ _ hx] at hbs;cases hbs
   have s2:=t1.sep.vis hbs (.cells #[.slice none 0 0,.slice none 0 0] Hb)
   have Z0:SumS (g1.put bs (.cells #[.slice none 0 0,.slice none 0 0] Hb)) g1 bs Hb 200000001 0 0:=SumS.zero hgb
   obtain ⟨w3,z3,a0,a1⟩:=t1.ato hp' hc
   obtain ⟨w2,z2,c0,c1⟩:=t1.ato hp' hkn
   rw [if_neg (by omega)] at z2 z3
   have bl:∀ {gg:Heap} {w:IV} {x:Int},ZIr gg w x->ZB m x->w.n<=100000000:=fun i b=>ZI.len i b (by omega)
   have bpc:=hMp c hc
   have bik:=hMi k hkn
   have bic:=hMi c hc
   have bpk:=hMp k hkn
   have q1:=Zr bpc bik
   have q2:=Zr bic bpk
   have q0:=A4m (m:=m) (k:=2) hm1 (by omega)
   have l3:=bl z3 bpc
   have l1:=bl z1 bik
   have lf:=bl zf bic
   have l2:=bl z2 bpk
   refine ⟨_,rfl,_,rfl,by omega,by omega,_,_,_,_,s2.cell a0,s2.cell a1,?_⟩
   refine s2.call (V4 Z0 z3 z1 (by omega) (by omega) (N1:=m) (by omega) (by omega) ?_)
   intro G3 g3 lg3 Z3 H3 s3
   refine ⟨rfl,_,rfl,by omega,by omega,_,_,_,_,s3.cell c0,s3.cell c1,?_⟩
   refine s3.call (Ms Z3 (zf.mono (A0 lg lg3)) (z2.mono lg3) (by omega) (by omega) (N1:=m) (by omega) (by omega) ?_)
   intro G4 g4 lg4 Z4 H4 s4
   refine ⟨rfl,s4.call (Ir Z4 (by omega) ?_)⟩
   intro sv Av nv cv G5 lg5 z5 H5 s5
   rw [Int.zero_add] at z5
   refine ⟨_,_,_,_,rfl,s4.le_le s5 lg5,?_⟩
   have g14:g1.le G5:=A0 lg3 (A0 lg4 (A0 Z4.le lg5))
   have bz:ZB (2*m+1) (M p c*M i k-M i c*M p k):=((bpc.mul bik).sub (bic.mul bpk)).mono (by omega)
   refine s5.call (Z9 z5 (ib.mono (A0 lg g14)) bz (hdb.mono (by omega)) (by omega) hd ?_)
   intro s6 A6 n6 c6 G6 lg6 z6 H6 sp6
   refine ⟨_,_,_,_,rfl,s5.le_le sp6 lg6,_,rfl,by omega,by omega,?_⟩
   have t6:=t1.next sp6 (A0 g14 lg6)
   refine t6.store hi hkn (w:=⟨s6,A6,n6,c6⟩) z6 ?_
   intro H7 o7 t7 ho7
   rw [ew]
   refine ⟨⟨k+1,G6,o7,by omega,rfl,A0 lg (A0 g14 lg6),t7.congr (fun a b _ _=>?_) (fun _ _=>rfl),fun b hb=>by rw [ho7 b hb,ho1 b hb]⟩,by simp only [Hl];omega⟩
   show (if a=i/\b=k then (M p c*M i k-M i c*M p k).tdiv d else if a=i/\b<k then (M p c*M i b-M i c*M p b).tdiv d else M a b)=_
   grind
 ·have hce:k=T.cols:=by omega
  subst hce
  exact hK hq g1 o1 lg (t1.congr (fun a b _ hb=>by
   by_cases h1:a=i
   ·rw [if_pos ⟨h1,hb⟩,if_pos h1]
   ·rw [if_neg (fun x=>h1 x.1),if_neg h1]) (fun _ _=>rfl)) ho1
theorem A14(n:Nat)(s:PS)(h:s.cs=[]):∀ c,(As n s c).cs.length<=c:=by
 intro c
 induction c with
 | zero=>show s.cs.length<=0;rw [h];exact Nat.le_refl _
 | succ c ih=>
  show (Cq n c (As n s c)).cs.length<=c+1
  unfold Cq
  split
  ·show ((As n s c).cs++[c]).length<=c+1
   rw [List.length_append]
   exact Nat.succ_le_succ ih
  ·omega
theorem Ok(n:Nat)(s:PS)(h:s.last≠0)(hs:s.sgn=1\/s.sgn= -1)(hl:s.cs.length<=n):∀ c,(As n s c).last≠0/\((As n s c).sgn=1\/(As n s c).sgn= -1)/\(As n s c).cs.length<=n:=by
 intro c
 induction c with
 | zero=>exact ⟨h,hs,hl⟩
 | succ c ih=>
  obtain ⟨i1,i2,i3⟩:=ih
  show (Cq n c (As n s c)).last≠0/\((Cq n c (As n s c)).sgn=1\/(Cq n c (As n s c)).sgn= -1)/\(Cq n c (As n s c)).cs.length<=n
  have hr:=Zk n c (As n s c) i3
  unfold Cq
  by_cases hx:Kp n c (As n s c)<n
  ·rw [if_pos hx]
   have:=Pb (fun i=>decide ((As n s c).M i c≠0)) (n-(As n s c).cs.length) (As n s c).cs.length (by unfold Kp at hx;omega)
   refine ⟨by simpa [Kp] using this,?_,?_⟩
   ·show (if Kp n c (As n s c)=(As n s c).cs.length then (As n s c).sgn else -(As n s c).sgn)=1\/(if Kp n c (As n s c)=(As n s c).cs.length then (As n s c).sgn else -(As n s c).sgn)= -1
    split<;>omega
   ·show ((As n s c).cs++[c]).length<=n
    rw [List.length_append]
    simp only [List.length_cons,List.length_nil]
    omega
  ·rw [if_neg hx];exact ⟨i1,i2,i3⟩
theorem Dn{α:Type}[E:Enc α]{P:Program}{t e ty:TypeId}{z:Value}{bytes:Nat}(st:SliceT P t e z E.default.size bytes){h g o:Heap}{A:Option Addr}{c n:Nat}{xs:List α}(s:Sep h g o)(w:OwnSl o e A c xs)(hxn:n=xs.length){v:Value}{y:α}(hv:v.cells=(enc y).toArray)(hsz:E.default.size<=1000)
 (hb:(2*(xs.length+1)+192)*bytes<=281474976710656) (hn:xs.length+1<=9223372036854775807) {K:Option Addr->Nat->Nat->Heap->Prop}
 (x:∀ A' c' h' g' o',g.le g'->Sep h' g' o'->OwnSl o' e A' c' (xs++[y])->(∀ k u,o k=some u->A≠some ⟨k,0,none⟩->o' k=some u/\A'≠some ⟨k,0,none⟩)->K A' (xs.length+1) c' h'):
 wpH P (Instr.buildSlice t 1 #[(0,v)]) (fun v' hp=>∃ (B:Option Addr) (m d:Nat),v'= .slice B m d/\wpH P (Builtin.append_ #[t,t] ty #[.slice A n c,.slice B m d]) (fun v1 hp1=>∃ (A':Option Addr) (n' c':Nat),v1= .slice A' n' c'/\K A' n' c' hp1) hp) h:=by
 subst hxn
 refine Fx _ (OwnSl.push (ty:=ty) st s w hv hsz hb hn (K1:=fun _=>True) (K:=K) (fun _ _=>trivial) x) ?_
 rintro v' hp ⟨B,m,d,e,_,hk⟩
 exact ⟨B,m,d,e,hk⟩
theorem Tab.own(t:Tab h g o T M S):(∃ x,o T.bt=some x)/\(∃ x,o T.bE=some x)/\∃ x,o T.bS=some x:=by
 obtain ⟨e,he⟩:=t.head
 obtain ⟨ws,⟨e1,x1,h1⟩,_⟩:=t.elems
 obtain ⟨ss,⟨e2,x2,h2⟩,_⟩:=t.scales
 exact ⟨⟨_,he⟩,⟨_,h1⟩,⟨_,h2⟩⟩
theorem Tab.keep(t:Tab h g o T M S){h' g' o':Heap}(s:Sep h' g' o')(l:g.le g')(hk:∀ k x,o k=some x->k=T.bt\/k=T.bE\/k=T.bS->o' k=some x):Tab h' g' o' T M S:=by
 refine ⟨s,t.n1,t.n2,t.n3,?_,?_,?_,t.cE,t.cS,t.small,t.pos⟩
 ·obtain ⟨e,he⟩:=t.head
  exact ⟨e,hk _ _ he (.inl rfl)⟩
 ·obtain ⟨ws,⟨e,ex,hb⟩,hl,hw⟩:=t.elems
  refine ⟨ws,⟨e,ex,hk _ _ hb (.inr (.inl rfl))⟩,hl,fun i j hi hj=>?_⟩
  obtain ⟨w,e,hz⟩:=hw i j hi hj
  exact ⟨w,e,Dz _ _ _ _ l hz⟩
 ·obtain ⟨ss,⟨e,ex,hb⟩,hl,hw⟩:=t.scales
  exact ⟨ss,⟨e,ex,hk _ _ hb (.inr (.inr rfl))⟩,hl,hw.mono K3 l⟩
abbrev zs(l:List Nat):List Int:=l.map fun (n:Nat)=>(n:Int)
def B2t(T:Tb)(A:Option Addr):Prop:=A≠some ⟨T.bt,0,none⟩/\A≠some ⟨T.bE,0,none⟩/\A≠some ⟨T.bS,0,none⟩
theorem Zo(t:Tab h g o T M S){c l:Nat}(hc:c<=T.cols)(hm1:1<=m)(hm:2*(3^c*m)+1<=100000000)(hz:ZbP T.rows T.cols m l ⟨M,S,[],1,1⟩)
 (hK:∀ h' g' o' A cap w,g.le g'->Tab h' g' o' T (As T.rows ⟨M,S,[],1,1⟩ c).M (As T.rows ⟨M,S,[],1,1⟩ c).S->OwnSl o' F1 A cap (zs (As T.rows ⟨M,S,[],1,1⟩ c).cs)->B2t T A->(∀ k x,o k=some x->k≠T.bE->k≠T.bS->o' k=some x/\A≠some ⟨k,0,none⟩)->ZIr g' w (As T.rows ⟨M,S,[],1,1⟩ c).last->
  K (.tuple #[.slice A (As T.rows ⟨M,S,[],1,1⟩ c).cs.length cap,w.v,I (As T.rows ⟨M,S,[],1,1⟩ c).sgn]) h'):FCall Tryz.prog Ca #[.pointer (some ⟨T.bt,0,none⟩),I (c:Int)] h K:=by
 refine A3j _ _ ?_
 unfold A7a
 have hsm:=t.small
 refine t.sep.call (Bn (by omega) (by omega) ?_)
 intro s1 A1 n1 c1 g1 l1 i1 h1 sp1
 have t1:=t.next sp1 l1
 refine ⟨_,_,_,_,rfl,fun L hp=>∃ (k:Nat) (g' o':Heap) (A:Option Addr) (cap:Nat) (w:IV),k<=c/\L=[.slice A (As T.rows ⟨M,S,[],1,1⟩ k).cs.length cap,I (As T.rows ⟨M,S,[],1,1⟩ k).sgn,I k,.bool w.s,.slice w.A w.n w.c]/\g.le g'/\Tab hp g' o' T (As T.rows ⟨M,S,[],1,1⟩ k).M (As T.rows ⟨M,S,[],1,1⟩ k).S/\OwnSl o' F1 A cap (zs (As T.rows ⟨M,S,[],1,1⟩ k).cs)/\B2t T A/\(∀ k x,o k=some x->k≠T.bE->k≠T.bS->o' k=some x/\A≠some ⟨k,0,none⟩)/\ZIr g' w (As T.rows ⟨M,S,[],1,1⟩ k).last,
  fun L _=>c-(iAt L 2).toNat,⟨0,g1,o,none,0,⟨s1,A1,n1,c1⟩,by omega,rfl,l1,t1,(OwnSl.nil:OwnSl o F1 none 0 ([]:List Int)),⟨by simp,by simp,by simp⟩,fun k x e _ _=>⟨e,by simp⟩,i1⟩,?_⟩
 rintro pA pn pc sign z ls lA ln lc hp ⟨k,g2,o2,A,cap,w,hk,eL,lg,t2,ow,ap,ko,iw⟩
 simp only [List.cons.injEq,Value.int.injEq,Value.bool.injEq,Value.slice.injEq,true_and,and_true] at eL
 obtain ⟨⟨rfl,rfl,rfl⟩,rfl,rfl,rfl,rfl,rfl,rfl⟩:=eL
 have hrl:=Ok T.rows ⟨M,S,[],1,1⟩ (show (1:Int)≠0 by decide) (.inl rfl) (Nat.zero_le _) k
 have hlen:=A14 T.rows ⟨M,S,[],1,1⟩ rfl k
 have hzk:=hz.run hm1 k (by omega)
 refine B7 (fun hlt=>?_) (fun hge=>?_)
 ·have hkc:k<c:=by omega
  have hkT:k<T.cols:=by omega
  have ew:B4 ((k:Int)+1)=((k+1:Nat):Int):=by rw [B6]<;>omega
  have hst:As T.rows ⟨M,S,[],1,1⟩ (k+1)=Cq T.rows k (As T.rows ⟨M,S,[],1,1⟩ k):=rfl
  have hpow:3^(As T.rows ⟨M,S,[],1,1⟩ k).cs.length*m<=3^c*m:=Nat.mul_le_mul_right _ (Nat.pow_le_pow_right (by decide) (by omega))
  have hpos:=Tr (As T.rows ⟨M,S,[],1,1⟩ k).cs.length m hm1
  generalize hst0:As T.rows ⟨M,S,[],1,1⟩ k=st at *
  have hrow:fnd (fun i=>decide (st.M i k≠0)) (T.rows-st.cs.length) st.cs.length=Kp T.rows k st:=rfl
  have hrp:=Zk T.rows k st hrl.2.2
  refine Xc t2 hrl.2.2 hkT (fun hf=>?_) (fun hf=>?_)
  ·rw [hrow] at hf ⊢
   have hstep:Cq T.rows k st={ M:=clr (fun i=>st.M (xch st.cs.length (Kp T.rows k st) i)) st.cs.length k st.last,S:=fun i=>st.S (xch st.cs.length (Kp T.rows k st) i),cs:=st.cs++[k],last:=st.M (Kp T.rows k st) k,sgn:=if Kp T.rows k st=st.cs.length then st.sgn else-st.sgn }:=by unfold Cq;rw [if_pos hf]
   generalize hr:Kp T.rows k st=r at *
   have hrk:st.cs.length<T.rows:=by omega
   refine ⟨_,_,rfl,fun L hq=>∃ (g3 o3:Heap),L=[I (if r=st.cs.length then st.sgn else-st.sgn)]/\g2.le g3/\Tab hq g3 o3 T (fun i=>st.M (xch st.cs.length r i)) (fun i=>st.S (xch st.cs.length r i))/\∀ b,b≠T.bE->b≠T.bS->o3 b=o2 b,?_,?_⟩
   ·refine K7 (fun hne=>?_) (fun heq=>?_)
    ·have hne':r≠st.cs.length:=by omega
     refine Wc t2 hrk hf (fun e=>hne' e.symm) ?_
     intro h3 o3 t3 ho3
     refine ⟨rfl,g2,o3,?_,B3 _,t3,ho3⟩
     rw [if_neg hne']
     have:B4 (0-st.sgn)= - st.sgn:=by rw [B6]<;>omega
     rw [this]
    ·have heq':r=st.cs.length:=by omega
     refine ⟨g2,o2,by rw [if_pos heq'],B3 _,t2.congr (fun i j _ _=>?_) (fun i _=>?_),fun _ _ _=>rfl⟩
     ·rw [heq'];unfold xch;grind
     ·rw [heq'];unfold xch;grind
   ·rintro sg1 h4 ⟨g3,o3,eL3,l3,t3,ho3⟩
    obtain rfl:sg1=if r=st.cs.length then st.sgn else-st.sgn:=by simpa using eL3
    refine ⟨_,rfl,_,_,_,t3.c2,?_⟩
    have xk:xch st.cs.length r st.cs.length=r:=Fw _ _
    have hxn:∀ i,i<T.rows->xch st.cs.length r i<T.rows:=fun i hi=>If hrk hf hi
    refine ⟨fun L hq=>∃ (i:Nat) (g4 o4:Heap),i<=T.rows/\L=[I i]/\g3.le g4/\Tab hq g4 o4 T (fun a b=>if a<i/\a≠st.cs.length then clr (fun i=>st.M (xch st.cs.length r i)) st.cs.length k st.last a b else st.M (xch st.cs.length r a) b) (fun i=>st.S (xch st.cs.length r i))/\∀ b,b≠T.bE->o4 b=o3 b,fun L _=>T.rows-(iAt L 0).toNat,⟨0,g3,o3,by omega,rfl,B3 _,t3.congr (fun a b _ _=>by rw [if_neg (by omega)]) (fun _ _=>rfl),fun _ _=>rfl⟩,?_⟩
    rintro zi h5 ⟨i,g4,o4,hi,eL4,l4,t4,ho4⟩
    obtain rfl:zi=(i:Int):=by simpa using eL4
    have ewi:B4 ((i:Int)+1)=((i+1:Nat):Int):=by rw [B6]<;>omega
    refine B7 (fun hilt=>?_) (fun hige=>?_)
    ·have hin:i<T.rows:=by omega
     refine K7 (fun hne=>?_) (fun heq=>?_)
     ·have hne':i≠st.cs.length:=by omega
      refine Sl (m:=3^st.cs.length*m) t4 hin hrk hne' hkT (Dz _ _ _ _ (A0 l3 l4) iw) hrl.1 hpos (by omega) (fun b hb=>?_) (fun b hb=>?_) hzk.last ?_
      ·rw [if_neg (by omega)];exact hzk.M _ b (hxn i hin) hb
      ·rw [if_neg (by omega),xk];exact hzk.M r b hf hb
      intro h6 g6 o6 l6 t6 ho6
      refine ⟨rfl,?_⟩
      rw [ewi]
      refine ⟨⟨i+1,g6,o6,by omega,rfl,A0 l4 l6,t6.congr (fun a b _ _=>?_) (fun _ _=>rfl),fun b hb=>by rw [ho6 b hb,ho4 b hb]⟩,by simp only [Hl];omega⟩
      show (if a=i then ((if st.cs.length<i/\st.cs.length≠st.cs.length then _ else st.M (xch st.cs.length r st.cs.length) k)*(if i<i/\i≠st.cs.length then _ else st.M (xch st.cs.length r i) b)-(if i<i/\i≠st.cs.length then _ else st.M (xch st.cs.length r i) k)*(if st.cs.length<i/\st.cs.length≠st.cs.length then _ else st.M (xch st.cs.length r st.cs.length) b)).tdiv st.last else if a<i/\a≠st.cs.length then clr (fun i=>st.M (xch st.cs.length r i)) st.cs.length k st.last a b else st.M (xch st.cs.length r a) b)=if a<i+1/\a≠st.cs.length then clr (fun i=>st.M (xch st.cs.length r i)) st.cs.length k st.last a b else st.M (xch st.cs.length r a) b
      rw [if_neg (show ¬ (st.cs.length<i/\st.cs.length≠st.cs.length) by omega),if_neg (show ¬ (i<i/\i≠st.cs.length) by omega),if_neg (show ¬ (i<i/\i≠st.cs.length) by omega),if_neg (show ¬ (st.cs.length<i/\st.cs.length≠st.cs.length) by omega)]
      by_cases ea:a=i
      ·subst ea
       rw [if_pos rfl,if_pos ⟨by omega,hne'⟩]
       unfold clr
       rw [if_neg hne']
      ·rw [if_neg ea]
       by_cases h7:a<i/\a≠st.cs.length
       ·rw [if_pos h7,if_pos ⟨by omega,h7.2⟩]
       ·rw [if_neg h7,if_neg (by omega)]
     ·have heq':i=st.cs.length:=by omega
      rw [ewi]
      refine ⟨⟨i+1,g4,o4,by omega,rfl,l4,t4.congr (fun a b _ _=>?_) (fun _ _=>rfl),ho4⟩,by simp only [Hl];omega⟩
      by_cases h7:a<i/\a≠st.cs.length
      ·rw [if_pos h7,if_pos ⟨by omega,h7.2⟩]
      ·rw [if_neg h7,if_neg (by omega)]
    ·have hie:i=T.rows:=by omega
     subst hie
     have tF:Tab h5 g4 o4 T (clr (fun i=>st.M (xch st.cs.length r i)) st.cs.length k st.last) (fun i=>st.S (xch st.cs.length r i)):=t4.congr (fun a b ha _=>by
      by_cases h7:a=st.cs.length
      ·rw [if_neg (by omega),h7];unfold clr;rw [if_pos rfl]
      ·rw [if_pos ⟨ha,h7⟩]) (fun _ _=>rfl)
     refine Y2 tF hrk ⟨_,_,_,rfl,_,rfl,by omega,by omega,?_⟩
     obtain ⟨wl,zl,d0,d1⟩:=tF.at hrk hkT
     have hzl:ZIr g4 wl (st.M r k):=by
      have:clr (fun i=>st.M (xch st.cs.length r i)) st.cs.length k st.last st.cs.length k=st.M r k:=by unfold clr;rw [if_pos rfl];show st.M (xch st.cs.length r st.cs.length) k=_;rw [xk]
      rw [this] at zl;exact zl
     refine ⟨_,_,_,_,d0,d1,?_⟩
     have hkeep:∀ b,b≠T.bE->b≠T.bS->o4 b=o2 b:=fun b h1 h2=>by rw [ho4 b h1,ho3 b h1 h2]
     have ow4:OwnSl o4 F1 pA pc (zs st.cs):=ow.keep fun b x hA hb=>by
      rw [hkeep b (fun e=>ap.2.1 (by rw [<- e];exact hA)) (fun e=>ap.2.2 (by rw [<- e];exact hA))];exact hb
     have hzl0:(zs st.cs).length=st.cs.length:=by simp
     refine Dn (ty:=A0y) B18 tF.sep ow4 (by simp) (y:=((k:Nat):Int)) rfl (by decide) (by rw [hzl0];omega) (by rw [hzl0];omega) ?_
     intro A' c' h' g' o' lg' s' ow' ho'
     obtain ⟨⟨x1,hx1⟩,⟨x2,hx2⟩,⟨x3,hx3⟩⟩:=tF.own
     have t':=tF.keep s' lg' (fun kk x e hkk=>by
      rcases hkk with rfl|rfl|rfl
      ·exact (ho' _ _ e ap.1).1
      ·exact (ho' _ _ e ap.2.1).1
      ·exact (ho' _ _ e ap.2.2).1)
     rw [hzl0,ew]
     have elen:(st.cs++[k]).length=st.cs.length+1:=by simp
     refine ⟨⟨k+1,g',o',A',c',wl,by omega,?_,A0 lg (A0 l3 (A0 l4 lg')),?_⟩,?_⟩
     ·rw [hst,hstep,elen]
     ·rw [hst,hstep]
      refine ⟨t',by simpa [zs] using ow',⟨(ho' _ _ hx1 ap.1).2,(ho' _ _ hx2 ap.2.1).2,(ho' _ _ hx3 ap.2.2).2⟩,fun kk x e h1 h2=>?_,Dz _ _ _ _ lg' hzl⟩
      obtain ⟨e2,hA2⟩:=ko kk x e h1 h2
      exact ho' kk x (by rw [hkeep kk h1 h2];exact e2) hA2
     ·show c-((k+1:Nat):Int).toNat<c-((k:Nat):Int).toNat
      omega
  ·rw [hrow] at hf
   have hstep:Cq T.rows k st=st:=by unfold Cq;rw [if_neg (by omega)]
   refine ⟨_,_,rfl,?_⟩
   rw [ew]
   refine ⟨⟨k+1,g2,o2,pA,pc,w,by omega,by rw [hst,hstep],lg,?_⟩,?_⟩
   ·rw [hst,hstep];exact ⟨t2,ow,ap,ko,iw⟩
   ·show c-((k+1:Nat):Int).toNat<c-((k:Nat):Int).toNat
    omega
 ·have:k=c:=by omega
  subst this
  exact hK hp g2 o2 pA pc w lg t2 ow ap ko iw
end
section
variable {h:Heap} {K:Value->Heap->Prop} {A B:Option Addr} {n c n' c' m:Nat} {s s':Bool} {x y:Int}
theorem B1d:RQ h ⟨false,none,0,0,false,none,0,0⟩ 0:=⟨ZI.zero,ZI.zero⟩
theorem Tn{z:Int}(i:ZI h s A n c z):RQ h ⟨s,A,n,c,false,none,0,0⟩ (z:Rat):=⟨by simpa using i,by simpa using ZI.zero⟩
theorem L6(gl:Gtz h)(ix:ZI h s A n c x)(iy:ZI h s' B n' c' y)(hx:ZB m x)(hy:ZB m y)(hm:m<=6400000000)(hK:∀ w h',h.le h'->RQ h' w (Rat.divInt x y)->K w.v h'):FCall Tryz.prog L8 #[.agg #[.bool s,.slice A n c],.agg #[.bool s',.slice B n' c']] h K:=by
 refine Ya _ _ _ _ _ _ _ _ ?_
 unfold Yb
 refine ⟨fun L hp=>hp=h/\((L=[.bool true]/\Rat.divInt x y=0)\/(L=[.bool false]/\y≠0)),?_,?_⟩
 ·refine F6 iy ⟨_,rfl,B7 (fun e=>⟨rfl,.inl ⟨rfl,by rw [e];exact Rat.divInt_zero x⟩⟩) (fun e=>F6 ix ⟨_,rfl,rfl,?_⟩)⟩
  by_cases e2:x=0
  ·exact .inl ⟨by rw [decide_eq_true e2],by rw [e2];exact Rat.zero_divInt y⟩
  ·exact .inr ⟨by rw [decide_eq_false e2],e⟩
 rintro t hp ⟨rfl,hL⟩
 refine Br.of (fun e=>?_) (fun e=>?_)
 ·rcases hL with ⟨_,h0⟩|⟨h1,_⟩
  ·rw [h0] at hK
   exact hK _ _ (B3 _) B1d
  ·simp at h1;rw [e] at h1;cases h1
 have hy0:y≠0:=by
  rcases hL with ⟨h1,_⟩|⟨_,h0⟩
  ·simp at h1;rw [e] at h1;cases h1
  ·exact h0
 refine ⟨fun l hq=>∃ s A n c s' B n' c' x' y',l=[.bool s,.slice A n c,.bool s',.slice B n' c']/\hp.le hq/\ZI hq s A n c x'/\ZI hq s' B n' c' y'/\0<y'/\Rat.divInt x' y'=Rat.divInt x y/\ZB m x'/\ZB m y',?_,?_⟩
 ·refine Rr iy ⟨_,rfl,B7 (fun e=>?_) (fun e=>?_)⟩
  ·have hneg:y<0:=by rwa [Int.sign_neg_iff] at e
   refine Aa ix ?_
   intro s1 i1
   refine ⟨_,_,_,_,rfl,B3 _,?_⟩
   refine Aa iy ?_
   intro s2 i2
   exact ⟨_,_,_,_,rfl,B3 _,_,_,_,_,_,_,_,_,-x,-y,rfl,B3 _,i1,i2,by omega,Rat.neg_divInt_neg x y,hx.neg,hy.neg⟩
  ·have hpos:0<y:=by rw [Int.sign_neg_iff] at e;omega
   exact ⟨_,_,_,_,_,_,_,_,x,y,rfl,B3 _,ix,iy,hpos,rfl,hx,hy⟩
 rintro s1 A1 n1 c1 s2 A2 n2 c2 hp2 ⟨s1',A1',n1',c1',s2',A2',n2',c2',x',y',hl,hle,i1,i2,hpos,hq,hx',hy'⟩
 obtain ⟨rfl,⟨rfl,rfl,rfl⟩,rfl,rfl,rfl,rfl⟩:s1=s1'/\(A1=A1'/\n1=n1'/\c1=c1')/\s2=s2'/\A2=A2'/\n2=n2'/\c2=c2':=by simpa using hl
 rw [<- hq] at hK
 refine Q3 i2 ⟨_,rfl,B7 (fun e1=>?_) (fun e1=>?_)⟩
 ·rw [e1,A2v] at hK
  exact hK _ _ hle (Tn i1)
 refine Ea (gl.mono hle) i1 i2 hx' hy' hm ?_
 intro A3 n3 c3 h3 l3 i3
 refine ⟨_,_,_,_,rfl,?_⟩
 generalize hqq:Rat.divInt x' y'=q at *
 have hnum:q.num=x'/(Int.gcd x' y':Int):=by
  rw [<- hqq,Rat.num_divInt,Int.sign_eq_one_of_pos hpos,Int.one_mul,Int.gcd_comm]
 have hden:(q.den:Int)=y'/(Int.gcd x' y':Int):=by
  rw [<- hqq,Rat.den_divInt,if_neg (by omega),Int.gcd_comm,Int.natCast_ediv,Int.natAbs_of_nonneg (by omega)]
 have hg1:0<Int.gcd x' y':=Int.gcd_pos_of_ne_zero_right x' (by omega)
 have hgm:ZB m (Int.gcd x' y':Int):=ZB.gcd (by omega) hy'
 refine Q3 i3 ⟨_,rfl,Cj (B7 (fun e2=>?_) (fun e2=>?_))⟩
 ·rw [e2] at hnum hden
  simp at hnum hden
  refine Af (q:=q) (i1.mono l3) (i2.mono l3) hnum hden ?_
  intro w iw
  exact ⟨_,_,_,_,_,_,_,_,rfl,hK _ _ (A0 hle l3) iw⟩
 ·refine Z9 (i1.mono l3) i3 hx' hgm hm (by omega) ?_
  intro s4 A4 n4 c4 h4 l4 i4
  refine ⟨_,_,_,_,rfl,l4,?_⟩
  refine Z9 ((i2.mono l3).mono l4) (i3.mono l4) hy' hgm hm (by omega) ?_
  intro s5 A5 n5 c5 h5 l5 i5
  refine ⟨_,_,_,_,rfl,l5,?_⟩
  refine Af (q:=q) (i4.mono l5) i5 (by rw [hnum,Int.tdiv_eq_ediv_of_dvd (Int.gcd_dvd_left x' y')]) (by rw [hden,Int.tdiv_eq_ediv_of_dvd (Int.gcd_dvd_right x' y')]) ?_
  intro w iw
  exact ⟨_,_,_,_,_,_,_,_,rfl,hK _ _ (A0 hle (A0 l3 (A0 l4 l5))) iw⟩
end
section
variable {α:Type} [E:Enc α]
theorem OwnSl.store{P:Program}{t e:TypeId}(one:P.cellsOf t=E.default.size/\(P.info? t).isSome=true){v:Value}{y:α}(hv:v.cells=(enc y).toArray){h g o:Heap}{A:Option Addr}{c:Nat}{xs:List α}(s:Sep h g o)(w:OwnSl o e A c xs){i b:Nat}(hi:i<xs.length)(hA:A=some ⟨b,0,none⟩){K:Unit->Heap->Prop}
 (x:∀ h' o',Sep h' g o'->OwnSl o' e A c (xs.set i y)->(∀ k,k≠b->o' k=o k)->K () h'):wpH P (Instr.storeAt t (.pointer (some (Addr.add ⟨b,0,none⟩ (i*E.default.size)))) v) K h:=by
 rcases w.2 with ⟨h0,_⟩|⟨b',arr,hA',hb,h1,h2⟩
 ·exfalso;have:=w.1;omega
 ·rw [hA] at hA'
  simp only [Option.some.injEq,Addr.mk.injEq,and_true] at hA'
  subst hA'
  obtain ⟨ex,hex⟩:∃ ex,arr=xs.flatMap enc++ex:=⟨arr.drop (xs.length*E.default.size),by rw [<- h2,List.take_append_drop]⟩
  rw [hex] at hb h1
  obtain ⟨ti,hti⟩:=Option.isSome_iff_exists.1 one.2
  have hs:ti.size=E.default.size:=by simpa [Program.cellsOf,hti] using one.1
  have hl:=E.default.len y
  have hle:(i+1)*E.default.size<=xs.length*E.default.size:=Nat.mul_le_mul_right _ hi
  rw [Nat.add_mul,Nat.one_mul] at hle
  have hput:(h.without b).put b (.cells (xs.flatMap enc++ex).toArray e)=h:=L9 (s.own b _ hb)
  unfold Instr.storeAt
  simp only [C3,Instr.sureAddr,E7,storeVar,J5 hti,hs,hv,List.size_toArray,hl,ne_eq,not_true_eq_false,if_false]
  rw [D3,Nat.zero_add,<- hput]
  refine G2 (enc y) (i*E.default.size) 0 _ (by rw [List.length_append,J3,hl];omega) (E.default.one y) ?_
  have hsp:I7 (xs.flatMap enc++ex) (i*E.default.size+0) (enc y)=(xs.set i y).flatMap enc++ex:=by
   rw [Nat.add_zero,<- Ud xs hi]
   unfold I7
   rw [List.take_append_of_le_length (by rw [J3];omega),List.drop_append_of_le_length (by rw [J3,hl];omega),List.append_assoc,List.append_assoc,List.append_assoc]
  rw [hsp]
  have hp2:(h.without b).put b (.cells ((xs.set i y).flatMap enc++ex).toArray e)=h.put b (.cells ((xs.set i y).flatMap enc++ex).toArray e):=by
   rw [<- hput,Mq,hput]
  rw [hp2]
  refine x _ _ (s.upd hb _) ⟨by simpa using w.1,.inr ⟨b,(xs.set i y).flatMap enc++ex,hA,B9 _ _ _,?_,?_⟩⟩ (fun k hk=>B5 _ _ hk)
  ·rw [List.length_append,J3] at h1 ⊢
   simpa using h1
  ·rw [List.take_append_of_le_length (by rw [J3];omega),List.take_of_length_le (by rw [J3];omega)]
end
section
variable {h g:Heap} {K:Value->Heap->Prop} {A:Option Addr} {n c cols:Nat}
def A77(h:Heap)(v:Value)(A:Option Addr)(n c cols:Nat):Prop:=∃ f0 f1:Addr,v= .func (.func Fa) #[] #[.pointer (some f0),.pointer (some f1)]/\h.cell? f0=some (.slice A n c)/\h.cell? f1=some (I (cols:Int))
theorem Sm(hc:1<=cols)(hK:∀ v h',h.le h'->A77 h' v A n c cols->K v h'):FCall Tryz.prog Nu #[.slice A n c,I (cols:Int)] h K:=by
 refine A72 _ _ _ _ ?_
 unfold B0q
 refine A0d ?_
 intro b hb
 refine ⟨_,rfl,A0d ?_⟩
 intro b2 hb2
 have c1:Heap.cell? ((h.put b (.cells (Value.cells (.slice A n c)) 87)).put b2 (.cells (Value.cells (I (cols:Int))) 3)) ⟨b2,0,none⟩=some (I (cols:Int)):=by rw [D4];rfl
 refine ⟨_,rfl,_,c1,B7 (fun e=>by omega) (fun _=>hK _ _ (A0 (Heap.le_put _ hb) (Heap.le_put _ hb2)) ⟨⟨b,0,none⟩,⟨b2,0,none⟩,rfl,?_,c1⟩)⟩
 refine C0 (Heap.le_put _ hb2) ?_
 rw [D4];rfl
theorem Om{g0:Heap}{v:Value}{rows:Nat}(ic:A77 g0 v A (rows*cols) c cols)(hc:1<=cols)(hn:rows*cols<=1000000000)(hcap:rows*cols<=c){B:List Value->Heap->(Heap->Prop)->Prop}{K:Heap->Prop}(J:Nat->Heap->Prop)(h0:J 0 h)(hle:∀ k h,J k h->g0.le h)
 (hB:∀ k h1,k<rows->J k h1->B [.slice (J4 A ((k+1)*cols) (k*cols) 4) cols cols] h1 (J (k+1))) (hK:∀ h1,J rows h1->K h1):Yc Tryz.prog v h B K:=by
 obtain ⟨f0,f1,rfl,e0,e1⟩:=ic
 refine ⟨Fa,#[],#[.pointer (some f0),.pointer (some f1)],rfl,Vn,?_⟩
 intro l rec hl hround
 have ea:(#[] ++ #[.func (.yield l) #[] #[]] ++ #[.pointer (some f0),.pointer (some f1)]:Array Value)=#[.func (.yield l) #[] #[],.pointer (some f0),.pointer (some f1)]:=by simp
 rw [ea]
 refine A3h l f0 f1 ?_
 unfold A73
 refine ⟨fun L hp=>∃ (k:Nat) (h1:Heap),k<=rows/\L=[I ((k*cols:Nat):Int)]/\h1 l=none/\hp=h1.put l (.loop rec)/\J k h1,fun L _=>rows*cols-(iAt L 0).toNat,⟨0,h,by omega,by simp,hl,rfl,h0⟩,?_⟩
 rintro i hp ⟨k,h1,hk,eL,hl1,rfl,hJ⟩
 obtain rfl:i=((k*cols:Nat):Int):=by simpa using eL
 have lg:=A0 (hle k h1 hJ) (Heap.le_put (.loop rec) hl1)
 have d0:=C0 lg e0
 have d1:=C0 lg e1
 refine ⟨_,_,_,d0,B7 (fun hlt=>?_) (fun hge=>?_)⟩
 ·have hkr:k<rows:=by
   by_cases hx:k<rows
   ·exact hx
   ·exfalso
    have:rows*cols<=k*cols:=Nat.mul_le_mul_right _ (by omega)
    omega
  have h2:(k+1)*cols<=rows*cols:=Nat.mul_le_mul_right _ hkr
  have h3:(k+1)*cols=k*cols+cols:=by rw [Nat.add_mul,Nat.one_mul]
  have em:(if ((rows*cols-(((k*cols:Nat):Int)).toNat:Nat):Int)<(cols:Int) then ((rows*cols-(((k*cols:Nat):Int)).toNat:Nat):Int) else (cols:Int))=(cols:Int):=by
   rw [if_neg (by simp only [Int.toNat_natCast];omega)]
  have ew:B4 (((k*cols:Nat):Int)+(cols:Int))=(((k+1)*cols:Nat):Int):=by rw [B6]<;>omega
  refine ⟨_,d1,_,_,_,d0,⟨by omega,by omega⟩,_,_,_,d0,?_⟩
  rw [em,ew]
  simp only [Int.toNat_natCast]
  have e5:(k+1)*cols-k*cols=cols:=by omega
  rw [e5]
  refine ⟨⟨by omega,by omega⟩,⟨by omega,by omega⟩,⟨by omega,by omega⟩,?_⟩
  refine (hround _ h1 (J (k+1)) hl1 (hB k h1 hkr hJ)).mono ?_
  rintro r h4 ⟨rfl,h5,hl5,rfl,hJ5⟩
  refine ⟨_,rfl,?_⟩
  show ∃ (t11:Int),_
  have lg5:=A0 (hle _ h5 hJ5) (Heap.le_put (.loop rec) hl5)
  refine ⟨_,C0 lg5 e1,?_⟩
  rw [ew]
  exact ⟨⟨k+1,h5,by omega,rfl,hl5,rfl,hJ5⟩,by simp only [Hl];omega⟩
 ·have hke:k=rows:=by
   by_cases hx:k=rows
   ·exact hx
   ·exfalso
    have:(k+1)*cols<=rows*cols:=Nat.mul_le_mul_right _ (by omega)
    rw [Nat.add_mul,Nat.one_mul] at this
    omega
  subst hke
  exact ⟨h1,hl1,rfl,hK h1 hJ⟩
end
section
variable {α:Type} [E:Enc α]
theorem Qp{P:Program}{t e:TypeId}{z:Value}{bytes:Nat}(st:SliceT P t e z E.default.size bytes){h g o:Heap}{A:Option Addr}{c:Nat}{xs:List α}(s:Sep h g o)(w:OwnSl o e A c xs){v:Value}{y:α}(hv:v.cells=(enc y).toArray)(hsz:E.default.size<=1000)
 (hb:(2*(xs.length+1)+192)*bytes<=281474976710656) (hn:xs.length+1<=9223372036854775807) {K:Value->Heap->Prop}
 (x0:∀ B m d hp,h.le hp->(∀ {ty:TypeId} {K2:Value->Heap->Prop},(∀ A' c' h' g' o',g.le g'->Sep h' g' o'->OwnSl o' e A' c' (xs++[y])->(∀ k u,o k=some u->A≠some ⟨k,0,none⟩->o' k=some u/\A'≠some ⟨k,0,none⟩)->K2 (.slice A' (xs.length+1) c') h')->wpH P (Builtin.append_ #[t,t] ty #[.slice A xs.length c,.slice B m d]) K2 hp)->K (.slice B m d) hp):
 wpH P (Instr.buildSlice t 1 #[(0,v)]) K h:=by
 obtain ⟨gb,p,hkeep⟩:=w.priv s
 refine Ox st (vs:=[v]) (fun u hu=>by rw [List.mem_singleton.1 hu,hv];simp [E.default.len]) rfl (by simp;omega) rfl ?_
 intro b hfree
 have hfl:[v].flatMap (fun v=>v.cells.toList)=[y].flatMap enc:=by simp [hv]
 rw [hfl]
 refine x0 _ _ _ _ (Heap.le_put _ hfree) (fun {ty K2} x=>?_)
 have p':PrivF (h.put b (.cells ([y].flatMap enc).toArray e)) (gb.put b (.cells ([y].flatMap enc).toArray e)) e A c xs:=Priv.put p hfree _
 refine Lj st p' (ys:=[y]) rfl (A0f e h b [y]) hb hn ?_
 intro A' c' h' g' hg hp
 rw [List.length_append]
 have hgk:∀ k u,h k=some u->A≠some ⟨k,0,none⟩->g' k=some u:=by
  intro k u e1 hne
  have hkb:k≠b:=by rintro rfl;rw [hfree] at e1;cases e1
  exact hg k u (by rw [B5 _ _ hkb];exact hkeep k u e1 hne)
 have hnA:∀ k u,g k=some u->A≠some ⟨k,0,none⟩:=by
  intro k u e1 hA
  rcases w.2 with ⟨_,h0⟩|⟨b',arr,hA',hb',_⟩
  ·rw [hA] at h0;cases h0
  ·rw [hA] at hA'
   simp only [Option.some.injEq,Addr.mk.injEq,and_true] at hA'
   subst hA'
   rw [s.dis k _ hb'] at e1;cases e1
 rcases hp.2.2 with ⟨hc0,_⟩|⟨b',arr,hA',hb',hh',ha,ht⟩
 ·exfalso
  have:=hp.2.1
  rw [List.length_append] at this
  simp at this
  omega
 ·subst hA'
  let o':Heap:=fun k=>if k=b' then some (.cells (List.toArray arr) e) else if A=some ⟨k,0,none⟩ then none else o k
  have ob:o' b'=some (.cells (List.toArray arr) e):=by show (if b'=b' then _ else _)=_;rw [if_pos rfl]
  have ok:∀ k,k≠b'->A≠some ⟨k,0,none⟩->o' k=o k:=fun k h1 h2=>by show (if k=b' then _ else if _ then _ else _)=_;rw [if_neg h1,if_neg h2]
  have ono:∀ k,k≠b'->A=some ⟨k,0,none⟩->o' k=none:=fun k h1 h2=>by show (if k=b' then _ else if _ then _ else _)=_;rw [if_neg h1,if_pos h2]
  let g2:Heap:=fun k=>match o' k with|some _=>none|none=>h' k
  have gs:∀ k u,o' k=some u->g2 k=none:=fun k u e1=>by show (match o' k with|some _=>none|none=>h' k)=_;rw [e1]
  have gn:∀ k,o' k=none->g2 k=h' k:=fun k e1=>by show (match o' k with|some _=>none|none=>h' k)=_;rw [e1]
  have hput:∀ k u,k≠b'->g' k=some u->h' k=some u:=fun k u h1 e1=>by rw [hh',B5 _ _ h1];exact e1
  have hown:∀ k u,o k=some u->A≠some ⟨k,0,none⟩->k≠b':=by
   rintro k u e1 h2 rfl
   have:=hgk k u (s.own k u e1) h2
   rw [hb'] at this;cases this
  refine x _ c' h' g2 o' (fun k u e1=>?_) ⟨fun k u e1=>?_,fun k e1=>(gn k e1).symm,gs⟩ ⟨hp.2.1,.inr ⟨b',arr,rfl,ob,ha,ht⟩⟩ (fun k u e1 h2=>?_)
  ·have hk0:o k=none:=by
    cases ho:o k with
    | none=>rfl
    | some y=>rw [s.dis k y ho] at e1;cases e1
   have hA:=hnA k u e1
   have e3:=hgk k u (s.le k u e1) hA
   have hkb':k≠b':=by rintro rfl;rw [hb'] at e3;cases e3
   rw [gn k (by rw [ok k hkb' hA];exact hk0)]
   exact hput k u hkb' e3
  ·by_cases hkb:k=b'
   ·subst hkb
    rw [ob] at e1;cases e1
    rw [hh',B9]
   ·by_cases hA:A=some ⟨k,0,none⟩
    ·rw [ono k hkb hA] at e1;cases e1
    ·rw [ok k hkb hA] at e1
     exact hput k u hkb (hgk k u (s.own k u e1) hA)
  ·have hkb:=hown k u e1 h2
   refine ⟨by rw [ok k hkb h2];exact e1,fun h3=>hkb ?_⟩
   simp only [Option.some.injEq,Addr.mk.injEq,and_true] at h3
   exact h3.symm
end
theorem Oc{P:Program}{t:TypeId}(one:P.cellsOf t=1/\(P.info? t).isSome=true){v:Value}(hv:Zv v=true)(hc:v.cells=#[v]){h g o:Heap}(s:Sep h g o){b:Nat}{cs:Array Value}{e:TypeId}(hb:o b=some (.cells cs e)){i:Nat}(hi:i<cs.size){K:Unit->Heap->Prop}
 (x:∀ h' o',Sep h' g o'->o'=o.put b (.cells (cs.setIfInBounds i v) e)->K () h'):wpH P (Instr.storeAt t (.pointer (some (Addr.add ⟨b,0,none⟩ i))) v) K h:=by
 rw [D3,Nat.zero_add]
 have hput:h.put b (.cells cs e)=h:=Kj (s.own b _ hb)
 rw [<- hput]
 refine Bu one.1 one.2 hv hc hi ?_
 exact x _ _ (s.upd hb _) rfl
structure NT (o:Heap) (bp bt cols:Nat) (es:List IV) (ss:List QV) (A:Option Addr) (c:Nat) (A':Option Addr) (c':Nat):Prop where
 hp:∃ e,o bp=some (.cells #[.pointer (some ⟨bt,0,none⟩)] e)
 ht:∃ e,o bt=some (.cells #[I (cols:Int),.slice A es.length c,.slice A' ss.length c'] e)
 oe:OwnSl o Cn A c es
 os:OwnSl o E6 A' c' ss
 ne:bp≠bt
 a1:A≠some ⟨bp,0,none⟩/\A≠some ⟨bt,0,none⟩
 a2:A'≠some ⟨bp,0,none⟩/\A'≠some ⟨bt,0,none⟩
 a3:∀ b,A=some ⟨b,0,none⟩->A'≠some ⟨b,0,none⟩
section
variable {h g o:Heap} {bp bt cols:Nat} {es:List IV} {ss:List QV} {A A':Option Addr} {c c':Nat}
theorem NT.cp(n:NT o bp bt cols es ss A c A' c')(s:Sep h g o):h.cell? ⟨bp,0,none⟩=some (.pointer (some ⟨bt,0,none⟩)):=by
 obtain ⟨e,he⟩:=n.hp
 refine s.cell ?_
 unfold Heap.cell?;simp only [he];rfl
theorem NT.c1(n:NT o bp bt cols es ss A c A' c')(s:Sep h g o):h.cell? (Addr.add ⟨bt,0,none⟩ 1)=some (.slice A es.length c):=by
 obtain ⟨e,he⟩:=n.ht
 refine s.cell ?_
 rw [D3];unfold Heap.cell?;simp only [he];rfl
theorem NT.c2(n:NT o bp bt cols es ss A c A' c')(s:Sep h g o):h.cell? (Addr.add ⟨bt,0,none⟩ 2)=some (.slice A' ss.length c'):=by
 obtain ⟨e,he⟩:=n.ht
 refine s.cell ?_
 rw [D3];unfold Heap.cell?;simp only [he];rfl
theorem A83:Tryz.prog.cellsOf Lr=1/\(Tryz.prog.info? Lr).isSome=true:=by constructor<;>kernel_rfl
theorem A82:Tryz.prog.cellsOf S3=1/\(Tryz.prog.info? S3).isSome=true:=by constructor<;>kernel_rfl
theorem NT.buildE(n:NT o bp bt cols es ss A c A' c')(s:Sep h g o)(w:IV)(hl:es.length<=100000000){F:Heap->Prop}(hF:∀ h' g' o' A2 c2,g.le g'->Sep h' g' o'->NT o' bp bt cols (es++[w]) ss A2 c2 A' c'->F h'){K:Value->Heap->Prop}
 (x:∀ B m d hp,h.le hp->hp.cell? ⟨bp,0,none⟩=some (.pointer (some ⟨bt,0,none⟩))->(∀ {K2:Value->Heap->Prop},(∀ A2 c2 h2,h2.cell? ⟨bp,0,none⟩=some (.pointer (some ⟨bt,0,none⟩))->wpH Tryz.prog (Instr.storeAt Lr (.pointer (some (Addr.add ⟨bt,0,none⟩ 1))) (.slice A2 (es.length+1) c2)) (fun _ h3=>F h3) h2->K2 (.slice A2 (es.length+1) c2) h2)->wpH Tryz.prog (Builtin.append_ #[Lr,Lr] Lr #[.slice A es.length c,.slice B m d]) K2 hp)->K (.slice B m d) hp):
 wpH Tryz.prog (Instr.buildSlice Lr 1 #[(0,w.v)]) K h:=by
 refine Qp tZs s n.oe (y:=w) rfl (by decide) (by omega) (by omega) ?_
 intro B m d hp lp happ
 refine x B m d hp lp (C0 lp (n.cp s)) (fun {K2} hk=>happ ?_)
 intro A2 c2 h2 g2 o2 lg s2 ow keep
 obtain ⟨e1,he1⟩:=n.hp
 obtain ⟨e2,he2⟩:=n.ht
 have k1:=keep bp _ he1 n.a1.1
 have k2:=keep bt _ he2 n.a1.2
 refine hk A2 c2 h2 ?_ ?_
 ·refine s2.cell ?_
  unfold Heap.cell?;simp only [k1.1];rfl
 ·refine Oc A83 rfl rfl s2 k2.1 (by simp) ?_
  intro h3 o3 s3 eo
  have ko:∀ k,k≠bt->o3 k=o2 k:=fun k hk=>by rw [eo,B5 _ _ hk]
  refine hF h3 g2 o3 A2 c2 lg s3 ⟨⟨e1,by rw [ko _ n.ne];exact k1.1⟩,⟨e2,by rw [eo,B9];simp⟩,ow.keep fun b y hb he=>by rw [ko b (fun e=>k2.2 (by rw [<- e];exact hb))];exact he,?_,n.ne,⟨k1.2,k2.2⟩,n.a2,?_⟩
  ·refine (n.os.keep (o':=o2) fun b y hb he=>(keep b y he (fun e=>n.a3 b e hb)).1).keep fun b y hb he=>by rw [ko b (fun e=>n.a2.2 (by rw [<- e];exact hb))];exact he
  ·intro b hb hb'
   rcases n.os.2 with ⟨_,h0⟩|⟨b',arr,hA',hbo,_⟩
   ·rw [h0] at hb';cases hb'
   ·rw [hA'] at hb'
    simp only [Option.some.injEq,Addr.mk.injEq,and_true] at hb'
    subst hb'
    exact (keep b' _ hbo (fun e=>n.a3 b' e hA')).2 hb
theorem NT.buildS(n:NT o bp bt cols es ss A c A' c')(s:Sep h g o)(w:QV)(hl:ss.length<=100000000){F:Heap->Prop}(hF:∀ h' g' o' A2 c2,g.le g'->Sep h' g' o'->NT o' bp bt cols es (ss++[w]) A c A2 c2->F h'){K:Value->Heap->Prop}
 (x:∀ B m d hp,h.le hp->hp.cell? ⟨bp,0,none⟩=some (.pointer (some ⟨bt,0,none⟩))->(∀ {K2:Value->Heap->Prop},(∀ A2 c2 h2,h2.cell? ⟨bp,0,none⟩=some (.pointer (some ⟨bt,0,none⟩))->wpH Tryz.prog (Instr.storeAt S3 (.pointer (some (Addr.add ⟨bt,0,none⟩ 2))) (.slice A2 (ss.length+1) c2)) (fun _ h3=>F h3) h2->K2 (.slice A2 (ss.length+1) c2) h2)->wpH Tryz.prog (Builtin.append_ #[S3,S3] S3 #[.slice A' ss.length c',.slice B m d]) K2 hp)->K (.slice B m d) hp):
 wpH Tryz.prog (Instr.buildSlice S3 1 #[(0,w.v)]) K h:=by
 refine Qp Zf s n.os (y:=w) rfl (by decide) (by omega) (by omega) ?_
 intro B m d hp lp happ
 refine x B m d hp lp (C0 lp (n.cp s)) (fun {K2} hk=>happ ?_)
 intro A2 c2 h2 g2 o2 lg s2 ow keep
 obtain ⟨e1,he1⟩:=n.hp
 obtain ⟨e2,he2⟩:=n.ht
 have k1:=keep bp _ he1 n.a2.1
 have k2:=keep bt _ he2 n.a2.2
 refine hk A2 c2 h2 ?_ ?_
 ·refine s2.cell ?_
  unfold Heap.cell?;simp only [k1.1];rfl
 ·refine Oc A82 rfl rfl s2 k2.1 (by simp) ?_
  intro h3 o3 s3 eo
  have ko:∀ k,k≠bt->o3 k=o2 k:=fun k hk=>by rw [eo,B5 _ _ hk]
  refine hF h3 g2 o3 A2 c2 lg s3 ⟨⟨e1,by rw [ko _ n.ne];exact k1.1⟩,⟨e2,by rw [eo,B9];simp⟩,?_,ow.keep fun b y hb he=>by rw [ko b (fun e=>k2.2 (by rw [<- e];exact hb))];exact he,n.ne,n.a1,⟨k1.2,k2.2⟩,?_⟩
  ·refine (n.oe.keep (o':=o2) fun b y hb he=>(keep b y he (fun e=>n.a3 b hb e)).1).keep fun b y hb he=>by rw [ko b (fun e=>n.a1.2 (by rw [<- e];exact hb))];exact he
  ·intro b hb
   rcases n.oe.2 with ⟨_,h0⟩|⟨b',arr,hA,hbo,_⟩
   ·rw [h0] at hb;cases hb
   ·rw [hA] at hb
    simp only [Option.some.injEq,Addr.mk.injEq,and_true] at hb
    subst hb
    exact (keep b' _ hbo (fun e=>n.a3 b' hA e)).2
end
def Wg(E:Nat->Rat)(cols i:Nat):Nat->Rat:=fun j=>E (i*cols+j)
def A4k(E:Nat->Rat)(cols i j:Nat):Int:=scl (Wg E cols i j) (W8 (Wg E cols i) cols:Int)
def A7f(E:Nat->Rat)(cols i:Nat):Nat->Nat
 | 0=>0
 | j+1=>Int.gcd (A7f E cols i j:Int) (A4k E cols i j)
def Sk(E:Nat->Rat)(cols i:Nat):Nat:=if A7f E cols i cols=0 then 1 else A7f E cols i cols
def Wa(E:Nat->Rat)(cols i j:Nat):Int:=(A4k E cols i j).tdiv (Sk E cols i:Int)
def A28(E:Nat->Rat)(cols i:Nat):Rat:=Rat.divInt (W8 (Wg E cols i) cols:Int) (Sk E cols i:Int)
theorem A8m(E:Nat->Rat)(cols i:Nat):∀ n j,j<n->(A7f E cols i n:Int)∣A4k E cols i j:=by
 intro n
 induction n with
 | zero=>intro j h;omega
 | succ n ih=>
  intro j hj
  by_cases e:j=n
  ·subst e;exact Int.gcd_dvd_right _ _
  ·exact Int.dvd_trans (Int.gcd_dvd_left _ _) (ih j (by omega))
theorem Ob(E:Nat->Rat)(cols i:Nat):0<Sk E cols i:=by unfold Sk;split<;>omega
theorem A8x(E:Nat->Rat)(cols i:Nat){j:Nat}(hj:j<cols):(Sk E cols i:Int)∣A4k E cols i j:=by
 unfold Sk
 split
 ·exact Int.one_dvd _
 ·exact A8m E cols i cols j hj
theorem B16(E:Nat->Rat)(cols i:Nat){j:Nat}(hj:j<cols):(Wa E cols i j:Rat)=A28 E cols i*E (i*cols+j):=by
 have hc:=Ob E cols i
 have hc0:((Sk E cols i:Nat):Int)≠0:=by omega
 have h1:((Wa E cols i j:Int):Rat)*((Sk E cols i:Nat):Int)=E (i*cols+j)*((W8 (Wg E cols i) cols:Nat):Int):=by
  rw [<- Rat.intCast_mul]
  unfold Wa
  rw [Int.tdiv_mul_cancel (A8x E cols i hj)]
  exact A4g (by
   have:=Tz (Wg E cols i) cols j hj
   exact Int.natCast_dvd_natCast.2 this)
 have hne:=J6 hc0
 unfold A28
 rw [Rat.divInt_eq_div]
 have h2:(((W8 (Wg E cols i) cols:Nat):Int):Rat)/(((Sk E cols i:Nat):Int):Rat)*E (i*cols+j)=E (i*cols+j)*(((W8 (Wg E cols i) cols:Nat):Int):Rat)/(((Sk E cols i:Nat):Int):Rat):=by
  rw [Rat.div_def,Rat.div_def];grind
 rw [h2,<- h1]
 generalize (((Sk E cols i:Nat):Int):Rat)=d at *
 rw [Rat.div_def]
 grind
theorem A7w(E:Nat->Rat)(cols i:Nat):0<A28 E cols i:=by
 unfold A28
 rw [Rat.divInt_eq_div]
 have h1:(0:Rat)<((W8 (Wg E cols i) cols:Nat):Int):=by
  have:=Ty (Wg E cols i) cols
  exact_mod_cast this
 have h2:(0:Rat)<((Sk E cols i:Nat):Int):=by
  have:=Ob E cols i
  exact_mod_cast this
 rw [Rat.div_def]
 exact Rat.mul_pos h1 (Rat.inv_pos.2 h2)
theorem ZB.gcd2{k:Nat}{x y:Int}(hx:ZB k x)(hy:ZB k y):ZB k (Int.gcd x y:Int):=by
 by_cases h:y=0
 ·subst h
  rw [Int.gcd_zero_right]
  unfold ZB at *
  simpa using hx
 ·exact ZB.gcd h hy
section
variable {E:Nat->Rat} {cols i m:Nat}
theorem Tq(h:∀ j,j<cols->Sz m (E (i*cols+j))){j:Nat}(hj:j<cols):ZB (1+cols*m+m) (A4k E cols i j):=by
 have:=A4f (h j hj) (Hj (f:=Wg E cols i) cols h)
 exact this.mono (by omega)
theorem A59(h:∀ j,j<cols->Sz m (E (i*cols+j))):∀ j,j<=cols->ZB (1+cols*m+m) (A7f E cols i j:Int):=by
 intro j
 induction j with
 | zero=>intro _;exact ZB.zero
 | succ j ih=>intro hj;exact (ih (by omega)).gcd2 (Tq h (by omega))
theorem Ux(h:∀ j,j<cols->Sz m (E (i*cols+j))):ZB (1+cols*m+m) (Sk E cols i:Int):=by
 unfold Sk
 split
 ·exact ZB.one (by omega)
 ·exact A59 h cols (Nat.le_refl _)
theorem B15(h:∀ j,j<cols->Sz m (E (i*cols+j))){j:Nat}(hj:j<cols):ZB (1+cols*m+m) (Wa E cols i j):=(Tq h hj).tdiv
theorem A48(h:∀ j,j<cols->Sz m (E (i*cols+j))):Sz (1+cols*m+m) (A28 E cols i):=by
 have:=Ob E cols i
 exact S2 (by omega) ((Hj (f:=Wg E cols i) cols h).mono (by omega)) (Ux h)
end
structure EsOk (g:Heap) (E:Nat->Rat) (cols k:Nat) (es:List IV) (V:Nat->Int) (j:Nat):Prop where
 len:es.length=k*cols+j
 rows:∀ a b,a<k->b<cols->∃ w,es[a*cols+b]? = some w/\ZIr g w (Wa E cols a b)
 last:∀ b,b<j->∃ w,es[k*cols+b]? = some w/\ZIr g w (V b)
theorem EsOk.mono{g g':Heap}{E:Nat->Rat}{cols k j:Nat}{es:List IV}{V:Nat->Int}(e:EsOk g E cols k es V j)(l:g.le g'):EsOk g' E cols k es V j:=by
 refine ⟨e.len,fun a b h1 h2=>?_,fun b h1=>?_⟩
 ·obtain ⟨w,e1,hw⟩:=e.rows a b h1 h2;exact ⟨w,e1,Dz _ _ _ _ l hw⟩
 ·obtain ⟨w,e1,hw⟩:=e.last b h1;exact ⟨w,e1,Dz _ _ _ _ l hw⟩
theorem EsOk.push{g:Heap}{E:Nat->Rat}{cols k j:Nat}{es:List IV}{V:Nat->Int}(e:EsOk g E cols k es V j){w:IV}(hw:ZIr g w (V j)):EsOk g E cols k (es++[w]) V (j+1):=by
 have hl:=e.len
 refine ⟨by rw [List.length_append,e.len];rfl,fun a b h1 h2=>?_,fun b h1=>?_⟩
 ·obtain ⟨u,e1,hu⟩:=e.rows a b h1 h2
  have hlt:=K9 h1 h2
  exact ⟨u,by rw [List.getElem?_append_left (by omega)];exact e1,hu⟩
 ·by_cases eb:b=j
  ·subst eb
   exact ⟨w,by rw [List.getElem?_append_right (by omega),hl];simp,hw⟩
  ·obtain ⟨u,e1,hu⟩:=e.last b (by omega)
   exact ⟨u,by rw [List.getElem?_append_left (by omega)];exact e1,hu⟩
theorem EsOk.set{g:Heap}{E:Nat->Rat}{cols k:Nat}{es:List IV}{V:Nat->Int}(e:EsOk g E cols k es V cols){b:Nat}(hb:b<cols){w:IV}{z:Int}(hw:ZIr g w z):EsOk g E cols k (es.set (k*cols+b) w) (fun x=>if x=b then z else V x) cols:=by
 have hl:=e.len
 refine ⟨by simpa using hl,fun a b' h1 h2=>?_,fun b' h1=>?_⟩
 ·obtain ⟨u,e1,hu⟩:=e.rows a b' h1 h2
  have hlt:=K9 h1 h2
  exact ⟨u,by rw [List.getElem?_set_ne (by omega)];exact e1,hu⟩
 ·by_cases eb:b'=b
  ·subst eb
   exact ⟨w,by rw [List.getElem?_set_self (by omega)],by show ZIr g w (if b'=b' then z else V b');rw [if_pos rfl];exact hw⟩
  ·obtain ⟨u,e1,hu⟩:=e.last b' h1
   exact ⟨u,by rw [List.getElem?_set_ne (by omega)];exact e1,by show ZIr g u (if b'=b then z else V b');rw [if_neg eb];exact hu⟩
theorem EsOk.congr{g:Heap}{E:Nat->Rat}{cols k j:Nat}{es:List IV}{V V':Nat->Int}(e:EsOk g E cols k es V j)(h:∀ b,b<j->V b=V' b):EsOk g E cols k es V' j:=
 ⟨e.len,e.rows,fun b hb=>by rw [<- h b hb];exact e.last b hb⟩
theorem EsOk.next{g:Heap}{E:Nat->Rat}{cols k:Nat}{es:List IV}{V:Nat->Int}(e:EsOk g E cols k es V cols)(h:∀ b,b<cols->V b=Wa E cols k b)(V':Nat->Int):EsOk g E cols (k+1) es V' 0:=by
 refine ⟨by rw [e.len,Nat.add_mul,Nat.one_mul];rfl,fun a b h1 h2=>?_,fun b h1=>by omega⟩
 by_cases ea:a=k
 ·subst ea;rw [<- h b h2];exact e.last b h2
 ·exact e.rows a b (by omega) h2
section
variable {h g:Heap} {K:Value->Heap->Prop} {A:Option Addr} {n c rows cols m:Nat} {E:Nat->Rat}
theorem Jd(gl:Gl h)(r:RowV RQr h A (rows*cols) E)(hcap:rows*cols<=c)(hr:1<=rows)(hr2:rows<=10000)(hc:1<=cols)(hc2:cols<=10000)(hs:∀ i,i<rows*cols->Sz m (E i))(hm:1+cols*m+m<=6400000000)
 (hK:∀ h' g' o' T,h.le g'->Tab h' g' o' T (Wa E cols) (A28 E cols)->T.rows=rows->T.cols=cols->K (.pointer (some ⟨T.bt,0,none⟩)) h'):FCall Tryz.prog Q4 #[.slice A (rows*cols) c,I (cols:Int)] h K:=by
 refine Yd _ _ _ _ ?_
 unfold Ye
 have hrc:rows*cols<=100000000:=by
  have:rows*cols<=10000*10000:=Nat.mul_le_mul hr2 hc2
  omega
 refine A0d ?_
 intro bt hbt
 refine ⟨_,rfl,Dk (z:=.pointer none) (by kernel_rfl) ?_⟩
 intro bp hbp
 have hne:bp≠bt:=by rintro rfl;rw [B9] at hbp;cases hbp
 refine ⟨_,rfl,?_⟩
 refine Bu (by kernel_rfl) (by kernel_rfl) rfl rfl (by decide) ?_
 have s0:=((Sep.refl h).new hbt (.cells (Value.cells (.agg #[I (cols:Int),.slice none 0 0,.slice none 0 0])) Of)).new hbp (.cells ((Value.cells (.pointer none)).setIfInBounds 0 (.pointer (some ⟨bt,0,none⟩))) Kn)
 have n0:NT ((Jc.put bt (.cells (Value.cells (.agg #[I (cols:Int),.slice none 0 0,.slice none 0 0])) Of)).put bp (.cells ((Value.cells (.pointer none)).setIfInBounds 0 (.pointer (some ⟨bt,0,none⟩))) Kn)) bp bt cols [] [] none 0 none 0:=
  ⟨⟨_,B9 _ _ _⟩,⟨_,by rw [B5 _ _ hne.symm,B9];rfl⟩,OwnSl.nil,OwnSl.nil,hne,⟨by simp,by simp⟩,⟨by simp,by simp⟩,fun b hb=>by cases hb⟩
 generalize (Jc.put bt (.cells (Value.cells (.agg #[I (cols:Int),.slice none 0 0,.slice none 0 0])) Of)).put bp (.cells ((Value.cells (.pointer none)).setIfInBounds 0 (.pointer (some ⟨bt,0,none⟩))) Kn)=o0 at s0 n0
 refine s0.call (Sm hc ?_)
 intro v g0 l0 ic hp3 s3
 have bound:∀ k,k<rows->∀ j,j<cols->Sz m (E (k*cols+j)):=fun k hk j hj=>hs _ (K9 hk hj)
 refine ⟨_,rfl,Om ic hc (by omega) hcap (fun k hp=>∃ (g1 o1:Heap) (es:List IV) (ss:List QV) (A1:Option Addr) (c1:Nat) (A2:Option Addr) (c2:Nat),g0.le g1/\Sep hp g1 o1/\NT o1 bp bt cols es ss A1 c1 A2 c2/\EsOk g1 E cols k es (fun _=>0) 0/\ss.length=k/\Row RQr g1 ss k (A28 E cols)) ?_ ?_ ?_ ?_⟩
 ·exact ⟨g0,o0,[],[],none,0,none,0,B3 _,s3,n0,⟨by simp,fun a b h1=>by omega,fun b h1=>by omega⟩,rfl,Row.nil⟩
 ·rintro k hp ⟨g1,o1,es,ss,A1,c1,A2,c2,lg,s1,_⟩
  exact A0 lg s1.le
 ·rintro k hp4 hkr ⟨g1,o1,es,ss,A1,c1,A2,c2,lg1,s4,n1,e1,hss,rs⟩
  have bk:=bound k hkr
  have hkc:(k+1)*cols<=rows*cols:=Nat.mul_le_mul_right _ hkr
  have hk1:(k+1)*cols=k*cols+cols:=by rw [Nat.add_mul,Nat.one_mul]
  have hkc2:k<=k*cols:=Nat.le_mul_of_pos_right k hc
  have lh1:=A0 l0 lg1
  have row0:RowV RQr h A ((k+1)*cols) E:=by
   have:=r.cut (c:=c) (l:=0) (k:=(k+1)*cols) (by omega) hcap
   rw [J2] at this
   exact this.congr fun i _=>by rw [Nat.zero_add]
  have row1:RowV RQr h (J4 A ((k+1)*cols) (k*cols) 4) cols (Wg E cols k):=row0.cut (c:=(k+1)*cols) (l:=k*cols) (k:=cols) (by omega) (Nat.le_refl _)
  refine ⟨_,_,_,rfl,s4.call (Bj (gl.mono lh1) (row1.mono K3 lh1) (by omega) bk hm ?_)⟩
  intro sd Ad nd cd g2 l2 id hp5 s5
  have cE:=n1.c1 s5
  rw [e1.len,Nat.add_zero] at cE
  have d2:=Hj (f:=Wg E cols k) cols bk
  have hmk:1+cols*m<=1+cols*m+m:=by omega
  refine ⟨_,_,_,_,rfl,_,n1.cp s5,_,rfl,_,_,_,cE,fun L hp=>∃ (j:Nat) (s:Bool) (B:Option Addr) (bn bc:Nat) (g3 o3:Heap) (es:List IV) (A1:Option Addr) (c1:Nat),j<=cols/\L=[I (j:Int),.bool s,.slice B bn bc]/\g2.le g3/\Sep hp g3 o3/\NT o3 bp bt cols es ss A1 c1 A2 c2/\EsOk g3 E cols k es (A4k E cols k) j/\ZI g3 s B bn bc (A7f E cols k j:Int),
   fun L _=>cols-(iAt L 0).toNat,⟨0,false,none,0,0,g2,o1,es,A1,c1,by omega,rfl,B3 _,s5,n1,(e1.mono l2).congr (fun b hb=>by omega),ZI.zero⟩,?_⟩
  rintro z bs bA bn bc hp6 ⟨j,sB,B,bn',bc',g3,o3,es3,A3,c3,hj,eL,l3,s6,n3,e3,i3⟩
  simp only [List.cons.injEq,Value.int.injEq,Value.bool.injEq,Value.slice.injEq,true_and,and_true] at eL
  obtain ⟨rfl,rfl,rfl,rfl,rfl⟩:=eL
  have ewj:B4 ((j:Int)+1)=((j+1:Nat):Int):=by rw [B6]<;>omega
  have lh3:=A0 lh1 (A0 l2 l3)
  refine B7 (fun hlt=>?_) (fun hge=>?_)
  ·have hjc:j<cols:=by omega
   obtain ⟨a,w,ea,iw,q0,q1,q2,q3⟩:=row1.qat hjc
   have lh6:=A0 lh3 s6.le
   refine ⟨a,ea,by omega,by omega,_,_,_,_,_,_,_,_,C0 lh6 q0,C0 lh6 q1,C0 lh6 q2,C0 lh6 q3,?_⟩
   refine s6.call (He (m:=1+cols*m+m) (K3 _ _ _ _ lh3 iw) (id.mono l3) ((bk j hjc).mono (by omega)) (d2.mono hmk) hm ?_)
   intro s7 A7 n7 c7 g7 l7 i7 hp7 sp7
   refine ⟨_,_,_,_,rfl,sp7.call (Ea (gl.mono (A0 lh3 l7)).tz (i3.mono l7) i7 (A59 bk j hj) (Tq bk hjc) hm ?_)⟩
   intro A8 n8 c8 g8 l8 i8 hp8 sp8
   have z7:ZIr g8 ⟨s7,A7,n7,c7⟩ (A4k E cols k j):=i7.mono l8
   have hF:∀ h' g' o' A2' c2',g8.le g'->Sep h' g' o'->NT o' bp bt cols (es3++[⟨s7,A7,n7,c7⟩]) ss A2' c2' A2 c2->(∃ (j':Nat) (s:Bool) (B:Option Addr) (bn bc:Nat) (g3 o3:Heap) (es:List IV) (A1:Option Addr) (c1:Nat),j'<=cols/\[I (B4 ((j:Int)+1)),.bool false,.slice A8 n8 c8]=[I (j':Int),.bool s,.slice B bn bc]/\g2.le g3/\Sep h' g3 o3/\NT o3 bp bt cols es ss A1 c1 A2 c2/\EsOk g3 E cols k es (A4k E cols k) j'/\ZI g3 s B bn bc (A7f E cols k j':Int))/\cols-(iAt [I (B4 ((j:Int)+1)),.bool false,.slice A8 n8 c8] 0).toNat<cols-(iAt [I (j:Int),.bool bs,.slice bA bn bc] 0).toNat:=by
    intro h' g' o' A2' c2' lg' s' n'
    rw [ewj]
    refine ⟨⟨j+1,false,A8,n8,c8,g',o',_,A2',c2',by omega,rfl,A0 l3 (A0 l7 (A0 l8 lg')),s',n',((e3.mono (A0 l7 l8)).push z7).mono lg',i8.mono lg'⟩,by simp only [Hl];omega⟩
   have hel:es3.length<=100000000:=by have:=e3.len;omega
   refine ⟨_,_,_,_,rfl,_,n3.cp sp8,_,rfl,_,_,_,n3.c1 sp8,⟨_,n3.cp sp8,?_⟩,?_⟩
   ·exact n3.buildE sp8 ⟨s7,A7,n7,c7⟩ hel hF fun B m d hp lp cp happ=>⟨_,_,_,rfl,lp,happ fun A2 c2 h2 _ hst=>⟨_,_,_,rfl,_,rfl,hst⟩⟩
   ·exact n3.buildE sp8 ⟨s7,A7,n7,c7⟩ hel hF fun B m d hp lp cp happ=>⟨_,_,_,rfl,lp,⟨_,cp,happ fun A2 c2 h2 _ hst=>⟨_,_,_,rfl,_,rfl,hst⟩⟩,happ fun A2 c2 h2 cp2 hst=>⟨_,_,_,rfl,_,cp2,_,rfl,hst⟩⟩
  ·have hjc:j=cols:=by omega
   subst hjc
   have hg:((A7f E j k j:Nat):Int)=0↔A7f E j k j=0:=by omega
   refine ⟨fun L hp=>∃ (s:Bool) (B:Option Addr) (bn bc:Nat) (g4:Heap),L=[.bool s,.slice B bn bc]/\g3.le g4/\Sep hp g4 o3/\ZI g4 s B bn bc (Sk E j k:Int),?_,?_⟩
   ·refine s6.call (F6 i3 ?_)
    intro hp7 s7
    refine ⟨_,rfl,B7 (fun e=>?_) (fun e=>?_)⟩
    ·refine s7.call (Bn (by omega) (by omega) ?_)
     intro s8 A8 n8 c8 g8 l8 i8 hp8 sp8
     refine ⟨_,_,_,_,rfl,_,_,_,_,g8,rfl,l8,sp8,?_⟩
     have:Sk E j k=1:=by unfold Sk;rw [if_pos (hg.1 e)]
     rw [this];exact i8
    ·refine ⟨_,_,_,_,g3,rfl,B3 _,s7,?_⟩
     have:Sk E j k=A7f E j k j:=by unfold Sk;rw [if_neg (fun x=>e (hg.2 x))]
     rw [this];exact i3
   ·rintro cs cA cn cc hp7 ⟨cs',cA',cn',cc',g4,eL,l4,s7,ic⟩
    obtain ⟨rfl,rfl,rfl,rfl⟩:cs=cs'/\cA=cA'/\cn=cn'/\cc=cc':=by simpa using eL
    have e4:=e3.mono l4
    have cE4:=n3.c1 s7
    rw [e4.len] at cE4
    have hne4:es3≠[]:=by rintro rfl;have:=e4.len;simp at this;omega
    obtain ⟨bE,hbE,rB⟩:=n3.oe.rowB hne4
    subst hbE
    have hc3:k*j+j<=c3:=by have:=n3.oe.1;rw [e4.len] at this;exact this
    have ekn:(((k*j:Nat):Int)).toNat=k*j:=rfl
    have ecut:J4 (some ⟨bE,0,none⟩) c3 ((((k*j:Nat):Int)).toNat) 2=some ⟨bE,k*j*2,none⟩:=by rw [ekn,Ju (by omega),D3,Nat.zero_add]
    have esub:k*j+j-(((k*j:Nat):Int)).toNat=j:=by rw [ekn];omega
    refine ⟨_,n3.cp s7,_,rfl,_,_,_,cE4,⟨by omega,by omega⟩,?_⟩
    rw [ecut,esub]
    refine ⟨fun L hp=>∃ (jj:Nat) (g o:Heap) (es:List IV),jj<=j/\L=[I (jj:Int)]/\g4.le g/\Sep hp g o/\NT o bp bt j es ss (some ⟨bE,0,none⟩) c3 A2 c2/\EsOk g E j k es (fun b=>if b<jj then Wa E j k b else A4k E j k b) j,fun L _=>j-(iAt L 0).toNat,⟨0,g4,o3,es3,by omega,rfl,B3 _,s7,n3,e4.congr fun b hb=>by rw [if_neg (by omega)]⟩,?_⟩
    rintro z hp8 ⟨jj,g5,o5,es5,hjj,eL,l5,s8,n5,e5⟩
    obtain rfl:z=(jj:Int):=by simpa using eL
    have ewj2:B4 ((jj:Int)+1)=((jj+1:Nat):Int):=by rw [B6]<;>omega
    have ewk:B4 (((k*j:Nat):Int)+(jj:Int))=((k*j+jj:Nat):Int):=by rw [B6]<;>omega
    have cE5:=n5.c1 s8
    rw [e5.len] at cE5
    have hcom0:=Ob E j k
    refine B7 (fun hlt=>?_) (fun hge=>?_)
    ·have hjc:jj<j:=by omega
     obtain ⟨w,ew,iw⟩:=e5.last jj hjc
     rw [if_neg (Nat.lt_irrefl jj)] at iw
     obtain ⟨bE',hbE',rB5⟩:=n5.oe.rowB (by rintro rfl;have:=e5.len;simp at this;omega)
     simp only [Option.some.injEq,Addr.mk.injEq,and_true] at hbE'
     subst hbE'
     have hlt5:k*j+jj<es5.length:=by have:=e5.len;omega
     have hew:es5[k*j+jj]=w:=by
      rw [List.getElem?_eq_getElem hlt5] at ew
      cases ew;rfl
     have ha:k*j*2+jj*2=(k*j+jj)*2:=by rw [Nat.add_mul]
     have cell:∀ x v,(enc w)[x]? = some v->hp8.cell? (Addr.add (Addr.add ⟨bE,k*j*2,none⟩ (((jj:Int)).toNat*2)) x)=some v:=by
      intro x v hx
      refine s8.cell ?_
      rw [D3,D3]
      show o5.cell? ⟨bE,k*j*2+jj*2+x,none⟩=_
      rw [ha]
      exact rB5.cell hlt5 (by rw [hew];exact hx)
     refine ⟨_,rfl,by omega,by omega,_,_,_,_,cell 0 _ rfl,cell 1 _ rfl,_,n5.cp s8,_,rfl,_,_,_,cE5,?_⟩
     refine s8.call (Z9 iw (ic.mono l5) (Tq bk hjc) (Ux bk) hm (by omega) ?_)
     intro s9 A9 n9 c9 g9 l9 i9 hp9 sp9
     refine ⟨_,_,_,_,rfl,s8.le_le sp9 l9,_,rfl,by omega,by omega,?_⟩
     rw [ewk]
     refine OwnSl.store Ti (y:=(⟨s9,A9,n9,c9⟩:IV)) rfl sp9 n5.oe hlt5 rfl ?_
     intro hp10 o10 s10 ow10 ko
     obtain ⟨x1,hx1⟩:=n5.hp
     obtain ⟨x2,hx2⟩:=n5.ht
     have b1:bp≠bE:=fun e=>n5.a1.1 (by rw [e])
     have b2:bt≠bE:=fun e=>n5.a1.2 (by rw [e])
     rw [ewj2]
     refine ⟨⟨jj+1,g9,o10,es5.set (k*j+jj) ⟨s9,A9,n9,c9⟩,by omega,rfl,A0 l5 l9,s10,⟨⟨x1,by rw [ko _ b1];exact hx1⟩,⟨x2,by rw [ko _ b2,List.length_set];exact hx2⟩,ow10,n5.os.keep fun b x hb hx=>by rw [ko b (fun e=>n5.a3 bE rfl (by rw [<- e];exact hb))];exact hx,n5.ne,n5.a1,n5.a2,n5.a3⟩,((e5.mono l9).set hjc (show ZIr g9 ⟨s9,A9,n9,c9⟩ (Wa E j k jj) from i9)).congr fun b hb=>?_⟩,by simp only [Hl];omega⟩
     show (if b=jj then Wa E j k jj else if b<jj then Wa E j k b else A4k E j k b)=if b<jj+1 then Wa E j k b else A4k E j k b
     by_cases eb:b=jj
     ·subst eb;rw [if_pos rfl,if_pos (by omega)]
     ·rw [if_neg eb]
      by_cases h7:b<jj
      ·rw [if_pos h7,if_pos (by omega)]
      ·rw [if_neg h7,if_neg (by omega)]
    ·have hje:jj=j:=by omega
     subst hje
     have eN:EsOk g5 E jj (k+1) es5 (fun _=>0) 0:=e5.next (fun b hb=>by rw [if_pos hb]) _
     have sS:=A48 (E:=E) (cols:=jj) (i:=k) bk
     have fr:∀ (gg:Heap) (w:QV),g5.le gg->RQ gg w (Rat.divInt (W8 (Wg E jj k) jj:Int) (Sk E jj k:Int))->∀ h' g' o' A2' c2',gg.le g'->Sep h' g' o'->NT o' bp bt jj es5 (ss++[w]) (some ⟨bE,0,none⟩) c3 A2' c2'->∃ (g1 o1:Heap) (es:List IV) (ss:List QV) (A1:Option Addr) (c1:Nat) (A2:Option Addr) (c2:Nat),g0.le g1/\Sep h' g1 o1/\NT o1 bp bt jj es ss A1 c1 A2 c2/\EsOk g1 E jj (k+1) es (fun _=>0) 0/\ss.length=k+1/\Row RQr g1 ss (k+1) (A28 E jj):=by
      intro gg w lgg iw h' g' o' A2' c2' lg' s' n'
      have lall:g1.le g':=A0 l2 (A0 l3 (A0 l4 (A0 l5 (A0 lgg lg'))))
      refine ⟨g',o',es5,ss++[w],_,c3,A2',c2',A0 lg1 lall,s',n',eN.mono (A0 lgg lg'),by simp [hss],?_⟩
      have rs':Row RQr g' ss ss.length (A28 E jj):=by rw [hss];exact rs.mono K3 lall
      have:=rs'.push (w:=w) (by rw [hss];exact K3 _ _ _ _ lg' iw)
      rw [List.length_append,hss] at this
      exact this
     have glf:=(gl.mono (A0 lh3 (A0 l4 l5))).tz
     have idf:=(id.mono (A0 l3 (A0 l4 l5)))
     have hsl:ss.length<=100000000:=by omega
     refine ⟨_,n5.cp s8,_,rfl,_,_,_,n5.c2 s8,⟨_,n5.cp s8,?_⟩,?_⟩
     ·refine s8.call (L6 glf idf (ic.mono l5) (d2.mono hmk) (Ux bk) hm ?_)
      intro w gf lf iw hp9 s9
      refine ⟨_,_,_,_,_,_,_,_,rfl,s8.le_le s9 lf,?_⟩
      exact n5.buildS s9 w hsl (fr gf w lf iw) fun B m d hp lp cp happ=>⟨_,_,_,rfl,lp,happ fun A2 c2 h2 _ hst=>⟨_,_,_,rfl,_,rfl,hst⟩⟩
     ·refine s8.call (L6 glf idf (ic.mono l5) (d2.mono hmk) (Ux bk) hm ?_)
      intro w gf lf iw hp9 s9
      refine ⟨_,_,_,_,_,_,_,_,rfl,s8.le_le s9 lf,⟨_,n5.cp s9,?_⟩,?_⟩
      ·exact n5.buildS s9 w hsl (fr gf w lf iw) fun B m d hp lp cp happ=>⟨_,_,_,rfl,lp,happ fun A2 c2 h2 _ hst=>⟨_,_,_,rfl,_,rfl,hst⟩⟩
      ·exact n5.buildS s9 w hsl (fr gf w lf iw) fun B m d hp lp cp happ=>⟨_,_,_,rfl,lp,⟨_,cp,happ fun A2 c2 h2 _ hst=>⟨_,_,_,rfl,_,rfl,hst⟩⟩,happ fun A2 c2 h2 cp2 hst=>⟨_,_,_,rfl,_,cp2,_,rfl,hst⟩⟩
 ·rintro hp ⟨g1,o1,es,ss,A1,c1,A2,c2,lg,s1,n1,e1,hss,rs⟩
  refine ⟨_,n1.cp s1,?_⟩
  have hel:es.length=rows*cols:=by rw [e1.len];rfl
  have hpos:0<rows*cols:=Nat.mul_pos (by omega) (by omega)
  obtain ⟨bE,hbE,rE⟩:=n1.oe.rowB (by rintro rfl;simp at hel;omega)
  obtain ⟨bS,hbS,rS⟩:=n1.os.rowB (by rintro rfl;simp at hss;omega)
  subst hbE hbS
  obtain ⟨x2,hx2⟩:=n1.ht
  refine hK hp g1 o1 ⟨bt,bE,bS,rows,cols,c1,c2⟩ (A0 l0 lg) ⟨s1,fun (e:bt=bE)=>n1.a1.2 (by rw [<- e]),fun (e:bt=bS)=>n1.a2.2 (by rw [<- e]),fun (e:bE=bS)=>n1.a3 bE rfl (by rw [e]),⟨x2,by rw [hx2,hel,hss]⟩,⟨es,rE,hel,fun i j hi hj=>e1.rows i j hi hj⟩,⟨ss,rS,hss,rs⟩,by rw [<- hel];exact n1.oe.1,by rw [<- hss];exact n1.os.1,⟨hr2,hc2⟩,hc⟩ rfl rfl
end
def B4q(c:Array Value):Prop:=∀ (i:Nat) (n:Int),c[i]? ≠ some (Value.int .u64 n)
theorem SlI.without{h:Heap}{A:Option Addr}{xs:List Int}{b:Nat}{c:Array Value}{e:TypeId}(hb:h b=some (.cells c e))(hc:B4q c)(s:SlI .u64 h A xs):SlI .u64 (h.without b) A xs:=by
 rcases s with s|⟨a,ha,hcell⟩
 ·exact .inl s
 ·by_cases hx:xs=[]
  ·subst hx;exact SlI.nil
  ·right
   refine ⟨a,ha,fun i v hv=>?_⟩
   have h1:=hcell i v hv
   have hne:a.block≠b:=by
    rintro rfl
    obtain ⟨x,hx⟩:∃ x,v= .int .u64 x:=by
     rw [List.getElem?_map] at hv
     cases hy:xs[i]? with
     | none=>rw [hy] at hv;cases hv
     | some y=>rw [hy] at hv;exact ⟨y,(Option.some.inj hv).symm⟩
    subst hx
    unfold Heap.cell? at h1
    rw [Xn,hb] at h1
    simp only at h1
    split at h1
    ·cases h1
    ·exact hc _ _ h1
   unfold Heap.cell? at h1 ⊢
   rw [Xn] at h1 ⊢
   unfold Heap.without
   rw [if_neg hne];exact h1
theorem ZI.without{h:Heap}{s:Bool}{A:Option Addr}{n c:Nat}{z:Int}{b:Nat}{cs:Array Value}{e:TypeId}(hb:h b=some (.cells cs e))(hc:B4q cs)(i:ZI h s A n c z):ZI (h.without b) s A n c z:=by
 obtain ⟨i1,⟨xs,s1,s2,s3⟩,i3⟩:=i
 exact ⟨i1,⟨xs,s1,SlI.without hb hc s2,s3⟩,i3⟩
theorem RQ.without{h:Heap}{w:QV}{q:Rat}{b:Nat}{cs:Array Value}{e:TypeId}(hb:h b=some (.cells cs e))(hc:B4q cs)(i:RQ h w q):RQ (h.without b) w q:=⟨ZI.without hb hc i.num,ZI.without hb hc i.den⟩
theorem Wm(xs:List QV):B4q (xs.flatMap enc).toArray:=by
 intro i n h
 have h':(xs.flatMap enc)[i]? = some (.int .u64 n):=by simpa using h
 have hm:=List.mem_of_getElem? h'
 obtain ⟨x,_,hx⟩:=List.mem_flatMap.1 hm
 have hx':(.int .u64 n:Value)∈[.bool x.s,.slice x.A x.n x.c,.bool x.s2,.slice x.A2 x.n2 x.c2]:=hx
 simp at hx'
theorem Sep.grab{h g o:Heap}(s:Sep h g o){b:Nat}{x:Obj}(hb:g b=some x):Sep h (g.without b) (o.put b x):=by
 have hob:o b=none:=by
  cases ho:o b with
  | none=>rfl
  | some y=>rw [s.dis b y ho] at hb;cases hb
 refine ⟨fun k y e=>?_,fun k e=>?_,fun k y e=>?_⟩
 ·by_cases hk:k=b
  ·subst hk
   rw [B9] at e;cases e
   exact s.le k _ hb
  ·rw [B5 _ _ hk] at e;exact s.own k y e
 ·by_cases hk:k=b
  ·subst hk;rw [B9] at e;cases e
  ·rw [B5 _ _ hk] at e
   unfold Heap.without
   rw [if_neg hk];exact s.rest k e
 ·by_cases hk:k=b
  ·subst hk;exact T3 _ _
  ·rw [B5 _ _ hk] at e
   unfold Heap.without
   rw [if_neg hk];exact s.dis k y e
theorem Qu{h g:Heap}{b:Nat}(l:h.le g)(hb:h b=none):h.le (g.without b):=fun k x e=>by
 have hk:k≠b:=by rintro rfl;rw [hb] at e;cases e
 unfold Heap.without
 rw [if_neg hk];exact l k x e
theorem Tab.grab{h g o:Heap}{T:Tb}{M:Nat->Nat->Int}{S:Nat->Rat}(t:Tab h g o T M S){b:Nat}{cs:Array Value}{e:TypeId}(hb:g b=some (.cells cs e))(hc:B4q cs):Tab h (g.without b) (o.put b (.cells cs e)) T M S:=by
 have hob:∀ k x,o k=some x->k≠b:=by rintro k x e rfl;rw [t.sep.dis k x e] at hb;cases hb
 refine ⟨t.sep.grab hb,t.n1,t.n2,t.n3,?_,?_,?_,t.cE,t.cS,t.small,t.pos⟩
 ·obtain ⟨e,he⟩:=t.head
  exact ⟨e,by rw [B5 _ _ (hob _ _ he)];exact he⟩
 ·obtain ⟨ws,⟨e1,ex,h1⟩,hl,hw⟩:=t.elems
  refine ⟨ws,⟨e1,ex,by rw [B5 _ _ (hob _ _ h1)];exact h1⟩,hl,fun i j hi hj=>?_⟩
  obtain ⟨w,e,hz⟩:=hw i j hi hj
  exact ⟨w,e,ZI.without hb hc hz⟩
 ·obtain ⟨ss,⟨e1,ex,h1⟩,hl,hw⟩:=t.scales
  refine ⟨ss,⟨e1,ex,by rw [B5 _ _ (hob _ _ h1)];exact h1⟩,hl,fun i hi=>?_⟩
  obtain ⟨w,e,hz⟩:=hw i hi
  exact ⟨w,e,RQ.without hb hc hz⟩
structure MOk (r c:Int) (n:Nat) (ls:Nat->List UInt8) (rows cols:Nat):Prop where
 er:r=rows
 ec:c=cols
 r1:1<=rows
 r2:rows<=64
 c1:1<=cols
 c2:cols<=64
 len:n=rows*cols
 num:∀ i,i<n->IsNum (ls i)
def A6r(r c:Int)(n:Nat):Prop:=1<=r/\r<=64/\1<=c/\c<=64/\(n:Int)=r*c
theorem MOk.of{r c:Int}{n:Nat}{ls:Nat->List UInt8}(s:A6r r c n)(h:∀ i,i<n->IsNum (ls i)):MOk r c n ls r.toNat c.toNat:=by
 obtain ⟨h1,h2,h3,h4,h5⟩:=s
 refine ⟨by omega,by omega,by omega,by omega,by omega,by omega,?_,h⟩
 have e1:(r.toNat:Int)=r:=by omega
 have e2:(c.toNat:Int)=c:=by omega
 have:((r.toNat*c.toNat:Nat):Int)=r*c:=by rw [Int.natCast_mul,e1,e2]
 omega
theorem MOk.shape{r c:Int}{n:Nat}{ls:Nat->List UInt8}{rows cols:Nat}(m:MOk r c n ls rows cols):A6r r c n:=by
 obtain ⟨rfl,rfl,h1,h2,h3,h4,h5,_⟩:=m
 exact ⟨by omega,by omega,by omega,by omega,by rw [h5,Int.natCast_mul]⟩
abbrev No(r c:Int)(A:Option Addr)(n cap:Nat):Value:=.agg #[I r,I c,.slice A n cap]
def Mx(r c:Int)(n:Nat)(ls:Nat->List UInt8):Prop:=∃ rows cols,MOk r c n ls rows cols
theorem Qq{r c:Int}{n:Nat}{ls:Nat->List UInt8}:Mx r c n ls↔A6r r c n/\∀ i,i<n->IsNum (ls i):=by
 constructor
 ·rintro ⟨rows,cols,m⟩;exact ⟨m.shape,m.num⟩
 ·rintro ⟨s,h⟩;exact ⟨_,_,MOk.of s h⟩
section
variable {h:Heap} {K:Value->Heap->Prop} {A:Option Addr} {n cap m:Nat} {r c:Int} {ls:Nat->List UInt8}
theorem Jk(hn:n<=1000000000)(hK1:A6r r c n->K (.bool true) h)(hK0:¬ A6r r c n->K (.bool false) h):FCall Tryz.prog Dd #[No r c A n cap] h K:=by
 refine Yh _ _ _ _ _ ?_
 unfold Yi
 refine B7 (fun h1=>B7 (fun h2=>B7 (fun h3=>B7 (fun h4=>?_) (fun e=>hK0 fun s=>e s.2.2.2.1)) (fun e=>hK0 fun s=>e s.2.2.1)) (fun e=>hK0 fun s=>e s.2.1)) (fun e=>hK0 fun s=>e s.1)
 have hrc:r*c<=64*64:=Int.mul_le_mul h2 h4 (by omega) (by omega)
 have hrc0:0<=r*c:=Int.mul_nonneg (by omega) (by omega)
 have ew:B4 (r*c)=r*c:=B6 (by omega) (by omega)
 rw [ew]
 by_cases e:(n:Int)=r*c
 ·rw [show ((n:Int)==r*c)=true by simpa using e]
  exact hK1 ⟨h1,h2,h3,h4,e⟩
 ·rw [show ((n:Int)==r*c)=false by simpa using e]
  exact hK0 fun s=>e s.2.2.2.2
theorem S8(gl:Gl h)(rv':RowV SSr h A n ls)(hn:n<=1000000)(hl:∀ i,i<n->(ls i).length<=100000000)
 (hK1:∀ rows cols,MOk r c n ls rows cols->∀ b h',Own RQr h h' b n (fun i=>rv (ls i))->K (.tuple #[.slice (some ⟨b,0,none⟩) n n,.bool true]) h')
 (hK0:¬ Mx r c n ls->∀ h',h.le h'->K (.tuple #[.slice none 0 0,.bool false]) h'):FCall Tryz.prog Ey #[No r c A n cap] h K:=by
 refine A9e _ _ _ _ _ ?_
 unfold B4s
 refine Jk (by omega) (fun s=>⟨_,rfl,?_⟩) (fun s=>⟨_,rfl,hK0 (fun x=>s (Qq.1 x).1) h (B3 _)⟩)
 refine Wj gl rv' hn hl (fun hnum b h' w=>⟨_,_,_,_,rfl,hK1 _ _ (MOk.of s hnum) b h' w⟩) (fun hno h' l=>⟨_,_,_,_,rfl,hK0 (fun x=>hno (Qq.1 x).2) h' l⟩)
theorem Ou(gl:Gl h)(rv':RowV SSr h A n ls)(hn:n<=1000000)(hl:∀ i,i<n->(ls i).length<=100000000)
 (hK1:Mx r c n ls->K (.bool true) h) (hK0:¬ Mx r c n ls->K (.bool false) h):FCall Tryz.prog Nt #[No r c A n cap] h K:=by
 refine A6y _ _ _ _ _ ?_
 unfold B0o
 refine Jk (by omega) (fun s=>⟨_,rfl,?_⟩) (fun s=>⟨_,rfl,hK0 (fun x=>s (Qq.1 x).1)⟩)
 refine ⟨fun L hp=>∃ k:Nat,k<=n/\L=[I k]/\hp=h/\∀ i,i<k->IsNum (ls i),fun L _=>n-(iAt L 0).toNat,⟨0,by omega,rfl,rfl,fun i hi=>by omega⟩,?_⟩
 rintro t hp ⟨k,hk,eL,rfl,hnum⟩
 obtain rfl:t=(k:Int):=by simpa using eL
 refine B7 (fun hlt=>?_) (fun hge=>?_)
 ·have hkn:k<n:=by omega
  obtain ⟨a,rfl,hc⟩:=rv'.sat hkn
  refine ⟨a,rfl,by omega,by omega,_,hc,A24 gl (hl k hkn) (fun hx=>⟨_,rfl,?_⟩) (fun hx=>⟨_,rfl,hK0 (fun y=>hx ((Qq.1 y).2 k hkn))⟩)⟩
  rw [show B4 ((k:Int)+1)=((k+1:Nat):Int) by rw [B6]<;>omega]
  refine ⟨⟨k+1,by omega,rfl,rfl,fun i hi=>?_⟩,by simp only [Hl];omega⟩
  by_cases e:i=k
  ·subst e;exact hx
  ·exact hnum i (by omega)
 ·have:k=n:=by omega
  subst this
  exact hK1 (Qq.2 ⟨s,hnum⟩)
theorem Ae{f:Nat->Rat}(gl:Gl h)(rq:RowV RQr h A n f)(hn:n<=1000000)(hs:∀ i,i<n->Sz m (f i))(hm:m<=40000000)
 (hK:∀ b h',Own SSr h h' b n (fun i=>N2 (f i))->K (No r c (some ⟨b,0,none⟩) n n) h'):FCall Tryz.prog Dc #[I r,I c,.slice A n cap] h K:=by
 refine A6x _ _ _ _ _ ?_
 unfold B0n
 exact Wd gl rq hn hs hm fun b h' w=>⟨_,_,_,rfl,hK b h' w⟩
end
def mtx(E:Nat->Rat)(cols:Nat):Nat->Nat->Rat:=fun i j=>E (i*cols+j)
def elE(E:Nat->Rat)(rows cols c:Nat):ES:=Gc rows ⟨mtx E cols,[],1⟩ c
def elP(E:Nat->Rat)(rows cols c:Nat):PS:=As rows ⟨Wa E cols,A28 E cols,[],1,1⟩ c
theorem Pn(E:Nat->Rat){rows cols c:Nat}(hc:c<=cols):ERel rows cols c (mtx E cols) (elE E rows cols c) (elP E rows cols c):=
 (ERel.start (fun i j _ hj=>B16 E cols i hj) (fun i _=>by have:=A7w E cols i;grind)).run c hc
theorem A8t(E:Nat->Rat){rows cols c:Nat}(hc:c<=cols):(elP E rows cols c).cs=(elE E rows cols c).cs:=(Pn E hc).cs.symm
theorem A5l(E:Nat->Rat){rows cols c:Nat}(hc:c<=cols){i j:Nat}(hi:i<rows)(hj:j<cols)(h:i<(elE E rows cols c).cs.length\/j<c):Rat.divInt ((elP E rows cols c).M i j) (elP E rows cols c).last=(elE E rows cols c).R i j:=by
 have r:=Pn E hc (rows:=rows)
 have hv:=r.val i j hi hj
 have hl:=J6 r.last
 rw [Rat.divInt_eq_div,hv]
 by_cases h1:i<(elE E rows cols c).cs.length
 ·rw [if_pos h1,Rat.mul_comm,Rat.div_def,Rat.mul_assoc,Rat.mul_inv_cancel _ hl,Rat.mul_one]
 ·rw [if_neg h1,r.zero i j hi (by omega) (by omega),Rat.mul_zero,Rat.mul_zero]
  rw [Rat.div_def,Rat.zero_mul]
def bnd(cols m:Nat):Nat:=1+cols*m+m
theorem B49{E:Nat->Rat}{rows cols m:Nat}(h:∀ i,i<rows*cols->Sz m (E i)):ZbP rows cols (bnd cols m) (bnd cols m) ⟨Wa E cols,A28 E cols,[],1,1⟩:=by
 have hb:∀ i,i<rows->∀ j,j<cols->Sz m (E (i*cols+j)):=fun i hi j hj=>h _ (K9 hi hj)
 refine ⟨fun a b ha hb'=>?_,?_,fun a ha=>A48 (hb a ha),Nat.zero_le _⟩
 ·show ZB (3^0*bnd cols m) (Wa E cols a b)
  rw [Nat.pow_zero,Nat.one_mul];exact B15 (hb a ha) hb'
 ·show ZB (3^0*bnd cols m) 1
  exact ZB.one (by unfold bnd;omega)
theorem Xe{E:Nat->Rat}{rows cols m c:Nat}(h:∀ i,i<rows*cols->Sz m (E i))(hc:c<=cols):ZbP rows cols (bnd cols m) (bnd cols m) (elP E rows cols c):=(B49 h).run (by unfold bnd;omega) c hc
theorem B4a(E:Nat->Rat)(rows cols c:Nat):(elP E rows cols c).cs.length<=c:=A14 _ _ rfl c
theorem Ny(E:Nat->Rat)(rows cols c:Nat)(x:Nat):3^(elP E rows cols c).cs.length*x<=3^c*x:=Nat.mul_le_mul_right _ (Nat.pow_le_pow_right (by decide) (B4a E rows cols c))
theorem A07(E:Nat->Rat)(rows cols c:Nat):(elP E rows cols c).last≠0:=(Ok rows _ (show (1:Int)≠0 by decide) (.inl rfl) (Nat.zero_le _) c).1
structure Own2 (h h':Heap) (b n:Nat) (f:Nat->List UInt8) (A:Option Addr) (cap:Nat) (l:List Int):Prop where
 ex:∃ g o xs,h.le g/\Sep h' g o/\RowX o b xs/\xs.length=n/\Row SSr g xs n f/\OwnSl o F1 A cap l/\A≠some ⟨b,0,none⟩
theorem Own2.le{h h':Heap}{b n:Nat}{f:Nat->List UInt8}{A:Option Addr}{cap:Nat}{l:List Int}(w:Own2 h h' b n f A cap l):h.le h':=by
 obtain ⟨g,o,xs,lg,s,_⟩:=w.ex
 exact A0 lg s.le
theorem Own2.strs{h h':Heap}{b n:Nat}{f:Nat->List UInt8}{A:Option Addr}{cap:Nat}{l:List Int}(w:Own2 h h' b n f A cap l):RowV SSr h' (some ⟨b,0,none⟩) n f:=by
 obtain ⟨g,o,xs,lg,s,r,e,q,_⟩:=w.ex
 exact ⟨xs,r.rowB.slF s.ole,e,q.mono Bh s.le⟩
theorem Own2.ints{h h':Heap}{b n:Nat}{f:Nat->List UInt8}{A:Option Addr}{cap:Nat}{l:List Int}(w:Own2 h h' b n f A cap l):SlF h' A l/\l.length<=cap:=by
 obtain ⟨g,o,xs,lg,s,r,e,q,ow,_⟩:=w.ex
 exact ⟨ow.slF s.ole,ow.1⟩
theorem Own2.own{h h':Heap}{b n:Nat}{f:Nat->List UInt8}{A:Option Addr}{cap:Nat}{l:List Int}(w:Own2 h h' b n f A cap l):Own SSr h h' b n f:=by
 obtain ⟨g,o,xs,lg,s,r,e,q,_⟩:=w.ex
 exact ⟨g,o,xs,lg,s,r,e,q⟩
section
variable {h g o:Heap} {T:Tb} {M:Nat->Nat->Int} {S:Nat->Rat}
theorem Tab.fat(t:Tab h g o T M S){k:Nat}(hk:k<T.rows*T.cols):∃ w:IV,ZIr g w (M (k/T.cols) (k%T.cols))/\o.cell? (Addr.add (Addr.add ⟨T.bE,0,none⟩ (k*2)) 0)=some (.bool w.s)/\o.cell? (Addr.add (Addr.add ⟨T.bE,0,none⟩ (k*2)) 1)=some (.slice w.A w.n w.c):=by
 have hp:=t.pos
 have hi:k/T.cols<T.rows:=Nat.div_lt_of_lt_mul (by rw [Nat.mul_comm];exact hk)
 obtain ⟨w,hz,c0,c1⟩:=t.ato hi (Nat.mod_lt k hp)
 have e:k/T.cols*T.cols*2+k%T.cols*2=k*2:=by rw [<- Nat.add_mul,Nat.mul_comm (k/T.cols),Nat.div_add_mod]
 rw [D3,D3,e] at c0 c1
 refine ⟨w,hz,?_,?_⟩
 ·rw [D3,D3,Nat.zero_add];exact c0
 ·rw [D3,D3,Nat.zero_add];exact c1
end
section
variable {h:Heap} {K:Value->Heap->Prop} {A:Option Addr} {n cap m:Nat} {r c:Int} {ls:Nat->List UInt8}
abbrev rvs(ls:Nat->List UInt8):Nat->Rat:=fun i=>rv (ls i)
theorem Hd{E:Nat->Rat}{rows cols cc:Nat}(gl:Gl h)(rq:RowV RQr h A (rows*cols) E)(hcap:rows*cols<=cap)(hr:1<=rows)(hr2:rows<=10000)(hc:1<=cols)(hc2:cols<=10000)(hcc:cc<=cols)(hs:∀ i,i<rows*cols->Sz m (E i))(hm:2*(3^cc*bnd cols m)+1<=100000000){K:Value->Heap->Prop}
 (hK:∀ T h1,FCall Tryz.prog Ca #[.pointer (some ⟨T.bt,0,none⟩),I (cc:Int)] h1 (fun r h'=>∃ g' o' A' cap' w,h.le g'/\Tab h' g' o' T (elP E rows cols cc).M (elP E rows cols cc).S/\OwnSl o' F1 A' cap' (zs (elP E rows cols cc).cs)/\B2t T A'/\ZIr g' w (elP E rows cols cc).last/\
  r= .tuple #[.slice A' (elP E rows cols cc).cs.length cap',w.v,I (elP E rows cols cc).sgn])->h.le h1->T.rows=rows->T.cols=cols->K (.pointer (some ⟨T.bt,0,none⟩)) h1):FCall Tryz.prog Q4 #[.slice A (rows*cols) cap,I (cols:Int)] h K:=by
 have h1:bnd cols m<=3^cc*bnd cols m:=Nat.le_mul_of_pos_left _ (Nat.pow_pos (by decide))
 have h2:bnd cols m=1+cols*m+m:=rfl
 refine Jd (m:=m) gl rq hcap hr hr2 hc hc2 hs (by omega) ?_
 intro h' g' o' T lg t e1 e2
 refine hK T h' ?_ (A0 lg t.sep.le) e1 e2
 have hz:=B49 hs
 rw [<- e1,<- e2] at hz
 refine Zo (m:=bnd cols m) (l:=bnd cols m) t (by omega) (by unfold bnd;omega) hm (by rw [e1] at hz ⊢;rw [e2] at hz ⊢;exact hz) ?_
 intro h2 g2 o2 A2 cap2 w l2 t2 ow ap ko iw
 rw [e1] at t2 ow iw ⊢
 exact ⟨g2,o2,A2,cap2,w,A0 lg l2,t2,ow,ap,iw,rfl⟩
end
def B1e(E:Nat->Rat)(rows cols:Nat):Nat->Rat:=fun k=>(elE E rows cols cols).R (k/cols) (k%cols)
theorem Own2.of{h g o g5 h7:Heap}{b n:Nat}{f:Nat->List UInt8}{A:Option Addr}{cap:Nat}{l:List Int}(s:Sep h7 g5 o)(lh:h.le g)(ow:OwnSl o F1 A cap l)(w:Own SSr g g5 b n f):Own2 h h7 b n f A cap l:=by
 obtain ⟨gs,os,xs,lg,ss,rx,hx,rr⟩:=w.ex
 have j1:∀ k x,os k=some x->(o.join os) k=some x:=fun k x e=>by show (match os k with|some x=>some x|none=>o k)=_;rw [e]
 have j2:∀ k,os k=none->(o.join os) k=o k:=fun k e=>by show (match os k with|some x=>some x|none=>o k)=_;rw [e]
 have hk:∀ k x,o k=some x->os k=none:=by
  intro k x e
  cases ho:os k with
  | none=>rfl
  | some y=>have:=s.dis k x e;rw [ss.own k y ho] at this;cases this
 refine ⟨gs,o.join os,xs,A0 lh lg,s.join ss,rx.keep (fun x e=>j1 b x e),hx,rr,ow.keep fun k x _ e=>by rw [j2 k (hk k x e)];exact e,fun hA=>?_⟩
 obtain ⟨e,hb⟩:=rx
 rcases ow.2 with ⟨_,h0⟩|⟨b',arr,hA',hb',_⟩
 ·rw [hA] at h0;cases h0
 ·rw [hA] at hA'
  simp only [Option.some.injEq,Addr.mk.injEq,and_true] at hA'
  subst hA'
  rw [hk _ _ hb'] at hb;cases hb
def Se(o:Heap)(A:Option Addr):Heap:=fun k=>if A=some ⟨k,0,none⟩ then o k else none
theorem A4v(o:Heap)(A:Option Addr):(Se o A).le o:=fun k x e=>by
 unfold Se at e
 split at e
 ·exact e
 ·cases e
theorem OwnSl.only{α:Type}[E:Enc α]{o:Heap}{e:TypeId}{A:Option Addr}{c:Nat}{xs:List α}(w:OwnSl o e A c xs):OwnSl (Se o A) e A c xs:=w.keep fun b x hA hb=>by unfold Se;rw [if_pos hA];exact hb
theorem Zu(o:Heap){A:Option Addr}{k:Nat}(h:A≠some ⟨k,0,none⟩):Se o A k=none:=by unfold Se;rw [if_neg h]
section
variable {h:Heap} {K:Value->Heap->Prop} {A:Option Addr} {n cap m:Nat} {r c:Int} {ls:Nat->List UInt8}
theorem Wp(gl:Gl h)(rv':RowV SSr h A n ls)(hn:n<=1000000)(hl:∀ i,i<n->(ls i).length<=100000000)(hs:∀ i,i<n->Sz m (rv (ls i)))(hb:∀ rows cols,MOk r c n ls rows cols->2*(3^cols*bnd cols m)+1<=40000000)
 (hK1:∀ rows cols,MOk r c n ls rows cols->∀ b h' A' cap',Own2 h h' b n (fun k=>N2 (B1e (rvs ls) rows cols k)) A' cap' (zs (elE (rvs ls) rows cols cols).cs)->K (.tuple #[No r c (some ⟨b,0,none⟩) n n,.slice A' (elE (rvs ls) rows cols cols).cs.length cap',I 0]) h')
 (hK0:¬ Mx r c n ls->∀ h',h.le h'->K (.tuple #[No 0 0 none 0 0,.slice none 0 0,I 1]) h'):FCall Tryz.prog Pl #[No r c A n cap] h K:=by
 refine A3g _ _ _ _ _ ?_
 unfold A71
 refine S8 gl rv' hn hl ?_ ?_
 ·intro rows cols mk b h1 own
  have hb':=hb rows cols mk
  have:=mk.r1;have:=mk.r2;have:=mk.c1;have:=mk.c2
  obtain ⟨rfl,rfl,h1',h2',h3',h4',rfl,hnum⟩:=id mk
  have ol:=own.le
  have ov:=own.vis K3
  obtain ⟨g1,o1,xs,lg1,s1,rx,hx,rr⟩:=own.ex
  obtain ⟨e1,hb1⟩:=id rx
  refine ⟨_,_,_,_,rfl,?_⟩
  refine Hd (E:=rvs ls) (cc:=cols) (m:=m) (gl.mono ol) ov (Nat.le_refl _) (by omega) (by omega) (by omega) (by omega) (Nat.le_refl _) hs (by omega) ?_
  intro T h2 hred l2 e1' e2'
  refine ⟨_,rfl,?_⟩
  refine FCall.mono hred ?_
  rintro r3 h3 ⟨g3,o3,A3,cap3,w,l3,t3,ow,ap,iw,rfl⟩
  refine ⟨_,_,_,_,_,_,_,_,rfl,_,rfl,_,_,_,t3.c1,?_⟩
  have hzb:=Xe (E:=rvs ls) (rows:=rows) (c:=cols) hs (Nat.le_refl _)
  have hbd:=Ny (rvs ls) rows cols cols (bnd cols m)
  have hlast:=A07 (rvs ls) rows cols cols
  have hdiv:∀ k,k<rows*cols->Rat.divInt ((elP (rvs ls) rows cols cols).M (k/cols) (k%cols)) (elP (rvs ls) rows cols cols).last=B1e (rvs ls) rows cols k:=by
   intro k hk
   have hi:k/cols<rows:=Nat.div_lt_of_lt_mul (by rw [Nat.mul_comm];exact hk)
   have hj:=Nat.mod_lt k (show 0<cols by omega)
   exact A5l (rvs ls) (Nat.le_refl _) hi hj (.inr hj)
  rw [A8t _ (Nat.le_refl _)] at ow ⊢
  generalize elP (rvs ls) rows cols cols=st at *
  have hgb:g3 b=some (.cells (xs.flatMap enc).toArray e1):=l3 _ _ (s1.own _ _ hb1)
  have hA3:A3≠some ⟨b,0,none⟩:=by
   intro hA
   rcases ow.2 with ⟨_,h0⟩|⟨b',arr,hA',hb',_⟩
   ·rw [hA] at h0;cases h0
   ·rw [hA] at hA'
    simp only [Option.some.injEq,Addr.mk.injEq,and_true] at hA'
    subst hA'
    rw [t3.sep.dis _ _ hb'] at hgb;cases hgb
  have hob:∀ k x,o3 k=some x->k≠b:=by rintro k x e rfl;rw [t3.sep.dis k x e] at hgb;cases hgb
  have t4:=t3.grab hgb (Wm xs)
  have iw4:ZI (g3.without b) w.s w.A w.n w.c st.last:=ZI.without hgb (Wm xs) iw
  have lg4:g1.le (g3.without b):=Qu (A0 s1.le l3) (s1.dis _ _ hb1)
  have ow4:OwnSl (o3.put b (.cells (xs.flatMap enc).toArray e1)) F1 A3 cap3 (zs (elE (rvs ls) rows cols cols).cs):=ow.keep fun k x _ e=>by rw [B5 _ _ (hob k x e)];exact e
  have rx4:RowX (o3.put b (.cells (xs.flatMap enc).toArray e1)) b xs:=RowX.mk
  generalize g3.without b=g4 at *
  generalize o3.put b (.cells (xs.flatMap enc).toArray e1)=o4 at *
  have tb:=t4.own
  have nb:b≠T.bt/\b≠T.bE/\b≠T.bS:=by
   obtain ⟨⟨x1,y1⟩,⟨x2,y2⟩,⟨x3,y3⟩⟩:=t3.own
   exact ⟨fun e=>hob _ _ y1 e.symm,fun e=>hob _ _ y2 e.symm,fun e=>hob _ _ y3 e.symm⟩
  refine ⟨fun L hp=>∃ (k:Nat) (g o:Heap) (ys:List QV),k<=rows*cols/\L=[I (k:Int)]/\g4.le g/\Tab hp g o T st.M st.S/\RowX o b ys/\ys.length=rows*cols/\Row RQr g ys k (B1e (rvs ls) rows cols)/\(∀ kk,kk≠b->o kk=o4 kk),fun L _=>rows*cols-(iAt L 0).toNat,⟨0,g4,o4,xs,by omega,rfl,B3 _,t4,rx4,hx,Row.nil,fun _ _=>rfl⟩,?_⟩
  rintro z hp ⟨k,g5,o5,ys,hk,eL,l5,t5,rx5,hy,rr5,ho5⟩
  obtain rfl:z=(k:Int):=by simpa using eL
  refine B7 (fun hlt=>?_) (fun hge=>?_)
  ·have hkn:k<rows*cols:=by rw [e1',e2'] at hlt;omega
   obtain ⟨w5,z5,c0,c1⟩:=t5.fat (k:=k) (by rw [e1',e2'];exact hkn)
   rw [e2'] at z5
   have hi:k/cols<rows:=Nat.div_lt_of_lt_mul (by rw [Nat.mul_comm];exact hkn)
   have hj:=Nat.mod_lt k (show 0<cols by omega)
   refine ⟨_,rfl,by omega,hlt,_,_,_,_,t5.sep.cell c0,t5.sep.cell c1,?_⟩
   refine t5.sep.call (L6 (gl.mono (A0 lg1 (A0 lg4 l5))).tz z5 (iw4.mono l5) (hzb.M _ _ hi hj) hzb.last (by omega) ?_)
   intro w6 g6 l6 i6 h6 s6
   rw [hdiv k hkn] at i6
   refine ⟨_,_,_,_,_,_,_,_,rfl,_,rfl,by omega,by omega,?_⟩
   refine Z8 Iq (y:=w6) rfl s6 rx5 (i:=k) (by omega) ?_
   intro h7 o7 x7 eo s7 rx7
   have ko:∀ kk,kk≠b->o7 kk=o5 kk:=fun kk hk=>by rw [eo,B5 _ _ hk]
   have hrc:rows*cols<=64*64:=Nat.mul_le_mul (by omega) (by omega)
   rw [show B4 ((k:Int)+1)=((k+1:Nat):Int) by rw [B6]<;>omega]
   refine ⟨⟨k+1,g6,o7,_,by omega,rfl,A0 l5 l6,t5.keep s7 l6 (fun kk x e hkk=>by
    rw [ko kk (by rcases hkk with rfl|rfl|rfl
                  ·exact nb.1.symm
                  ·exact nb.2.1.symm
                  ·exact nb.2.2.symm)];exact e),rx7,by simpa using hy,(rr5.mono K3 l6).set (by omega) i6,fun kk hk=>by rw [ko kk hk,ho5 kk hk]⟩,by simp only [Hl];omega⟩
  ·have hkn:k=rows*cols:=by rw [e1',e2'] at hge;omega
   subst hkn
   have ow5:OwnSl o5 F1 A3 cap3 (zs (elE (rvs ls) rows cols cols).cs):=ow4.keep fun kk x hA e=>by rw [ho5 kk (fun e=>hA3 (by rw [<- e];exact hA))];exact e
   obtain ⟨g6,l6,s6⟩:=t5.sep.give (A4v o5 A3)
   obtain ⟨e5,hb5⟩:=id rx5
   have hg6:g6 b=some (.cells (ys.flatMap enc).toArray e5):=by
    rw [<- s6.rest b (Zu o5 hA3)]
    exact t5.sep.own _ _ hb5
   have rq6:RowV RQr g6 (some ⟨b,0,none⟩) (rows*cols) (B1e (rvs ls) rows cols):=⟨ys,(RowX.rowB ⟨e5,hg6⟩).slF (B3 _),hy,rr5.mono K3 l6⟩
   have lh6:h.le g6:=A0 lg1 (A0 lg4 (A0 l5 l6))
   have hsz:∀ k,k<rows*cols->Sz (3^st.cs.length*bnd cols m) (B1e (rvs ls) rows cols k):=by
    intro k hk
    have hi:k/cols<rows:=Nat.div_lt_of_lt_mul (by rw [Nat.mul_comm];exact hk)
    have hj:=Nat.mod_lt k (show 0<cols by omega)
    rw [<- hdiv k hk]
    exact S2 hlast (hzb.M _ _ hi hj) hzb.last
   refine s6.call (Ae (gl.mono lh6) rq6 hn hsz (by omega) ?_)
   intro b2 g7 own7 h7 s7
   exact ⟨_,_,_,_,_,rfl,hK1 rows cols mk b2 h7 A3 cap3 (Own2.of s7 lh6 ow5.only own7)⟩
 ·intro hno h1 l1
  exact ⟨_,_,_,_,rfl,hK0 hno h1 l1⟩
end
def A2w(E:Nat->Rat)(n:Nat):Rat:=if (elE E n n n).cs.length<n then 0 else (elE E n n n).det
theorem A23{h:Heap}{K:Value->Heap->Prop}{s:Bool}{A:Option Addr}{n c:Nat}{z:Int}(i:ZI h s A n c z)(hK:∀ w,RQ h w (z:Rat)->K w.v h):FCall Tryz.prog Uk #[.agg #[.bool s,.slice A n c]] h K:=by
 refine A6l _ _ _ _ ?_
 unfold B0g
 exact hK _ (Tn i)
theorem In:N2 0=[48]:=by simp [N2,Oh,N7]
theorem B27(E:Nat->Rat){n:Nat}(h:(elE E n n n).cs.length=n):((elP E n n n).sgn:Rat)*(elP E n n n).last/pr n (elP E n n n).S=A2w E n:=by
 have r:=Pn E (rows:=n) (Nat.le_refl n)
 have hd:=r.det h
 have hne:=B5t r.scale
 rw [h] at hd
 unfold A2w
 rw [if_neg (by omega),<- hd,Rat.div_def,Rat.mul_assoc,Rat.mul_inv_cancel _ hne,Rat.mul_one]
section
variable {h:Heap} {K:Value->Heap->Prop} {A:Option Addr} {n cap m:Nat} {r c:Int} {ls:Nat->List UInt8}
theorem Wq(gl:Gl h)(rv':RowV SSr h A n ls)(hn:n<=1000000)(hl:∀ i,i<n->(ls i).length<=100000000)(hs:∀ i,i<n->Sz m (rv (ls i)))(hb:∀ rows cols,MOk r c n ls rows cols->70*(3^cols*bnd cols m)+100<=40000000)
 (hK1:∀ q,MOk r c n ls q q->∀ h',h.le h'->K (.tuple #[.string (bs (N2 (A2w (rvs ls) q))),I 0]) h')
 (hK2:Mx r c n ls->r≠c->∀ h',h.le h'->K (.tuple #[.string (bs []),I 4]) h')
 (hK0:¬ Mx r c n ls->∀ h',h.le h'->K (.tuple #[.string (bs []),I 1]) h'):FCall Tryz.prog A1j #[No r c A n cap] h K:=by
 refine B2p _ _ _ _ _ ?_
 unfold B7n
 refine S8 gl rv' hn hl ?_ ?_
 ·intro rows cols mk b h1 own
  have hb':=hb rows cols mk
  have:=mk.r1;have:=mk.r2;have:=mk.c1;have:=mk.c2
  obtain ⟨rfl,rfl,h1',h2',h3',h4',rfl,hnum⟩:=id mk
  refine ⟨_,_,_,_,rfl,K7 (fun hne=>hK2 ⟨_,_,mk⟩ hne h1 own.le) (fun heq=>?_)⟩
  obtain rfl:rows=cols:=by omega
  refine Hd (E:=rvs ls) (cc:=rows) (m:=m) (gl.mono own.le) (own.vis K3) (Nat.le_refl _) (by omega) (by omega) (by omega) (by omega) (Nat.le_refl _) hs (by omega) ?_
  intro T h2 hred l2 e1 e2
  refine ⟨_,rfl,?_⟩
  refine FCall.mono hred ?_
  rintro r3 h3 ⟨g3,o3,A3,cap3,w,l3,t3,ow,ap,iw,rfl⟩
  have hzb:=Xe (E:=rvs ls) (rows:=rows) (c:=rows) hs (Nat.le_refl _)
  have hbd:=Ny (rvs ls) rows rows rows (bnd rows m)
  have hsg:=(Ok rows ⟨Wa (rvs ls) rows,A28 (rvs ls) rows,[],1,1⟩ (show (1:Int)≠0 by decide) (.inl rfl) (Nat.zero_le _) rows).2.1
  have hsg':(elP (rvs ls) rows rows rows).sgn=1\/(elP (rvs ls) rows rows rows).sgn= -1:=hsg
  have hscale:∀ i,i<rows->(elP (rvs ls) rows rows rows).S i≠0:=(Pn (rvs ls) (rows:=rows) (Nat.le_refl rows)).scale
  have lh3:=A0 own.le (A0 l3 t3.sep.le)
  have hdet:=B27 (rvs ls) (n:=rows)
  have hdet0:(elE (rvs ls) rows rows rows).cs.length<rows->A2w (rvs ls) rows=0:=fun h=>by unfold A2w;rw [if_pos h]
  have hlen:=(Pn (rvs ls) (rows:=rows) (Nat.le_refl rows)).asc
  refine ⟨_,_,_,_,_,_,_,_,rfl,?_⟩
  rw [A8t _ (Nat.le_refl _)]
  refine B7 (fun hlt=>?_) (fun hge=>?_)
  ·have:=hK1 rows mk h3 lh3
   rw [hdet0 (by omega),In] at this
   exact this
  have hfull:(elE (rvs ls) rows rows rows).cs.length=rows:=by omega
  have hdet':=hdet hfull
  generalize elP (rvs ls) rows rows rows=st at *
  have iw3:ZI h3 w.s w.A w.n w.c st.last:=iw.mono t3.sep.le
  refine A23 iw3 (fun w4 i4=>?_)
  have hB:1<=3^st.cs.length*bnd rows m:=Tr _ _ (by unfold bnd;omega)
  have sl:Sz (3^rows*bnd rows m) (st.last:Rat):=(Sz.int hzb.last hB).mono hbd
  refine ⟨_,_,_,_,_,_,_,_,rfl,fun L hp=>∃ w:QV,hp=h3/\L=[.bool w.s,.slice w.A w.n w.c,.bool w.s2,.slice w.A2 w.n2 w.c2]/\RQ h3 w ((st.sgn:Rat)*st.last),?_,?_⟩
  ·refine B7 (fun e=>?_) (fun e=>?_)
   ·have e1:st.sgn= -1:=by omega
    refine A2f i4 (fun w5 i5=>⟨_,_,_,_,_,_,_,_,rfl,w5,rfl,rfl,?_⟩)
    rw [e1]
    have:(((-1:Int)):Rat)*(st.last:Rat)= -(st.last:Rat):=by
     have:((-1:Int):Rat)= -1:=by decide +kernel
     rw [this];grind
    rw [this];exact i5
   ·have e1:st.sgn=1:=by omega
    refine ⟨w4,rfl,rfl,?_⟩
    rw [e1]
    have:((1:Int):Rat)*(st.last:Rat)=(st.last:Rat):=by
     have:((1:Int):Rat)=1:=rfl
     rw [this,Rat.one_mul]
    rw [this];exact i4
  ·rintro d0 d1A d1n d1c d2 d3A d3n d3c hp ⟨w5,rfl,eL,i5⟩
   simp only [List.cons.injEq,Value.bool.injEq,Value.slice.injEq,and_true] at eL
   obtain ⟨rfl,⟨rfl,rfl,rfl⟩,rfl,⟨rfl,rfl,rfl⟩⟩:=eL
   have s0:Sz (3^rows*bnd rows m) ((st.sgn:Rat)*st.last):=by
    rcases hsg' with e|e
    ·rw [e]
     have:((1:Int):Rat)*(st.last:Rat)=(st.last:Rat):=by
      have:((1:Int):Rat)=1:=rfl
      rw [this,Rat.one_mul]
     rw [this];exact sl
    ·rw [e]
     have:(((-1:Int)):Rat)*(st.last:Rat)= -(st.last:Rat):=by
      have:((-1:Int):Rat)= -1:=by decide +kernel
      rw [this];grind
     rw [this];exact sl.neg
   refine ⟨_,rfl,_,_,_,t3.c2,fun L hp'=>∃ (k:Nat) (w:QV),k<=rows/\hp.le hp'/\L=[I (k:Int),.bool w.s,.slice w.A w.n w.c,.bool w.s2,.slice w.A2 w.n2 w.c2]/\RQ hp' w ((st.sgn:Rat)*st.last/pr k st.S)/\Sz ((k+1)*(3^rows*bnd rows m)) ((st.sgn:Rat)*st.last/pr k st.S),fun L _=>rows-(iAt L 0).toNat,⟨0,w5,by omega,B3 _,rfl,?_,?_⟩,?_⟩
   ·have:(st.sgn:Rat)*st.last/pr 0 st.S=(st.sgn:Rat)*st.last:=by rw [pr,Rat.div_def];grind
    rw [this];exact i5
   ·have:(st.sgn:Rat)*st.last/pr 0 st.S=(st.sgn:Rat)*st.last:=by rw [pr,Rat.div_def];grind
    rw [this];exact s0.mono (by omega)
   rintro z e0 e1A e1n e1c e2' e3A e3n e3c h6 ⟨k,w6,hk,l6,eL,i6,s6⟩
   simp only [List.cons.injEq,Value.int.injEq,Value.bool.injEq,Value.slice.injEq,true_and,and_true] at eL
   obtain ⟨rfl,rfl,⟨rfl,rfl,rfl⟩,rfl,⟨rfl,rfl,rfl⟩⟩:=eL
   have lh6:=A0 lh3 l6
   have hk64:(k+1)*(3^rows*bnd rows m)<=65*(3^rows*bnd rows m):=Nat.mul_le_mul_right _ (by omega)
   refine B7 (fun hlt=>?_) (fun hge=>?_)
   ·have hkr:k<rows:=by rw [e1] at hlt;omega
    obtain ⟨w7,i7,c0,c1,c2,c3⟩:=t3.sat (i:=k) (by rw [e1];exact hkr)
    refine ⟨_,rfl,by omega,hlt,_,_,_,_,_,_,_,_,C0 l6 c0,C0 l6 c1,C0 l6 c2,C0 l6 c3,?_⟩
    have sS:Sz (3^rows*bnd rows m) (st.S k):=(hzb.S k hkr).mono (Nat.le_mul_of_pos_left _ (Nat.pow_pos (by decide)))
    have i7':RQ h6 w7 (st.S k):=K3 _ _ _ _ (A0 t3.sep.le l6) i7
    have ek:(k+1+1)*(3^rows*bnd rows m)=(k+1)*(3^rows*bnd rows m)+3^rows*bnd rows m:=by rw [Nat.add_mul (k+1),Nat.one_mul]
    refine Kq (gl.mono lh6).tz i6 i7' s6 (sS.mono (Nat.le_mul_of_pos_left _ (by omega))) (Nat.le_trans hB (Nat.le_trans hbd (Nat.le_mul_of_pos_left _ (by omega)))) (by omega) ?_
    intro w8 h8 l8 i8
    have hdv:(st.sgn:Rat)*st.last/pr k st.S/st.S k=(st.sgn:Rat)*st.last/pr (k+1) st.S:=by
     rw [pr,Rat.div_def,Rat.div_def,Rat.div_def,Rat.inv_mul_rev]
     grind
    refine ⟨_,_,_,_,_,_,_,_,rfl,?_⟩
    rw [show B4 ((k:Int)+1)=((k+1:Nat):Int) by rw [B6]<;>omega]
    refine ⟨⟨k+1,w8,by omega,A0 l6 l8,rfl,by rw [<- hdv];exact i8,?_⟩,by simp only [Hl];omega⟩
    rw [<- hdv,ek]
    exact s6.div sS (Nat.le_trans hB hbd)
   ·have hkr:k=rows:=by rw [e1] at hge;omega
    subst hkr
    rw [hdet'] at i6 s6
    exact Lu (gl.mono lh6).p10 i6 s6 (by omega) ⟨_,rfl,hK1 k mk h6 lh6⟩
 ·intro hno h1 l1
  exact ⟨_,_,_,_,rfl,hK0 hno h1 l1⟩
end
structure HV where
 A:Option Addr
 n:Nat
 c:Nat
abbrev HV.v(s:HV):Value:=.slice s.A s.n s.c
instance:Enc HV:=⟨⟨fun s=>[.slice s.A s.n s.c],1,fun _=>rfl,fun s v hv=>by rw [List.mem_singleton.1 hv];rfl⟩⟩
def RowsV(h:Heap)(A:Option Addr)(n w:Nat)(M:Nat->Nat->Rat):Prop:=∃ hd:List HV,SlF h A hd/\hd.length=n/\∀ i,i<n->∃ s,hd[i]? = some s/\s.n=w/\w<=s.c/\RowV NQr h s.A w (M i)
theorem RowsV.mono{h h':Heap}{A:Option Addr}{n w:Nat}{M:Nat->Nat->Rat}(l:h.le h')(r:RowsV h A n w M):RowsV h' A n w M:=by
 obtain ⟨hd,s,e,r⟩:=r
 refine ⟨hd,s.mono l,e,fun i hi=>?_⟩
 obtain ⟨s,e1,e2,e3,r⟩:=r i hi
 exact ⟨s,e1,e2,e3,r.mono B1m l⟩
theorem RowsV.congr{h:Heap}{A:Option Addr}{n w:Nat}{M M':Nat->Nat->Rat}(r:RowsV h A n w M)(e:∀ i j,i<n->j<w->M i j=M' i j):RowsV h A n w M':=by
 obtain ⟨hd,s,e1,r⟩:=r
 refine ⟨hd,s,e1,fun i hi=>?_⟩
 obtain ⟨s,e1,e2,e3,r⟩:=r i hi
 exact ⟨s,e1,e2,e3,r.congr fun j hj=>e i j hi hj⟩
theorem RowsV.at{h:Heap}{A:Option Addr}{n w:Nat}{M:Nat->Nat->Rat}(r:RowsV h A n w M){i:Nat}(hi:i<n):∃ (a:Addr) (s:HV),A=some a/\s.n=w/\w<=s.c/\h.cell? (Addr.add a (i*1))=some (.slice s.A s.n s.c)/\RowV NQr h s.A w (M i):=by
 obtain ⟨hd,s,e,r⟩:=r
 obtain ⟨u,e1,e2,e3,r⟩:=r i hi
 obtain ⟨a,ha,hc⟩:=SlF.at (by decide) s (i:=i) (by omega)
 have hu:hd[i]=u:=by
  rw [List.getElem?_eq_getElem (by omega)] at e1;exact Option.some.inj e1
 have:=hc 0 _ (by rw [hu];rfl)
 rw [Jx] at this
 exact ⟨a,u,ha,e2,e3,this,r⟩
structure Mt (h g o:Heap) (bo:Nat) (rb:Nat->Nat) (n w:Nat) (M:Nat->Nat->Rat):Prop where
 sep:Sep h g o
 hd:∃ hd:List HV,RowB o bo hd/\hd.length=n/\∀ i,i<n->∃ c,hd[i]? = some ⟨some ⟨rb i,0,none⟩,w,c⟩/\w<=c
 nb:∀ i,i<n->rb i≠bo
 inj:∀ i j,i<n->j<n->rb i=rb j->i=j
 row:∀ i,i<n->∃ xs:List QV,RowB o (rb i) xs/\xs.length=w/\Row NQr g xs w (M i)
section
variable {h g o:Heap} {bo n w:Nat} {rb:Nat->Nat} {M:Nat->Nat->Rat}
theorem Mt.next(t:Mt h g o bo rb n w M){h' g':Heap}(s:Sep h' g' o)(l:g.le g'):Mt h' g' o bo rb n w M:=by
 refine ⟨s,t.hd,t.nb,t.inj,fun i hi=>?_⟩
 obtain ⟨xs,r,e,q⟩:=t.row i hi
 exact ⟨xs,r,e,q.mono B1m l⟩
theorem Mt.congr(t:Mt h g o bo rb n w M){M':Nat->Nat->Rat}(e:∀ i j,i<n->j<w->M i j=M' i j):Mt h g o bo rb n w M':=by
 refine ⟨t.sep,t.hd,t.nb,t.inj,fun i hi=>?_⟩
 obtain ⟨xs,r,e1,q⟩:=t.row i hi
 exact ⟨xs,r,e1,q.congr fun j hj=>e i j hi hj⟩
theorem Mt.keep(t:Mt h g o bo rb n w M){h' g' o':Heap}(s:Sep h' g' o')(l:g.le g')(hk:∀ k x,o k=some x->(k=bo\/∃ i,i<n/\k=rb i)->o' k=some x):Mt h' g' o' bo rb n w M:=by
 refine ⟨s,?_,t.nb,t.inj,fun i hi=>?_⟩
 ·obtain ⟨hd,⟨e,ex,hb⟩,h1,h2⟩:=t.hd
  exact ⟨hd,⟨e,ex,hk _ _ hb (.inl rfl)⟩,h1,h2⟩
 ·obtain ⟨xs,⟨e,ex,hb⟩,h1,h2⟩:=t.row i hi
  exact ⟨xs,⟨e,ex,hk _ _ hb (.inr ⟨i,hi,rfl⟩)⟩,h1,h2.mono B1m l⟩
theorem Mt.own(t:Mt h g o bo rb n w M):(∃ x,o bo=some x)/\∀ i,i<n->∃ x,o (rb i)=some x:=by
 obtain ⟨hd,⟨e,ex,hb⟩,_⟩:=t.hd
 refine ⟨⟨_,hb⟩,fun i hi=>?_⟩
 obtain ⟨xs,⟨e,ex,hb⟩,_⟩:=t.row i hi
 exact ⟨_,hb⟩
theorem Mt.head(t:Mt h g o bo rb n w M){i:Nat}(hi:i<n):∃ c,w<=c/\o.cell? (Addr.add ⟨bo,0,none⟩ (i*1))=some (.slice (some ⟨rb i,0,none⟩) w c):=by
 obtain ⟨hd,r,e,q⟩:=t.hd
 obtain ⟨c,e1,hc⟩:=q i hi
 refine ⟨c,hc,?_⟩
 have hu:hd[i]=⟨some ⟨rb i,0,none⟩,w,c⟩:=by
  rw [List.getElem?_eq_getElem (by omega)] at e1;exact Option.some.inj e1
 rw [D3,Nat.zero_add]
 exact r.cell (i:=i) (by omega) (j:=0) (by rw [hu];rfl)
def A3w(M:Nat->Nat->Rat)(i j:Nat)(q:Rat):Nat->Nat->Rat:=fun a b=>if a=i/\b=j then q else M a b
end
def RWr(w:Nat):Heap->HV->(Nat->Rat)->Prop:=fun h s f=>s.n=w/\w<=s.c/\RowV NQr h s.A w f
theorem RowsV.of{h:Heap}{A:Option Addr}{n w:Nat}{M:Nat->Nat->Rat}(r:RowV (RWr w) h A n M):RowsV h A n w M:=r
section
variable {h:Heap} {K:Value->Heap->Prop} {A:Option Addr} {n cap m w:Nat} {r c:Int} {ls:Nat->List UInt8} {M:Nat->Nat->Rat}
end
section
variable {α:Type} [E:Enc α]
theorem OwnSl.app{P:Program}{t e ty:TypeId}{z:Value}{bytes:Nat}(st:SliceT P t e z E.default.size bytes){h g o:Heap}{A:Option Addr}{c:Nat}{xs:List α}(s:Sep h g o)(w:OwnSl o e A c xs){B:Option Addr}{d m n:Nat}{ys:List α}(hxn:n=xs.length)(hm:m=ys.length)(hne:ys≠[])(sy:SlF h B ys)(hb:(2*(xs.length+ys.length)+192)*bytes<=281474976710656)(hn:xs.length+ys.length<=9223372036854775807){K:Value->Heap->Prop}
 (x:∀ A' c' h' g' o',g.le g'->Sep h' g' o'->OwnSl o' e A' c' (xs++ys)->(∀ k u,o k=some u->A≠some ⟨k,0,none⟩->o' k=some u/\A'≠some ⟨k,0,none⟩)->K (.slice A' (xs.length+m) c') h'):
 wpH P (Builtin.append_ #[t,t] ty #[.slice A n c,.slice B m d]) K h:=by
 subst hxn
 obtain ⟨gb,p,hkeep⟩:=w.priv s
 refine Lj st p hm sy hb hn ?_
 intro A' c' h' g' hg hp
 rw [List.length_append,<- hm]
 have hgk:∀ k u,h k=some u->A≠some ⟨k,0,none⟩->g' k=some u:=by
  intro k u e1 hne
  exact hg k u (hkeep k u e1 hne)
 have hnA:∀ k u,g k=some u->A≠some ⟨k,0,none⟩:=by
  intro k u e1 hA
  rcases w.2 with ⟨_,h0⟩|⟨b',arr,hA',hb',_⟩
  ·rw [hA] at h0;cases h0
  ·rw [hA] at hA'
   simp only [Option.some.injEq,Addr.mk.injEq,and_true] at hA'
   subst hA'
   rw [s.dis k _ hb'] at e1;cases e1
 rcases hp.2.2 with ⟨hc0,_⟩|⟨b',arr,hA',hb',hh',ha,ht⟩
 ·exfalso
  have:=hp.2.1
  rw [List.length_append] at this
  have:ys.length≠0:=fun h=>hne (List.eq_nil_of_length_eq_zero h)
  omega
 ·subst hA'
  let o':Heap:=fun k=>if k=b' then some (.cells (List.toArray arr) e) else if A=some ⟨k,0,none⟩ then none else o k
  have ob:o' b'=some (.cells (List.toArray arr) e):=by show (if b'=b' then _ else _)=_;rw [if_pos rfl]
  have ok:∀ k,k≠b'->A≠some ⟨k,0,none⟩->o' k=o k:=fun k h1 h2=>by show (if k=b' then _ else if _ then _ else _)=_;rw [if_neg h1,if_neg h2]
  have ono:∀ k,k≠b'->A=some ⟨k,0,none⟩->o' k=none:=fun k h1 h2=>by show (if k=b' then _ else if _ then _ else _)=_;rw [if_neg h1,if_pos h2]
  let g2:Heap:=fun k=>match o' k with|some _=>none|none=>h' k
  have gs:∀ k u,o' k=some u->g2 k=none:=fun k u e1=>by show (match o' k with|some _=>none|none=>h' k)=_;rw [e1]
  have gn:∀ k,o' k=none->g2 k=h' k:=fun k e1=>by show (match o' k with|some _=>none|none=>h' k)=_;rw [e1]
  have hput:∀ k u,k≠b'->g' k=some u->h' k=some u:=fun k u h1 e1=>by rw [hh',B5 _ _ h1];exact e1
  have hown:∀ k u,o k=some u->A≠some ⟨k,0,none⟩->k≠b':=by
   rintro k u e1 h2 rfl
   have:=hgk k u (s.own k u e1) h2
   rw [hb'] at this;cases this
  refine x _ c' h' g2 o' (fun k u e1=>?_) ⟨fun k u e1=>?_,fun k e1=>(gn k e1).symm,gs⟩ ⟨hp.2.1,.inr ⟨b',arr,rfl,ob,ha,ht⟩⟩ (fun k u e1 h2=>?_)
  ·have hk0:o k=none:=by
    cases ho:o k with
    | none=>rfl
    | some y=>rw [s.dis k y ho] at e1;cases e1
   have hA:=hnA k u e1
   have e3:=hgk k u (s.le k u e1) hA
   have hkb':k≠b':=by rintro rfl;rw [hb'] at e3;cases e3
   rw [gn k (by rw [ok k hkb' hA];exact hk0)]
   exact hput k u hkb' e3
  ·by_cases hkb:k=b'
   ·subst hkb
    rw [ob] at e1;cases e1
    rw [hh',B9]
   ·by_cases hA:A=some ⟨k,0,none⟩
    ·rw [ono k hkb hA] at e1;cases e1
    ·rw [ok k hkb hA] at e1
     exact hput k u hkb (hgk k u (s.own k u e1) hA)
  ·have hkb:=hown k u e1 h2
   refine ⟨by rw [ok k hkb h2];exact e1,fun h3=>hkb ?_⟩
   simp only [Option.some.injEq,Addr.mk.injEq,and_true] at h3
   exact h3.symm
end
def U4(M:Nat->Nat->Rat)(w:Nat):Nat->List UInt8:=fun k=>N2 (M (k/w) (k%w))
section
variable {h:Heap} {K:Value->Heap->Prop} {A:Option Addr} {n cap m w:Nat} {M:Nat->Nat->Rat}
end
abbrev ecE(M:Nat->Nat->Rat)(n c:Nat):ES:=Gc n ⟨M,[],1⟩ c
theorem A5n(M:Nat->Nat->Rat)(n:Nat):∀ c,(ecE M n c).cs.length<=c/\(ecE M n c).cs.length<=n:=by
 intro c
 induction c with
 | zero=>exact ⟨Nat.le_refl _,Nat.zero_le _⟩
 | succ c ih=>
  show (Bf n c (ecE M n c)).cs.length<=c+1/\(Bf n c (ecE M n c)).cs.length<=n
  unfold Bf
  split
  ·split
   ·show ((ecE M n c).cs++[c]).length<=c+1/\((ecE M n c).cs++[c]).length<=n
    rw [List.length_append]
    exact ⟨Nat.succ_le_succ ih.1,by simp only [List.length_cons,List.length_nil];omega⟩
   ·show (ecE M n c).cs.length<=c+1/\_
    exact ⟨Nat.le_succ_of_le ih.1,ih.2⟩
  ·exact ⟨Nat.le_succ_of_le ih.1,ih.2⟩
abbrev qc(w:QV):List Value:=[.bool w.s,.slice w.A w.n w.c,.bool w.s2,.slice w.A2 w.n2 w.c2]
section
variable {g o h11 h14 h15 hp2:Heap} {bo n w r c i B:Nat} {rb:Nat->Nat} {R:Nat->Nat->Rat} {x:QV} {q:Rat} {Invv Invv3:List Value->Heap->Prop} {muv muv3:List Value->Heap->Nat}
end
section
variable {g o h5 h9 hp2:Heap} {bo n w r c B k:Nat} {rb:Nat->Nat} {R:Nat->Nat->Rat} {q:Rat} {Invv:List Value->Heap->Prop} {muv:List Value->Heap->Nat} {pA:Option Addr} {pc:Nat} {wd wd0:QV} {l:List Nat}
end
section
variable {h:Heap} {K:Value->Heap->Prop} {A:Option Addr} {n cap m w:Nat} {M:Nat->Nat->Rat}
end
section
variable {h:Heap} {K:Value->Heap->Prop} {A B:Option Addr} {n m a b:Nat} {r c r2 c2:Int} {ls ls2:Nat->List UInt8}
theorem A02{k:Int}(r:RowV SSr h A n ls)(hn:n<=1000000000)(hK1:(∀ i,i<n->((ls i).length:Int)<=k)->K (.bool true) h)(hK0:¬ (∀ i,i<n->((ls i).length:Int)<=k)->K (.bool false) h):FCall Tryz.prog Uo #[I k,.slice A n a] h K:=by
 refine A76 _ _ _ _ ?_
 unfold B0t
 refine ⟨fun L hp=>∃ i:Nat,i<=n/\L=[I (i:Int)]/\hp=h/\∀ j,j<i->((ls j).length:Int)<=k,fun L _=>n-(iAt L 0).toNat,⟨0,by omega,rfl,rfl,fun j hj=>by omega⟩,?_⟩
 rintro z hp ⟨i,hi,eL,rfl,hh⟩
 obtain rfl:z=(i:Int):=by simpa using eL
 refine B7 (fun hlt=>?_) (fun hge=>?_)
 ·have hin:i<n:=by omega
  obtain ⟨x,rfl,hc⟩:=r.sat hin
  refine ⟨x,rfl,by omega,by omega,_,hc,?_⟩
  rw [P5]
  refine B7 (fun e=>hK0 fun hx=>by have:=hx i hin;omega) (fun e=>?_)
  rw [show B4 ((i:Int)+1)=((i+1:Nat):Int) by rw [B6]<;>omega]
  refine ⟨⟨i+1,by omega,rfl,rfl,fun j hj=>?_⟩,by simp only [Hl];omega⟩
  by_cases e2:j=i
  ·subst e2;omega
  ·exact hh j (by omega)
 ·have:i=n:=by omega
  subst this
  exact hK1 hh
theorem Jh(x:RowV SSr h A n ls)(y:RowV SSr h B m ls2)(hn:n<=1000000000)(hK1:n=m->(∀ i,i<n->ls i=ls2 i)->K (.bool true) h)(hK0:¬ (n=m/\∀ i,i<n->ls i=ls2 i)->K (.bool false) h):FCall Tryz.prog Gj #[.slice A n a,.slice B m b] h K:=by
 refine A0r _ _ _ _ _ _ ?_
 unfold A21
 refine K7 (fun e=>hK0 fun hx=>e (by omega)) (fun e=>?_)
 have e:n=m:=by omega
 subst e
 refine ⟨fun L hp=>∃ i:Nat,i<=n/\L=[I (i:Int)]/\hp=h/\∀ j,j<i->ls j=ls2 j,fun L _=>n-(iAt L 0).toNat,⟨0,by omega,rfl,rfl,fun j hj=>by omega⟩,?_⟩
 rintro z hp ⟨i,hi,eL,rfl,hh⟩
 obtain rfl:z=(i:Int):=by simpa using eL
 refine B7 (fun hlt=>?_) (fun hge=>?_)
 ·have hin:i<n:=by omega
  obtain ⟨u,rfl,hc⟩:=x.sat hin
  obtain ⟨v,rfl,hd⟩:=y.sat hin
  refine ⟨u,rfl,by omega,by omega,_,hc,v,rfl,by omega,by omega,_,hd,?_⟩
  rw [Pu]
  refine Cj (B7 (fun e=>?_) (fun e=>hK0 fun hx=>e (hx.2 i hin)))
  rw [show B4 ((i:Int)+1)=((i+1:Nat):Int) by rw [B6]<;>omega]
  refine ⟨⟨i+1,by omega,rfl,rfl,fun j hj=>?_⟩,by simp only [Hl];omega⟩
  by_cases e2:j=i
  ·subst e2;exact e
  ·exact hh j (by omega)
 ·have:i=n:=by omega
  subst this
  exact hK1 rfl hh
theorem Vg{xs:List Int}(s:SlF h A xs){i:Nat}(hi:i<xs.length):∃ x,A=some x/\h.cell? (Addr.add x (i*1))=some (I xs[i]):=by
 obtain ⟨x,e,hc⟩:=SlF.at (by decide) s hi
 have:=hc 0 _ rfl
 rw [Jx] at this
 exact ⟨x,e,this⟩
theorem A2q{xs ys:List Int}(x:SlF h A xs)(y:SlF h B ys)(hn:n=xs.length)(hm:m=ys.length)(hb:n<=1000000000)(hK1:xs=ys->K (.bool true) h)(hK0:xs≠ys->K (.bool false) h):FCall Tryz.prog A06 #[.slice A n a,.slice B m b] h K:=by
 refine A9f _ _ _ _ _ _ ?_
 unfold B4v
 refine K7 (fun e=>hK0 fun hx=>e (by rw [hn,hm,hx])) (fun e=>?_)
 have e:n=m:=by omega
 subst e
 refine ⟨fun L hp=>∃ i:Nat,i<=n/\L=[I (i:Int)]/\hp=h/\∀ j,j<i->xs[j]? = ys[j]?,fun L _=>n-(iAt L 0).toNat,⟨0,by omega,rfl,rfl,fun j hj=>by omega⟩,?_⟩
 rintro z hp ⟨i,hi,eL,rfl,hh⟩
 obtain rfl:z=(i:Int):=by simpa using eL
 refine B7 (fun hlt=>?_) (fun hge=>?_)
 ·have h1:i<xs.length:=by omega
  have h2:i<ys.length:=by omega
  obtain ⟨u,rfl,hc⟩:=Vg x h1
  obtain ⟨v,rfl,hd⟩:=Vg y h2
  refine ⟨u,rfl,by omega,by omega,_,hc,v,rfl,by omega,by omega,_,hd,?_⟩
  refine K7 (fun e=>hK0 fun hx=>e (by simp only [hx])) (fun e=>?_)
  rw [show B4 ((i:Int)+1)=((i+1:Nat):Int) by rw [B6]<;>omega]
  refine ⟨⟨i+1,by omega,rfl,rfl,fun j hj=>?_⟩,by simp only [Hl];omega⟩
  by_cases e2:j=i
  ·subst e2;rw [List.getElem?_eq_getElem h1,List.getElem?_eq_getElem h2,e]
  ·exact hh j (by omega)
 ·have:i=n:=by omega
  subst this
  refine hK1 (List.ext_getElem? fun j=>?_)
  by_cases hj:j<i
  ·exact hh j hj
  ·rw [List.getElem?_eq_none (by omega),List.getElem?_eq_none (by omega)]
theorem Rb(x:RowV SSr h A n ls)(y:RowV SSr h B m ls2)(hn:n<=1000000000)(hK1:r=r2->c=c2->n=m->(∀ i,i<n->ls i=ls2 i)->K (.bool true) h)(hK0:¬ (r=r2/\c=c2/\n=m/\∀ i,i<n->ls i=ls2 i)->K (.bool false) h):FCall Tryz.prog Ht #[No r c A n a,No r2 c2 B m b] h K:=by
 refine Yj _ _ _ _ _ _ _ _ _ _ ?_
 unfold Yk
 refine E9 (fun e1=>E9 (fun e2=>?_) (fun e=>hK0 fun hx=>e hx.2.1)) (fun e=>hK0 fun hx=>e hx.1)
 exact Jh x y hn (fun h1 h2=>⟨_,rfl,hK1 e1 e2 h1 h2⟩) (fun hx=>⟨_,rfl,hK0 fun hy=>hx hy.2.2⟩)
structure Small (r c:Int) (n:Nat) (ls:Nat->List UInt8) (k d:Int):Prop where
 hr:r<=k
 hc:c<=k
 hn:(n:Int)<=k*k+2
 hl:∀ i,i<n->((ls i).length:Int)<=d
theorem A01{k d:Int}(x:RowV SSr h A n ls)(hk:0<=k/\k<=1000)(hK1:Small r c n ls k d->K (.bool true) h)(hK0:¬ Small r c n ls k d->K (.bool false) h):FCall Tryz.prog Bi #[No r c A n a,I k,I d] h K:=by
 refine Qs _ _ _ _ _ _ _ ?_
 unfold Mo
 have hkk:k*k<=1000*1000:=Int.mul_le_mul hk.2 hk.2 hk.1 (by omega)
 have hkk0:0<=k*k:=Int.mul_nonneg hk.1 hk.1
 have e1:B4 (k*k)=k*k:=B6 (by omega) (by omega)
 have e2:B4 (k*k+2)=k*k+2:=B6 (by omega) (by omega)
 rw [e1,e2]
 refine B7 (fun h1=>B7 (fun h2=>B7 (fun h3=>?_) (fun e=>hK0 fun x=>e x.hn)) (fun e=>hK0 fun x=>e x.hc)) (fun e=>hK0 fun x=>e x.hr)
 exact A02 x (by omega) (fun hx=>⟨_,rfl,hK1 ⟨h1,h2,h3,hx⟩⟩) (fun hx=>⟨_,rfl,hK0 fun y=>hx y.hl⟩)
theorem Zz(x:RowV SSr h A n ls)(hK1:Small r c n ls 6 12->K (.bool true) h)(hK0:¬ Small r c n ls 6 12->K (.bool false) h):FCall Tryz.prog Un #[No r c A n a] h K:=by
 refine A74 _ _ _ _ _ ?_
 unfold B0r
 exact A01 x (by omega) (fun hx=>⟨_,rfl,hK1 hx⟩) (fun hx=>⟨_,rfl,hK0 hx⟩)
end
theorem A1f(ls:List (List UInt8)):(ls.flatMap fun l=>[Value.string (bs l)])=ls.map fun l=>Value.string (bs l):=by
 induction ls with
 | nil=>rfl
 | cons x l ih=>rw [List.flatMap_cons,ih];rfl
theorem Ek{h:Heap}{A:Option Addr}{ls:List (List UInt8)}(s:SlV h A (ls.map fun l=>Value.string (bs l))):RowV SSr h A ls.length (fun i=>ls.getD i []):=by
 refine ⟨ls,?_,rfl,fun i hi=>⟨ls[i],List.getElem?_eq_getElem hi,?_⟩⟩
 ·show SlV h A (ls.flatMap fun l=>[Value.string (bs l)])
  rw [A1f];exact s
 ·show ls[i]=ls.getD i []
  simp [hi]
theorem Tm(l:List Rat):rvs (fun i=>(l.map N2).getD i [])=fun i=>l.getD i 0:=by
 funext i
 show rv ((l.map N2).getD i [])=_
 by_cases hi:i<l.length
 ·rw [List.getD_eq_getElem?_getD,List.getD_eq_getElem?_getD,List.getElem?_map,List.getElem?_eq_getElem hi]
  exact It _
 ·rw [List.getD_eq_getElem?_getD,List.getD_eq_getElem?_getD,List.getElem?_map,List.getElem?_eq_none (by omega)]
  exact A9l (by rintro ⟨q,hq⟩;exact absurd hq.symm (by
   have:=A40 q
   obtain ⟨c,r,e,_⟩:=this
   rw [e];simp))
theorem B2w:N2 1=[49]:=by
 have:N7 1=[49]:=by decide +kernel
 simp [N2,Oh,this]
theorem B3a:N2 2=[50]:=by
 have:N7 2=[50]:=by decide +kernel
 have h1:(2:Rat).den=1:=by decide +kernel
 have h2:(2:Rat).num=2:=by decide +kernel
 simp [N2,Oh,this,h1,h2]
theorem B6q:N2 3=[51]:=by
 have:N7 3=[51]:=by decide +kernel
 have h1:(3:Rat).den=1:=by decide +kernel
 have h2:(3:Rat).num=3:=by decide +kernel
 simp [N2,Oh,this,h1,h2]
theorem B51:N2 4=[52]:=by
 have:N7 4=[52]:=by decide +kernel
 have h1:(4:Rat).den=1:=by decide +kernel
 have h2:(4:Rat).num=4:=by decide +kernel
 simp [N2,Oh,this,h1,h2]
theorem B5o:N2 (-2)=[45,50]:=by
 have:N7 2=[50]:=by decide +kernel
 have h1:(-2:Rat).den=1:=by decide +kernel
 have h2:(-2:Rat).num= -2:=by decide +kernel
 simp [N2,Oh,this,h1,h2]
theorem aw1:(elE (fun i=>([2,4,1,2]:List Rat).getD i 0) 2 2 2).cs=[0]:=by decide +kernel
theorem aw2:∀ k,k<4->B1e (fun i=>([2,4,1,2]:List Rat).getD i 0) 2 2 k=([1,2,0,0]:List Rat).getD k 0:=by decide +kernel
theorem aw3:A2w (fun i=>([1,2,3,4]:List Rat).getD i 0) 2= -2:=by decide +kernel
theorem A31{h:Heap}{K:Value->Heap->Prop}(gl:Gl h)(hK:∀ h',h.le h'->K (.bool true) h'):FCall Tryz.prog Ba #[] h K:=by
 refine A75 ?_
 unfold B0s
 have sz:∀ (ls:List (List UInt8)),(∀ x∈ls,x.length<=1)->∀ i,i<ls.length->(ls.getD i []).length<=1:=by
  intro ls h i hi
  rw [List.getD_eq_getElem?_getD,List.getElem?_eq_getElem hi]
  exact h _ (List.getElem_mem hi)
 refine A00 Ax (ls:=[2,4,1,2].map N2) rfl (by simp) (by rw [show ([2,4,1,2]:List Rat).map N2=[[50],[52],[49],[50]] by simp [B2w,B3a,B51]];rfl) ?_
 intro b1 h1 l1 s1
 have r1:=Ek s1
 have z1:=sz (([2,4,1,2]:List Rat).map N2) (by simp [B2w,B3a,B51])
 refine ⟨_,_,_,rfl,?_⟩
 have hb:∀ rows cols,MOk 2 2 4 (fun i=>(([2,4,1,2]:List Rat).map N2).getD i []) rows cols->2*(3^cols*bnd cols 4)+1<=40000000:=by
  intro rows cols mk
  have:=mk.ec
  have:cols=2:=by omega
  subst this
  decide
 refine Wp (m:=4) (gl.mono l1) r1 (by simp) (fun i hi=>Nat.le_trans (z1 i hi) (by omega)) (fun i hi=>B1c (k:=1) (z1 i hi) (by omega)) hb ?_ ?_
 ·intro rows cols mk b2 h2 A' cap' own
  have e1:=mk.er;have e2:=mk.ec
  have:rows=2:=by omega
  subst this
  have:cols=2:=by omega
  subst this
  have lo:=own.le
  have so:=own.strs
  have io:=own.ints
  rw [Tm] at so io
  rw [aw1] at io
  refine ⟨_,_,_,_,_,_,_,_,_,rfl,?_⟩
  rw [Tm,aw1]
  refine A00 Ax (ls:=[1,2,3,4].map N2) rfl (by simp) (by rw [show ([1,2,3,4]:List Rat).map N2=[[49],[50],[51],[52]] by simp [B2w,B3a,B6q,B51]];rfl) ?_
  intro b3 h3 l3 s3
  have r3:=Ek s3
  have z3:=sz (([1,2,3,4]:List Rat).map N2) (by simp [B2w,B3a,B6q,B51])
  refine ⟨_,_,_,rfl,?_⟩
  have l13:=A0 l1 (A0 lo l3)
  have num3:Mx 2 2 4 (fun i=>(([1,2,3,4]:List Rat).map N2).getD i []):=by
   refine Qq.2 ⟨⟨by omega,by omega,by omega,by omega,by omega⟩,fun i hi=>?_⟩
   have hi':i<([1,2,3,4]:List Rat).length:=hi
   exact ⟨([1,2,3,4]:List Rat)[i],by rw [List.getD_eq_getElem?_getD,List.getElem?_map,List.getElem?_eq_getElem hi'];rfl⟩
  refine Wq (m:=4) (gl.mono l13) r3 (by simp) (fun i hi=>Nat.le_trans (z3 i hi) (by omega)) (fun i hi=>B1c (k:=1) (z3 i hi) (by omega)) ?_ ?_ (fun _ e=>absurd rfl e) (fun hno=>absurd num3 hno)
  ·intro rows cols mk
   have:=mk.ec
   have:cols=2:=by omega
   subst this
   decide
  ·intro q mk h4 l4
   have:q=2:=by have:=mk.er;omega
   subst this
   rw [Tm,aw3]
   refine ⟨_,_,rfl,E9 (fun _=>?_) (fun e=>absurd rfl e)⟩
   refine A00 Ax (ls:=[1,2,0,0].map N2) rfl (by simp) (by rw [show ([1,2,0,0]:List Rat).map N2=[[49],[50],[48],[48]] by simp [B2w,B3a,In]];rfl) ?_
   intro b5 h5 l5 s5
   have r5:=Ek s5
   refine ⟨_,_,_,rfl,?_⟩
   have l25:=A0 l3 (A0 l4 l5)
   refine Jh (so.mono Bh l25) r5 (by simp) (fun _ _=>⟨_,rfl,?_⟩) (fun hno=>absurd ⟨rfl,fun i hi=>?_⟩ hno)
   ·refine Ag B18 rfl ?_
    intro b6 h6
    refine ⟨_,_,_,rfl,?_⟩
    have l6:=Heap.le_put (.cells #[I (0:Int)] F1) h6
    refine A2q (io.1.mono (A0 l25 l6)) (A0f F1 h5 b6 ([0]:List Int)) rfl rfl (by simp) (fun _=>⟨_,rfl,?_⟩) (fun hno=>absurd rfl hno)
    have:(ByteArray.toList (bs (N2 (-2)))==ByteArray.toList ({ data:=#[45,50] }:ByteArray))=true:=by
     rw [B5o]
     exact (Pu _ _).trans (by decide)
    rw [this]
    have:=hK _ (A0 l13 (A0 l4 (A0 l5 l6)))
    exact this
   ·show N2 (B1e (fun i=>([2,4,1,2]:List Rat).getD i 0) 2 2 i)=(([1,2,0,0]:List Rat).map N2).getD i []
    have hi':i<([1,2,0,0]:List Rat).length:=hi
    rw [aw2 i hi,List.getD_eq_getElem?_getD,List.getD_eq_getElem?_getD,List.getElem?_map,List.getElem?_eq_getElem hi']
    rfl
 ·intro hno
  exfalso
  refine hno (Qq.2 ⟨⟨by omega,by omega,by omega,by omega,by simp⟩,fun i hi=>?_⟩)
  have hi':i<([2,4,1,2]:List Rat).length:=hi
  exact ⟨([2,4,1,2]:List Rat)[i],by rw [List.getD_eq_getElem?_getD,List.getElem?_map,List.getElem?_eq_getElem hi'];rfl⟩
def A5a(cs:List Nat):Nat->List Nat
 | 0=>[]
 | c+1=>if c∈cs then A5a cs c else A5a cs c++[c]
def Id(cs:List Nat):Nat->Nat
 | 0=>0
 | c+1=>if c∈cs then Id cs c+1 else Id cs c
theorem A2s(cs:List Nat):∀ c,(A5a cs c).length+Id cs c=c:=by
 intro c
 induction c with
 | zero=>rfl
 | succ c ih=>
  show (if c∈cs then A5a cs c else A5a cs c++[c]).length+(if c∈cs then Id cs c+1 else Id cs c)=c+1
  split
  ·omega
  ·rw [List.length_append];simp only [List.length_cons,List.length_nil];omega
theorem A1p{cs:List Nat}(h:cs.Pairwise (· < ·)):∀ c,Id cs c<=cs.length/\(∀ i (hi:i<cs.length),i<Id cs c->cs[i]<c)/\(∀ i (hi:i<cs.length),Id cs c<=i->c<=cs[i]):=by
 intro c
 induction c with
 | zero=>exact ⟨Nat.zero_le _,fun i hi h=>absurd h (Nat.not_lt_zero _),fun _ _ _=>Nat.zero_le _⟩
 | succ c ih=>
  obtain ⟨h1,h2,h3⟩:=ih
  have pw:=List.pairwise_iff_getElem.1 h
  unfold Id
  split
  ·rename_i hc
   obtain ⟨k,hk,e⟩:=List.getElem_of_mem hc
   have:Id cs c<=k:=Nat.not_lt.1 fun hx=>by have:=h2 k hk hx;omega
   have e2:k=Id cs c:=Nat.le_antisymm (Nat.not_lt.1 fun hx=>by
    have hp:Id cs c<cs.length:=by omega
    have:=pw (Id cs c) k hp hk hx
    have:=h3 (Id cs c) hp (Nat.le_refl _)
    omega) this
   refine ⟨by omega,fun i hi hx=>?_,fun i hi hx=>?_⟩
   ·by_cases e3:i=k
    ·subst e3;omega
    ·have:=h2 i hi (by omega);omega
   ·have:=pw k i hk hi (by omega);omega
  ·rename_i hc
   refine ⟨h1,fun i hi hx=>by have:=h2 i hi hx;omega,fun i hi hx=>?_⟩
   have:=h3 i hi hx
   have:cs[i]≠c:=fun e=>hc (e▸List.getElem_mem hi)
   omega
theorem A8e{cs:List Nat}{c:Nat}(h:Asc cs c):Id cs c=cs.length:=by
 obtain ⟨h1,h2,h3⟩:=A1p h.asc c
 refine Nat.le_antisymm h1 (Nat.not_lt.1 fun hx=>?_)
 have:=h3 _ hx (Nat.le_refl _)
 have:=h.lt _ (List.getElem_mem hx)
 omega
theorem B1n{cs:List Nat}(h:cs.Pairwise (· < ·))(c:Nat):c∈cs ↔ ∃ hk:Id cs c<cs.length,cs[Id cs c]=c:=by
 obtain ⟨h1,h2,h3⟩:=A1p h c
 constructor
 ·intro hc
  obtain ⟨k,hk,e⟩:=List.getElem_of_mem hc
  have a:Id cs c<=k:=Nat.not_lt.1 fun hx=>by have:=h2 k hk hx;omega
  have hp:Id cs c<cs.length:=by omega
  refine ⟨hp,Nat.le_antisymm ?_ (h3 _ hp (Nat.le_refl _))⟩
  rcases Nat.lt_or_ge (Id cs c) k with hx|hx
  ·have:=List.pairwise_iff_getElem.1 h _ _ hp hk hx;omega
  ·have:Id cs c=k:=by omega
   subst this;omega
 ·rintro ⟨hk,e⟩
  rw [<- e];exact List.getElem_mem hk
section
variable {h:Heap} {K:Value->Heap->Prop} {A B:Option Addr} {n cap m:Nat} {r c:Int} {ls:Nat->List UInt8}
theorem Ov{E:Nat->Rat}{rows cols:Nat}(hs:∀ i,i<rows*cols->Sz m (E i)):∀ i j,i<rows->j<cols->Sz m (mtx E cols i j):=fun _ _ hi hj=>hs _ (K9 hi hj)
end
theorem A8d{cs:List Nat}{c:Nat}(h:c∉cs):Id cs (c+1)=Id cs c:=if_neg h
section
variable {h:Heap} {K:Value->Heap->Prop} {A:Option Addr} {n cap m w:Nat} {r c:Int} {ls:Nat->List UInt8} {M:Nat->Nat->Rat}
end
section
variable {h:Heap} {K:Value->Heap->Prop} {A:Option Addr} {n cap m w:Nat} {r c:Int} {ls:Nat->List UInt8} {R:Nat->Nat->Rat}
theorem Lm{α:Type}[E:Enc α]{o:Heap}{b:Nat}{e:TypeId}{c:Nat}{zx:α}:OwnSl (o.put b (.cells ((List.replicate c zx).flatMap enc).toArray e)) e (some ⟨b,0,none⟩) c ([]:List α):=
 ⟨Nat.zero_le _,.inr ⟨b,_,rfl,B9 _ _ _,by rw [J3,List.length_replicate],by simp⟩⟩
def OwnS(h h':Heap)(A:Option Addr)(c n:Nat)(f:Nat->List UInt8):Prop:=∃ g o xs,h.le g/\Sep h' g o/\OwnSl o E5 A c xs/\xs.length=n/\Row SSr g xs n f
theorem OwnS.le{h h':Heap}{c n:Nat}{f:Nat->List UInt8}(w:OwnS h h' A c n f):h.le h':=by
 obtain ⟨g,o,xs,lg,s,_⟩:=w
 exact A0 lg s.le
theorem OwnS.vis{h h':Heap}{c n:Nat}{f:Nat->List UInt8}(w:OwnS h h' A c n f):RowV SSr h' A n f:=by
 obtain ⟨g,o,xs,lg,s,ow,e,q⟩:=w
 exact ⟨xs,ow.slF s.ole,e,q.mono Bh s.le⟩
theorem OwnS.weak{h0 h h':Heap}{c n:Nat}{f:Nat->List UInt8}(l:h0.le h)(w:OwnS h h' A c n f):OwnS h0 h' A c n f:=by
 obtain ⟨g,o,xs,lg,x⟩:=w
 exact ⟨g,o,xs,A0 l lg,x⟩
end
theorem Br.nt{X Y:Prop}(y:Y):Br (!true) X Y:=y
theorem Yo{X Y:Prop}(x:X):Br (!false) X Y:=x
theorem RowX.qcells{o:Heap}{b:Nat}{ys:List QV}(r:RowX o b ys){i:Nat}(hi:i<ys.length):o.cell? (Addr.add (Addr.add ⟨b,0,none⟩ (i*4)) 0)=some (.bool ys[i].s)/\o.cell? (Addr.add (Addr.add ⟨b,0,none⟩ (i*4)) 1)=some (.slice ys[i].A ys[i].n ys[i].c)/\o.cell? (Addr.add (Addr.add ⟨b,0,none⟩ (i*4)) 2)=some (.bool ys[i].s2)/\o.cell? (Addr.add (Addr.add ⟨b,0,none⟩ (i*4)) 3)=some (.slice ys[i].A2 ys[i].n2 ys[i].c2):=by
 obtain ⟨x,e,hc⟩:=SlF.at (by decide) (r.rowB.slF (B3 o)) hi
 simp only [Option.some.injEq] at e
 subst e
 exact ⟨hc 0 _ rfl,hc 1 _ rfl,hc 2 _ rfl,hc 3 _ rfl⟩
structure MOut where
 r:Int
 c:Int
 n:Nat
 f:Nat->List UInt8
 e:Int
def noM(e:Int):MOut:=⟨0,0,0,fun _=>[],e⟩
def CombO(r c:Int)(n:Nat)(la:Nat->List UInt8)(r2 c2:Int)(n2:Nat)(lb:Nat->List UInt8)(q:Rat)(o:MOut):Prop:=
 (¬ (Mx r c n la/\Mx r2 c2 n2 lb)/\o=noM 1)\/(Mx r c n la/\Mx r2 c2 n2 lb/\(r≠r2\/c≠c2)/\o=noM 4)\/(Mx r c n la/\Mx r2 c2 n2 lb/\r=r2/\c=c2/\o=⟨r,c,n,fun k=>N2 (rv (la k)+q*rv (lb k)),0⟩)
theorem CombO.eq{r c r2 c2:Int}{n n2:Nat}{la lb:Nat->List UInt8}{q:Rat}{o p:MOut}(x:CombO r c n la r2 c2 n2 lb q o)(y:CombO r c n la r2 c2 n2 lb q p):o=p:=by
 rcases x with ⟨h1,rfl⟩|⟨h1,h2,h3,rfl⟩|⟨h1,h2,h3,h4,rfl⟩<;>rcases y with ⟨g1,rfl⟩|⟨g1,g2,g3,rfl⟩|⟨g1,g2,g3,g4,rfl⟩<;>first|rfl|(exfalso;exact h1 ⟨g1,g2⟩)|(exfalso;exact g1 ⟨h1,h2⟩)|(exfalso;omega)
def ScalO(s:List UInt8)(r c:Int)(n:Nat)(la:Nat->List UInt8)(o:MOut):Prop:=
 (¬ (IsNum s/\Mx r c n la)/\o=noM 1)\/(IsNum s/\Mx r c n la/\o=⟨r,c,n,fun k=>N2 (rv s*rv (la k)),0⟩)
theorem ScalO.eq{s:List UInt8}{r c:Int}{n:Nat}{la:Nat->List UInt8}{o p:MOut}(x:ScalO s r c n la o)(y:ScalO s r c n la p):o=p:=by
 rcases x with ⟨h1,rfl⟩|⟨h1,h2,rfl⟩<;>rcases y with ⟨g1,rfl⟩|⟨g1,g2,rfl⟩<;>first|rfl|(exfalso;exact h1 ⟨g1,g2⟩)|(exfalso;exact g1 ⟨h1,h2⟩)
section
variable {h:Heap} {K:Value->Heap->Prop} {A B:Option Addr} {n n2 cap cap2 m w:Nat} {r c r2 c2:Int} {la lb:Nat->List UInt8}
end
section
variable {h:Heap} {K:Value->Heap->Prop} {A B:Option Addr} {n n2 cap cap2 m:Nat} {r c r2 c2:Int} {la lb:Nat->List UInt8} {w:QV} {q:Rat}
end
def inM(bo:Nat)(rb:Nat->Nat)(n x:Nat):Prop:=x=bo\/∃ i,i<n/\x=rb i
structure Lu3 (h g o:Heap) (bu:Nat) (ru:Nat->Nat) (bl:Nat) (rl:Nat->Nat) (bp n:Nat) (U L:Nat->Nat->Rat) (p:Nat->Nat):Prop where
 u:Mt h g o bu ru n n U
 l:Mt h g o bl rl n n L
 p:∃ ps:List Int,RowB o bp ps/\ps.length=n/\∀ i,i<n->ps[i]? = some ((p i:Nat):Int)
 ul:∀ x,inM bu ru n x->¬ inM bl rl n x
 pu:¬ inM bu ru n bp
 pl:¬ inM bl rl n bp
section
variable {h g o:Heap} {bu bl bp n:Nat} {ru rl:Nat->Nat} {U L:Nat->Nat->Rat} {p:Nat->Nat}
theorem RowB.ko{α:Type}[E:Enc α]{o o':Heap}{b:Nat}{xs:List α}(r:RowB o b xs)(h:o' b=o b):RowB o' b xs:=by
 obtain ⟨e,ex,hb⟩:=r
 exact ⟨e,ex,by rw [h];exact hb⟩
end
structure LOut where
 d:Int
 n:Nat
 q:Nat
 p:Nat->Nat
 l:Nat->List UInt8
 u:Nat->List UInt8
 e:Int
def noL(e:Int):LOut:=⟨0,0,0,fun i=>i,fun _=>[],fun _=>[],e⟩
def luL(E:Nat->Rat)(q:Nat):LUS:=T5 q (mtx E q) q
def LuO(r c:Int)(n:Nat)(la:Nat->List UInt8)(o:LOut):Prop:=
 (¬ Mx r c n la/\o=noL 1)\/(Mx r c n la/\r≠c/\o=noL 4)\/(∃ q,MOk r c n la q q/\((B2q q (mtx (rvs la) q)/\o=⟨r,q*q,q,(luL (rvs la) q).p,U4 (luL (rvs la) q).L q,U4 (luL (rvs la) q).R q,0⟩)\/(¬ B2q q (mtx (rvs la) q)/\o=noL 7)))
def Qz(R L:Nat->Nat->Rat)(c i:Nat):Nat->Nat->Rat:=fun a b=>if b=c/\(a=c\/(c<a/\a<i)) then Ab R L c a b else L a b
theorem Zj(R L:Nat->Nat->Rat)(c:Nat){a b:Nat}:A3w L c c 1 a b=Qz R L c (c+1) a b:=by
 unfold A3w Qz
 by_cases h:a=c/\b=c
 ·rw [if_pos h,if_pos ⟨h.2,.inl h.1⟩]
  unfold Ab
  rw [if_pos h.2,if_pos h.1]
 ·rw [if_neg h,if_neg (by omega)]
theorem A2d(R L:Nat->Nat->Rat){c i a b:Nat}(hi:c<i):A3w (Qz R L c i) i c (R i c/R c c) a b=Qz R L c (i+1) a b:=by
 unfold A3w Qz
 by_cases h:a=i/\b=c
 ·rw [if_pos h,if_pos ⟨h.2,.inr ⟨by omega,by omega⟩⟩,h.1,h.2]
  unfold Ab
  rw [if_pos rfl,if_neg (by omega),if_pos hi]
 ·rw [if_neg h]
  by_cases h2:b=c/\(a=c\/(c<a/\a<i))
  ·rw [if_pos h2,if_pos (by omega)]
  ·rw [if_neg h2,if_neg (by omega)]
theorem A4i(R L:Nat->Nat->Rat){c n a b:Nat}(ha:a<n)(hz:∀ i,i<c->L i c=0):Qz R L c n a b=Ab R L c a b:=by
 unfold Qz
 by_cases h:b=c/\(a=c\/(c<a/\a<n))
 ·rw [if_pos h]
 ·rw [if_neg h]
  unfold Ab
  by_cases e:b=c
  ·subst e
   rw [if_pos rfl,if_neg (by omega),if_neg (by omega)]
   exact hz a (by omega)
  ·rw [if_neg e]
section
variable {h:Heap} {K:Value->Heap->Prop} {A:Option Addr} {n cap m:Nat} {r c:Int} {la:Nat->List UInt8}
end
section
variable {α β:Type} {R:Heap->α->β->Prop} {g:Heap}
theorem Row.app{xs ys:List α}{f:Nat->β}{p q:Nat}(hp:xs.length=p)(r:Row R g xs p f)(r2:Row R g ys q (fun j=>f (p+j))):Row R g (xs++ys) (p+q) f:=fun i hi=>by
 by_cases h:i<p
 ·obtain ⟨w,e,x⟩:=r i h
  exact ⟨w,by rw [List.getElem?_append_left (by omega)];exact e,x⟩
 ·obtain ⟨w,e,x⟩:=r2 (i-p) (by omega)
  refine ⟨w,by rw [List.getElem?_append_right (by omega),hp];exact e,?_⟩
  have e2:p+(i-p)=i:=by omega
  show R g w (f i)
  rw [<- e2];exact x
end
section
variable {h:Heap} {K:Value->Heap->Prop} {A:Option Addr} {n cap m:Nat} {r c:Int} {ls:Nat->List UInt8}
theorem Oi{z:Int}(hz: -9223372036854775808<=z/\z<=9223372036854775807)(hK:∀ w h',h.le h'->RQ h' w (z:Rat)->K w.v h'):FCall Tryz.prog Nq #[I z] h K:=by
 refine A6o _ ?_
 unfold B0j
 exact Bn hz.1 hz.2 fun s1 A1 n1 c1 h' l i=>⟨_,_,_,_,rfl,hK _ h' l (Tn i)⟩
end
def QM(g o:Heap)(b n:Nat)(L:Nat->Nat->Rat):Prop:=∃ xs:List QV,RowX o b xs/\xs.length=n*n/\∀ i j,i<n->j<n->∃ w,xs[i*n+j]? = some w/\RQ g w (L i j)
def inT(T:Tb)(x:Nat):Prop:=x=T.bt\/x=T.bE\/x=T.bS
section
variable {g o:Heap} {b n:Nat} {L:Nat->Nat->Rat}
theorem QM.ko(q:QM g o b n L){g' o':Heap}(l:g.le g')(e:o' b=o b):QM g' o' b n L:=by
 obtain ⟨xs,r,h1,h2⟩:=q
 refine ⟨xs,r.keep fun x hx=>by rw [e];exact hx,h1,fun i j hi hj=>?_⟩
 obtain ⟨w,e1,hw⟩:=h2 i j hi hj
 exact ⟨w,e1,K3 _ _ _ _ l hw⟩
theorem QM.congr(q:QM g o b n L){L':Nat->Nat->Rat}(e:∀ i j,i<n->j<n->L i j=L' i j):QM g o b n L':=by
 obtain ⟨xs,r,h1,h2⟩:=q
 refine ⟨xs,r,h1,fun i j hi hj=>?_⟩
 obtain ⟨w,e1,hw⟩:=h2 i j hi hj
 exact ⟨w,e1,by rw [<- e i j hi hj];exact hw⟩
theorem QM.at(q:QM g o b n L){i j:Nat}(hi:i<n)(hj:j<n):∃ w:QV,RQ g w (L i j)/\o.cell? (Addr.add (Addr.add ⟨b,0,none⟩ ((i*n+j)*4)) 0)=some (.bool w.s)/\o.cell? (Addr.add (Addr.add ⟨b,0,none⟩ ((i*n+j)*4)) 1)=some (.slice w.A w.n w.c)/\o.cell? (Addr.add (Addr.add ⟨b,0,none⟩ ((i*n+j)*4)) 2)=some (.bool w.s2)/\o.cell? (Addr.add (Addr.add ⟨b,0,none⟩ ((i*n+j)*4)) 3)=some (.slice w.A2 w.n2 w.c2):=by
 obtain ⟨xs,r,h1,h2⟩:=q
 obtain ⟨w,e1,hw⟩:=h2 i j hi hj
 have hlt:i*n+j<xs.length:=by rw [h1];exact K9 hi hj
 obtain ⟨c0,c1,c2,c3⟩:=r.qcells hlt
 rw [List.getElem?_eq_getElem hlt] at e1
 rw [Option.some.inj e1] at c0 c1 c2 c3
 exact ⟨w,hw,c0,c1,c2,c3⟩
theorem QM.store(q:QM g o b n L){h:Heap}(s:Sep h g o){i j:Nat}(hi:i<n)(hj:j<n){w:QV}{z:Rat}(hw:RQ g w z){K:Unit->Heap->Prop}
 (k:∀ h' o',Sep h' g o'->QM g o' b n (A3w L i j z)->(∀ y,y≠b->o' y=o y)->K () h'):wpH Tryz.prog (Instr.storeAt E6 (.pointer (some (Addr.add ⟨b,0,none⟩ ((i*n+j)*4)))) w.v) K h:=by
 obtain ⟨xs,r,h1,h2⟩:=q
 have hlt:i*n+j<xs.length:=by rw [h1];exact K9 hi hj
 refine Z8 Iq (y:=w) rfl s r (i:=i*n+j) hlt ?_
 intro h' o' x' eo s' r'
 refine k h' o' s' ⟨_,r',by rw [List.length_set];exact h1,fun a b' ha hb=>?_⟩ (fun y hy=>by rw [eo,B5 _ _ hy])
 by_cases e:a=i/\b'=j
 ·obtain ⟨rfl,rfl⟩:=e
  exact ⟨w,by rw [List.getElem?_set_self hlt],by unfold A3w;rw [if_pos ⟨rfl,rfl⟩];exact hw⟩
 ·obtain ⟨v,e1,hv⟩:=h2 a b' ha hb
  refine ⟨v,?_,by unfold A3w;rw [if_neg e];exact hv⟩
  rw [List.getElem?_set_ne (fun x=>e (A56 hb hj x.symm))]
  exact e1
end
structure LuT (h g o:Heap) (T:Tb) (M:Nat->Nat->Int) (S:Nat->Rat) (bp bl bu n:Nat) (p:Nat->Nat) (L U:Nat->Nat->Rat):Prop where
 t:Tab h g o T M S
 p:∃ ps:List Int,RowB o bp ps/\ps.length=n/\∀ i,i<n->ps[i]? = some ((p i:Nat):Int)
 l:QM g o bl n L
 u:QM g o bu n U
 tp:¬ inT T bp
 tl:¬ inT T bl
 tu:¬ inT T bu
 pl:bp≠bl
 pu:bp≠bu
 lu:bl≠bu
section
variable {h g o:Heap} {T:Tb} {M:Nat->Nat->Int} {S:Nat->Rat} {bp bl bu n:Nat} {p:Nat->Nat} {L U:Nat->Nat->Rat}
theorem LuT.next(X:LuT h g o T M S bp bl bu n p L U){h' g':Heap}(s:Sep h' g' o)(l:g.le g'):LuT h' g' o T M S bp bl bu n p L U:=⟨X.t.next s l,X.p,X.l.ko l rfl,X.u.ko l rfl,X.tp,X.tl,X.tu,X.pl,X.pu,X.lu⟩
theorem LuT.congr(X:LuT h g o T M S bp bl bu n p L U){L' U':Nat->Nat->Rat}(e1:∀ i j,i<n->j<n->L i j=L' i j)(e2:∀ i j,i<n->j<n->U i j=U' i j):LuT h g o T M S bp bl bu n p L' U':=⟨X.t,X.p,X.l.congr e1,X.u.congr e2,X.tp,X.tl,X.tu,X.pl,X.pu,X.lu⟩
theorem LuT.sym(X:LuT h g o T M S bp bl bu n p L U):LuT h g o T M S bp bu bl n p U L:=⟨X.t,X.p,X.u,X.l,X.tp,X.tu,X.tl,X.pu,X.pl,X.lu.symm⟩
theorem LuT.tab(X:LuT h g o T M S bp bl bu n p L U){h' g' o':Heap}{M':Nat->Nat->Int}{S':Nat->Rat}(t':Tab h' g' o' T M' S')(l:g.le g')(ko:∀ b,¬ inT T b->o' b=o b):LuT h' g' o' T M' S' bp bl bu n p L U:=by
 obtain ⟨ps,r1,r2,r3⟩:=X.p
 exact ⟨t',⟨ps,r1.ko (ko _ X.tp),r2,r3⟩,X.l.ko l (ko _ X.tl),X.u.ko l (ko _ X.tu),X.tp,X.tl,X.tu,X.pl,X.pu,X.lu⟩
theorem Tab.off(t:Tab h g o T M S){h' o':Heap}(s:Sep h' g o'){b:Nat}(hb:¬ inT T b)(ko:∀ y,y≠b->o' y=o y):Tab h' g o' T M S:=t.keep s (B3 _) (fun k x e hk=>by rw [ko k (fun e2=>hb (e2▸hk))];exact e)
theorem LuT.storeL(X:LuT h g o T M S bp bl bu n p L U){i j:Nat}(hi:i<n)(hj:j<n){w:QV}{z:Rat}(hw:RQ g w z){K:Unit->Heap->Prop}
 (k:∀ h' o',LuT h' g o' T M S bp bl bu n p (A3w L i j z) U->K () h'):wpH Tryz.prog (Instr.storeAt E6 (.pointer (some (Addr.add ⟨bl,0,none⟩ ((i*n+j)*4)))) w.v) K h:=by
 refine X.l.store X.t.sep hi hj hw ?_
 intro h' o' s' q ko
 obtain ⟨ps,r1,r2,r3⟩:=X.p
 exact k h' o' ⟨X.t.off s' X.tl ko,⟨ps,r1.ko (ko _ X.pl),r2,r3⟩,q,X.u.ko (B3 _) (ko _ X.lu.symm),X.tp,X.tl,X.tu,X.pl,X.pu,X.lu⟩
theorem LuT.storeU(X:LuT h g o T M S bp bl bu n p L U){i j:Nat}(hi:i<n)(hj:j<n){w:QV}{z:Rat}(hw:RQ g w z){K:Unit->Heap->Prop}
 (k:∀ h' o',LuT h' g o' T M S bp bl bu n p L (A3w U i j z)->K () h'):wpH Tryz.prog (Instr.storeAt E6 (.pointer (some (Addr.add ⟨bu,0,none⟩ ((i*n+j)*4)))) w.v) K h:=by
 refine X.sym.storeL hi hj hw ?_
 intro h' o' X'
 exact k h' o' X'.sym
theorem LuT.pat(X:LuT h g o T M S bp bl bu n p L U){i:Nat}(hi:i<n):h.cell? (Addr.add ⟨bp,0,none⟩ (i*1))=some (I ((p i:Nat):Int)):=by
 obtain ⟨ps,r1,r2,r3⟩:=X.p
 obtain ⟨x,e,hc⟩:=Vg (r1.slF X.t.sep.ole) (i:=i) (by omega)
 simp only [Option.some.injEq] at e
 subst e
 have h1:=r3 i hi
 rw [List.getElem?_eq_getElem (by omega)] at h1
 rw [hc,Option.some.inj h1]
theorem LuT.storeP(X:LuT h g o T M S bp bl bu n p L U){i v:Nat}(hi:i<n){K:Unit->Heap->Prop}
 (k:∀ h' o',LuT h' g o' T M S bp bl bu n (fun a=>if a=i then v else p a) L U->K () h'):wpH Tryz.prog (Instr.storeAt F1 (.pointer (some (Addr.add ⟨bp,0,none⟩ (i*1)))) (I (v:Int))) K h:=by
 obtain ⟨ps,r1,r2,r3⟩:=X.p
 rw [D3,Nat.zero_add]
 refine Sep.store (E:=inferInstanceAs (Enc Int)) Wb (v:=I (v:Int)) (y:=(v:Int)) rfl X.t.sep r1 (i:=i) (by omega) rfl ?_
 intro h' o' x' eo s' r'
 have hb:∀ y,y≠bp->o' y=o y:=fun y hy=>by rw [eo,B5 _ _ hy]
 refine k h' o' ⟨X.t.off s' X.tp hb,⟨_,r',by rw [List.length_set];exact r2,fun a ha=>?_⟩,X.l.ko (B3 _) (hb _ X.pl.symm),X.u.ko (B3 _) (hb _ X.pu.symm),X.tp,X.tl,X.tu,X.pl,X.pu,X.lu⟩
 by_cases e:a=i
 ·subst e
  rw [List.getElem?_set_self (by omega)]
  show _=some (((if a=a then v else p a:Nat)):Int)
  rw [if_pos rfl]
 ·rw [List.getElem?_set_ne (fun x=>e x.symm),r3 a ha]
  show _=some (((if a=i then v else p a:Nat)):Int)
  rw [if_neg e]
theorem LuT.init(t:Tab h g o T M S)(rp:∃ ps:List Int,RowB o bp ps/\ps.length=n/\∀ i,i<n->ps[i]? = some ((p i:Nat):Int))(tp:¬ inT T bp){b1 b2:Nat}{e1 e2:TypeId}(h1:h b1=none)(h2:(h.put b1 (.cells ((List.replicate (n*n) At).flatMap enc).toArray e1)) b2=none):
 ∃ o',LuT ((h.put b1 (.cells ((List.replicate (n*n) At).flatMap enc).toArray e1)).put b2 (.cells ((List.replicate (n*n) At).flatMap enc).toArray e2)) g o' T M S bp b1 b2 n p (fun _ _=>0) (fun _ _=>0):=by
 have s1:=t.sep.new h1 (.cells ((List.replicate (n*n) At).flatMap enc).toArray e1)
 have s2:=s1.new h2 (.cells ((List.replicate (n*n) At).flatMap enc).toArray e2)
 have n12:b2≠b1:=by rintro rfl;rw [B9] at h2;cases h2
 have h2':h b2=none:=by rw [B5 _ _ n12] at h2;exact h2
 have fr:∀ {k x b},o k=some x->h b=none->k≠b:=by
  rintro k x b e hb rfl
  rw [t.sep.own k x e] at hb;cases hb
 obtain ⟨⟨y1,z1⟩,⟨y2,z2⟩,⟨y3,z3⟩⟩:=t.own
 have nT:∀ {b},h b=none->¬ inT T b:=by
  intro b hb hx
  rcases hx with rfl|rfl|rfl
  ·exact fr z1 hb rfl
  ·exact fr z2 hb rfl
  ·exact fr z3 hb rfl
 obtain ⟨ps,⟨e,ex,hp⟩,r2,r3⟩:=rp
 have np1:bp≠b1:=fr hp h1
 have np2:bp≠b2:=fr hp h2'
 have q0:∀ {o':Heap} {b:Nat},RowX o' b (List.replicate (n*n) At)->QM g o' b n (fun _ _=>0):=fun r=>⟨_,r,List.length_replicate,fun i j hi hj=>⟨At,by rw [List.getElem?_replicate,if_pos (K9 hi hj)],RQ.zero⟩⟩
 refine ⟨_,t.keep s2 (B3 _) (fun k x e _=>by rw [B5 _ _ (fr e h2'),B5 _ _ (fr e h1)];exact e),⟨ps,⟨e,ex,by rw [B5 _ _ np2,B5 _ _ np1];exact hp⟩,r2,r3⟩,q0 (RowX.mk.other n12.symm _),q0 RowX.mk,tp,nT h1,nT h2',np1,np2,n12.symm⟩
end
end Go.Proofs.YthilnfgnpdeofaaGreatDoor
