/-
  Texts of this proof, merged by a program of ours.
-/
import Derived.Test.YtajkakhfcokljaaGreatDoorG32
import Derived.Test.YtajkakhfcokljaaGreatDoorG33
import Derived.Test.YtajkakhfcokljaaGreatDoorG22
import Derived.Test.YtajkakhfcokljaaGreatDoorG30
import Derived.Deep.Strs
open Go.Proofs.Tryz
set_option linter.all false
namespace Go.Proofs.YtajkakhfcokljaaGreatDoor
set_option maxRecDepth 20000
open Go
section
variable {h g o:Heap} {be:Nat} {T:Tb} {M:Nat->Nat->Int} {S:Nat->Rat} {n k m sc:Nat} {w:IV} {z:Int} {L D:Value} {K:VP}
end
section
variable {h:Heap} {K:VP} {A:Option Addr} {n cap m:Nat} {r c:Int} {ls:Nat->List UInt8} {E:Nat->Rat}
end
end Go.Proofs.YtajkakhfcokljaaGreatDoor
namespace Go.Proofs.YtajkakhfcokljaaGreatDoor
set_option maxRecDepth 20000
section
variable {h:Heap} {lA cA tA:Option Addr} {ln lc cn cc tn tc:Nat} {ls cs ts:Nat->List UInt8}
end
def B81(r c:Int)(n:Nat)(ls:Nat->List UInt8)(r2 c2:Int)(n2:Nat)(ls2:Nat->List UInt8)(dn:Nat)(ds:Nat->List UInt8):Prop:=
 ∃ q,ExpK r2 c2 n2 ls2 dn ds q/\r=q/\c=q/\n=q*q/\(∀ t,t<q*q->Pj (B1p q (mtx (rvs ls2) q) (rvs ds)) q t=ls t)/\∀ i,i<dn->0<=rv (ds i)
section
variable {h:Heap} {K:VP} {A B A2 lA cA:Option Addr} {n n2 dn cap cap2 cap3 m d ln lc cn cc:Nat} {r c r2 c2:Int} {ls ls2 ds cs:Nat->List UInt8}
theorem A2s(x:RowV SSr h A n ls)(y:RowV SSr h B n2 ls2)(hn:n<=1000000000)(hK1:n=n2->(∀ i,i<n->ls i=ls2 i)->K (.bool true) h)(hK0:¬ (n=n2/\∀ i,i<n->ls i=ls2 i)->K (.bool false) h):FCall prog Xx #[.slice A n cap,.slice B n2 cap2] h K:=by
 refine B15 _ _ _ _ _ _ ?_
 unfold B5h
 refine H1 (fun e=>hK0 fun hx=>e (by omega)) (fun e=>?_)
 obtain rfl:n=n2:=by omega
 refine ⟨fun L hp=>∃ i:Nat,i<=n/\L=[I (i:Int)]/\hp=h/\∀ j,j<i->ls j=ls2 j,fun L _=>n-(iAt L 0).toNat,⟨0,by omega,rfl,rfl,fun j hj=>by omega⟩,?_⟩
 rintro z hp ⟨i,hi,eL,rfl,hh⟩
 obtain rfl:=sI1 eL
 refine B6 (fun hlt=>?_) (fun hge=>hK1 rfl fun j hj=>hh j (by omega))
 have hin:i<n:=by omega
 obtain ⟨u,eu,hu⟩:=x.sat hin
 obtain ⟨v,ev,hv⟩:=y.sat hin
 refine ⟨u,eu,by omega,by omega,_,hu,v,ev,by omega,by omega,_,hv,?_⟩
 rw [Gn]
 refine O5 (B6 (fun e=>?_) (fun e=>hK0 fun hx=>e (hx.2 i hin)))
 rw [wiS i (by omega)]
 refine ⟨⟨i+1,by omega,rfl,rfl,fun j hj=>?_⟩,by simp only [Eu];omega⟩
 by_cases c:j=i
 ·rw [c];exact e
 ·exact hh j (by omega)
theorem A37(gl:Gl h)(rm:RowV SSr h A n ls)(rl:RowV SSr h A2 n2 ls2)(rd:RowV SSr h B dn ds)(hn2:n2<=1000000)(hdn:dn<=1000000)(hl2:∀ i,i<n2->(ls2 i).length<=100000000)(hld:∀ i,i<dn->(ds i).length<=100000000)(hs:∀ i,i<n2->Sz m (rv (ls2 i)))(hs2:∀ i,i<dn->Sz m (rv (ds i)))(hm1:1<=m)(hd:∀ q,MOk r2 c2 n2 ls2 q q->q<=d)(hm:2*(1+d*(4*m+1)+4*m)+14<=40000000)
 (hK1:B81 r c n ls r2 c2 n2 ls2 dn ds->∀ h',h.le h'->K (.bool true) h') (hK0:¬ B81 r c n ls r2 c2 n2 ls2 dn ds->∀ h',h.le h'->K (.bool false) h'):FCall prog Li #[Jl r c A n cap,.agg #[I r2,I c2,.slice A2 n2 cap2,.slice B dn cap3]] h K:=by
 refine B1h _ _ _ _ _ _ _ _ _ _ _ _ _ ?_
 unfold B5o
 refine Ox (m:=m) (d:=d) gl rl rd hn2 hdn hl2 hld hs hs2 hm1 hd hm ?_
 intro o ho A5 c5 h5 l5 r5
 have hon:=ho.n_le
 refine ⟨_,_,_,_,_,_,rfl,?_⟩
 rcases ho with ⟨x,rfl⟩|⟨_,x,rfl⟩|⟨q,x,rfl⟩
 ·exact H1 (fun _=>hK0 (fun ⟨q,y,_⟩=>x ⟨⟨_,_,y.mok⟩,y.num⟩) h5 l5) (fun e=>absurd e (by decide))
 ·exact H1 (fun _=>hK0 (fun ⟨q,y,_⟩=>x ⟨q,y⟩) h5 l5) (fun e=>absurd e (by decide))
 have no:¬ (r=q/\c=q/\n=q*q/\(∀ t,t<q*q->Pj (B1p q (mtx (rvs ls2) q) (rvs ds)) q t=ls t)/\∀ i,i<dn->0<=rv (ds i))->K (.bool false) h5:=fun hx=>hK0 (fun ⟨q',y,z⟩=>by obtain rfl:=x.uniq y;exact hx z) h5 l5
 refine H1 (fun e=>absurd rfl e) (fun _=>?_)
 refine H1 (fun e=>no fun z=>e z.1.symm) (fun er=>?_)
 refine H1 (fun e=>no fun z=>e z.2.1.symm) (fun ec=>?_)
 refine A2s r5 (rm.mono N4 l5) (by omega) (fun en ht=>⟨_,rfl,Br.nt ?_⟩) (fun hno=>⟨_,rfl,Oc (no fun z=>hno ⟨z.2.2.1.symm,z.2.2.2.1⟩)⟩)
 refine ⟨fun L hp=>∃ i:Nat,i<=dn/\L=[I (i:Int)]/\hp=h5/\∀ j,j<i->0<=rv (ds j),fun L _=>dn-(iAt L 0).toNat,⟨0,by omega,rfl,rfl,fun j hj=>by omega⟩,?_⟩
 rintro z hp ⟨i,hi,eL,rfl,hh⟩
 obtain rfl:=sI1 eL
 refine B6 (fun hlt=>?_) (fun hge=>hK1 ⟨q,x,er.symm,ec.symm,en.symm,ht,fun j hj=>hh j (by omega)⟩ hp l5)
 have hin:i<dn:=by omega
 obtain ⟨u,eu,hu⟩:=(rd.mono N4 l5).sat hin
 refine ⟨u,eu,by omega,by omega,_,hu,A5e (gl.mono l5) (hld i hin) ⟨_,rfl,B6 (fun e=>no fun z=>?_) (fun e=>?_)⟩⟩
 ·have h1:=z.2.2.2.2 i hin
  have h2:=Uw.1 e
  grind
 rw [wiS i (by omega)]
 refine ⟨⟨i+1,by omega,rfl,rfl,fun j hj=>?_⟩,by simp only [Eu];omega⟩
 by_cases c:j=i
 ·rw [c]
  have h2:¬ rv (ds i)<0:=fun x=>e (Uw.2 x)
  grind
 ·exact hh j (by omega)
end
def rgt(q:Nat)(L:Nat->Nat->Rat)(d:Nat->Rat)(i k:Nat):Nat->Nat->Rat:=fun a b=>if (a<i\/(a=i/\b<k))/\a<=b then d a*L b a else 0
def B93(L:Nat->Nat->Rat)(i k:Nat):Prop:=(k=i->L i k=1)/\(i<k->L i k=0)
section
variable {h:Heap} {K:VP} {A B A2:Option Addr} {n n2 dn cap cap2 cap3 m d:Nat} {r c r2 c2:Int} {ls ls2 ds:Nat->List UInt8}
theorem Ok(rl:RowV SSr h A n ls)(rd:RowV SSr h B dn ds)(hn:n<=1000000)(hdn:dn<=1000000)(hl:∀ i,i<n->(ls i).length<=100000000)(hl2:∀ i,i<dn->(ds i).length<=100000000)(hs:∀ i,i<n->Sz m (rv (ls i)))(hs2:∀ i,i<dn->Sz m (rv (ds i)))(hm1:1<=m)(hd:∀ q,MOk r c n ls q q->q<=d)(hm:1+d*(4*m+1)+4*m<=400000000)
 (hK:∀ o,ExpO r c n ls dn ds o->∀ A' cap' h',h.le h'->RowV SSr h' A' o.n o.f->K (.tuple #[Jl o.r o.c A' o.n cap',I o.e]) h'):FCall prog Lb #[.agg #[I r,I c,.slice A n cap,.slice B dn cap2]] h K:=by
 refine A6w _ _ _ _ _ _ _ _ ?_
 unfold B1a
 have bad:¬ (Mx r c n ls/\∀ i,i<dn->IsNum (ds i))->∀ h',h.le h'->K (.tuple #[Jl 0 0 none 0 0,I 1]) h':=fun hx h' l=>hK (noM 1) (.inl ⟨hx,rfl⟩) none 0 h' l RowV.nil
 refine A60 rl hn hl (fun rows cols mk b1 h1 l1 rs=>?_) (fun hno h1 l1=>⟨_,_,_,_,rfl,Ra (rd.mono N4 l1) hdn hl2 (fun _ b2 h2 own2=>⟨_,_,_,_,rfl,Oc (bad (fun x=>hno x.1) h2 (B0 l1 own2.le))⟩) (fun _ h2 l2=>⟨_,_,_,_,rfl,Oc (bad (fun x=>hno x.1) h2 (B0 l1 l2))⟩)⟩)
 refine ⟨_,_,_,_,rfl,Ra (rd.mono N4 l1) hdn hl2 ?_ (fun hno h2 l2=>⟨_,_,_,_,rfl,Br.nt (Oc (bad (fun x=>hno x.2) h2 (B0 l1 l2)))⟩)⟩
 intro hnum b2 h2 own2
 refine ⟨_,_,_,_,rfl,Br.nt (Br.nt ?_)⟩
 have l02:=B0 l1 own2.le
 have rs2:=rs.mono own2.le
 have ov:=own2.vis Nd
 have bad4:(¬ ∃ q,ExpK r c n ls dn ds q)->∀ h',h2.le h'->K (.tuple #[Jl 0 0 none 0 0,I 4]) h':=fun hx h' l=>hK (noM 4) (.inr (.inl ⟨⟨⟨_,_,mk⟩,hnum⟩,hx,rfl⟩)) none 0 h' (B0 l02 l) RowV.nil
 have er:=mk.er
 have ec:=mk.ec
 refine H1 (fun e=>bad4 (fun ⟨q,x⟩=>e (by have:=x.mok.er;have:=x.mok.ec;omega)) h2 (B4 _)) (fun e1=>H1 (fun e=>bad4 (fun ⟨q,x⟩=>e (by have:=x.mok.er;have:=x.dn;omega)) h2 (B4 _)) (fun e2=>?_))
 obtain rfl:rows=cols:=by omega
 obtain rfl:dn=rows:=by omega
 have q64:=mk.r2
 have q1:=mk.r1
 have hqd:=hd dn mk
 have elOf:∀ q,ExpK r c n ls dn ds q->∀ i k,i<dn->k<dn->B93 (mtx (rvs ls) dn) i k:=fun q x i k hi hk=>by
  have e:=x.dn
  subst e
  exact ⟨fun e=>by rw [e];exact (x.low i hi).1,fun e=>(x.low i hi).2 k e hk⟩
 have ms:∀ i j,i<dn->j<dn->Sz m (mtx (rvs ls) dn i j):=fun i j hi hj=>hs _ (by rw [mk.len];exact K9 hi hj)
 have ew:∀ {j:Nat},j<dn->B5 ((j:Int)+1)=((j+1:Nat):Int):=fun {j} hj=>by rw [B7]<;>omega
 refine Ro (by omega) (by omega) ?_
 intro h3 g3 o3 bo rb l3 t3
 refine ⟨_,_,_,rfl,fun L hp=>∃ (i:Nat) (g o:Heap),i<=dn/\L=[I (i:Int),I 0,I 0,.slice none 0 0]/\h2.le g/\Mt hp g o bo rb dn dn (rgt dn (mtx (rvs ls) dn) (rvs ds) i 0)/\∀ a b,a<i->b<dn->B93 (mtx (rvs ls) dn) a b,fun L _=>dn-(iAt L 0).toNat,⟨0,g3,o3,by omega,rfl,l3,t3.congr fun a b _ _=>by unfold rgt;rw [if_neg (by omega)],fun a b ha=>by omega⟩,?_⟩
 clear t3 l3
 rintro z0 z1 z2 zA zn zc hp ⟨i,g,o,hi,eL,lg,t,hlow⟩
 simp only [List.cons.injEq,Value.int.injEq,Value.slice.injEq,true_and,and_true] at eL
 obtain ⟨rfl,rfl,rfl,rfl,rfl,rfl⟩:=eL
 refine B6 (fun hlt=>?_) (fun hge=>?_)
 rotate_left
 ·obtain rfl:i=dn:=by omega
  have rr:RowsV hp (some ⟨bo,0,none⟩) i i (fun a b=>if a<=b then rvs ds a*mtx (rvs ls) i b a else 0):=t.rowsV.congr fun a b ha _=>by
   unfold rgt
   by_cases e:a<=b
   ·rw [if_pos ⟨.inl ha,e⟩,if_pos e]
   ·rw [if_neg (fun x=>e x.2),if_neg e]
  have lhp:=B0 lg t.sep.le
  have zr:∀ a b,a<i->b<i->Sz (2*m) (if a<=b then rvs ds a*mtx (rvs ls) i b a else 0):=fun a b ha hb=>by
   split
   ·exact ((hs2 a ha).mul (ms b a hb ha)).mono (by omega)
   ·exact Sz.zero (by omega)
  have hda:i*(4*m+1)<=d*(4*m+1):=Nat.mul_le_mul_right _ hqd
  have low:C1o i (mtx (rvs ls) i):=fun a ha=>⟨(hlow a a ha ha).1 rfl,fun b h1 h2=>(hlow a b ha h2).2 h1⟩
  refine A2v (m:=2*m) (rs2.mono lhp) rr q1 (by omega) q1 (by omega) q1 (by omega) (fun a b ha hb=>(ms a b ha hb).mono (by omega)) zr (by rw [show 2*(2*m)=4*m by omega];omega) ?_
  intro b5 h5 l5 r5
  refine ⟨_,_,_,rfl,?_⟩
  have ent:∀ a b,a<i->b<i->(sm i fun t=>mtx (rvs ls) i a t*(if t<=b then rvs ds t*mtx (rvs ls) i b t else 0))=B1p i (mtx (rvs ls) i) (rvs ds) a b:=fun a b _ hb=>I7 fun t ht=>by
   by_cases e:t<=b
   ·rw [if_pos e,Rat.mul_assoc]
   ·rw [if_neg e,(low b hb).2 t (by omega) ht,Rat.mul_zero,Rat.mul_zero]
  refine A61 (m:=1+i*(2*m+m+1)) (r5.congr ent) (by omega) q1 (by omega) q1 (fun a b ha hb=>B6t ms hs2 ha hb) ?_ ?_
  ·have h1:i*(2*m+m+1)<=i*(4*m+1):=Nat.mul_le_mul_left _ (by omega)
   omega
  intro A6 c6 h6 l6 _ r6
  exact ⟨_,_,_,_,_,rfl,hK ⟨(i:Int),(i:Int),i*i,Pj (B1p i (mtx (rvs ls) i) (rvs ds)) i,0⟩ (.inr (.inr ⟨i,⟨mk,hnum,rfl,low⟩,rfl⟩)) A6 c6 h6 (B0 l02 (B0 lhp (B0 l5 l6))) r6⟩
 have hin:i<dn:=by omega
 refine ⟨fun L hy=>∃ (k:Nat) (g o:Heap),i<=k/\k<=dn/\L=[I (k:Int),I 0,I 0,.slice none 0 0]/\h2.le g/\Mt hy g o bo rb dn dn (rgt dn (mtx (rvs ls) dn) (rvs ds) i k)/\∀ b,i<=b->b<k->B93 (mtx (rvs ls) dn) i b,fun L _=>dn-(iAt L 0).toNat,⟨i,g,o,Nat.le_refl _,hi,rfl,lg,t.congr fun a b _ _=>?_,fun b h1 h2=>by omega⟩,?_⟩
 ·unfold rgt
  by_cases e:(a<i\/(a=i/\b<0))/\a<=b
  ·rw [if_pos e,if_pos (by omega)]
  ·rw [if_neg e,if_neg (by omega)]
 clear t lg
 rintro y0 y1 y2 yA yn yc hy ⟨k,g,o,hk1,hk2,eL,lg,t,hel⟩
 simp only [List.cons.injEq,Value.int.injEq,Value.slice.injEq,true_and,and_true] at eL
 obtain ⟨rfl,rfl,rfl,rfl,rfl,rfl⟩:=eL
 refine B6 (fun hlt2=>?_) (fun hge2=>?_)
 rotate_left
 ·obtain rfl:k=dn:=by omega
  rw [ew hin]
  refine ⟨⟨i+1,g,o,by omega,rfl,lg,t.congr fun a b _ hb=>?_,fun a b ha hb=>?_⟩,by simp only [Eu];omega⟩
  ·unfold rgt
   by_cases e:(a<i\/(a=i/\b<k))/\a<=b
   ·rw [if_pos e,if_pos (by omega)]
   ·rw [if_neg e,if_neg (by omega)]
  ·by_cases e:a=i
   ·rw [e]
    by_cases e2:i<=b
    ·exact hel b e2 hb
    ·exact ⟨fun x=>by omega,fun x=>by omega⟩
   ·exact hlow a b (by omega) hb
 have hkn:k<dn:=by omega
 have ly:=B0 lg t.sep.le
 refine ⟨fun L hq=>∃ (b:Bool) (g o:Heap),L=[.bool b]/\(b=true->¬ B93 (mtx (rvs ls) dn) i k)/\(b=false->B93 (mtx (rvs ls) dn) i k)/\h2.le g/\Mt hq g o bo rb dn dn (rgt dn (mtx (rvs ls) dn) (rvs ds) i k),?_,?_⟩
 ·obtain ⟨a1,s1,e1',f1,f2,hc1,row⟩:=(rs2.mono ly).at hin
  obtain ⟨a2,w,e2',iw,c0,c1,c2,c3⟩:=row.qat hkn
  refine D9 (fun eki=>?_) (fun eki=>?_)
  ·refine ⟨a1,e1',by omega,by omega,_,_,_,hc1,a2,e2',by omega,by omega,_,_,_,_,_,_,_,_,c0,c1,c2,c3,?_⟩
   refine t.sep.call (B8j ⟨by decide,by decide⟩ ?_)
   intro w1 g1 l1' i1 h1' s1'
   refine ⟨_,_,_,_,_,_,_,_,rfl,t.sep.le_le s1' l1',?_⟩
   have e11:((1:Int):Rat)=1:=rfl
   rw [e11] at i1
   refine A7z (m:=m) (NQ.mono (t.sep.le_le s1' l1') iw) (NQ.mono s1'.le i1) (ms i k hin hkn) (B0i.mono hm1) (by omega) ⟨_,rfl,B4 _,H1 (fun e=>?_) (fun e=>?_)⟩
   ·refine ⟨true,g1,o,rfl,fun _ x=>e ?_,(fun e=>by cases e),B0 lg l1',t.next s1' l1'⟩
    rw [x.1 (by omega),Rat.sub_eq_add_neg,Rat.add_neg_cancel]
    rfl
   ·refine B6 (fun e3=>by omega) (fun _=>⟨false,g1,o,rfl,(fun e=>by cases e),(fun _=>⟨fun _=>?_,fun e3=>by omega⟩),B0 lg l1',t.next s1' l1'⟩)
    have e4:=Int.sign_eq_zero_iff_zero.1 e
    have e5:=Rat.num_eq_zero.1 e4
    grind
  ·refine B6 (fun e3=>?_) (fun e3=>by omega)
   refine ⟨a1,e1',by omega,by omega,_,_,_,hc1,a2,e2',by omega,by omega,_,_,_,_,_,_,_,_,c0,c1,c2,c3,?_⟩
   refine Hm iw ⟨_,rfl,B4 _,?_⟩
   refine ⟨_,g,o,rfl,fun e x=>?_,fun e=>⟨fun x=>by omega,fun _=>?_⟩,lg,t⟩
   ·have e4:=bne_iff_ne.1 e
    rw [x.2 (by omega)] at e4
    exact e4 rfl
   ·have e4:(mtx (rvs ls) dn i k).num.sign=0:=by simpa using e
    exact Rat.num_eq_zero.1 (Int.sign_eq_zero_iff_zero.1 e4)
 clear t lg ly
 rintro bb hq ⟨b,g,o,eL,hb1,hb0,lg,t⟩
 obtain rfl:bb=b:=by simpa using eL
 have lq:=B0 lg t.sep.le
 refine Br.of (fun e=>bad4 (fun ⟨q,x⟩=>hb1 e (elOf q x i k hin hkn)) hq lq) (fun e=>?_)
 have hok:=hb0 e
 obtain ⟨ch,hch,hh⟩:=t.head hin
 obtain ⟨a2,w,e2',iw,c0,c1,c2,c3⟩:=(ov.mono Nd lg).qat hin
 obtain ⟨a1,s1,e1',f1,f2,hc1,row⟩:=(rs2.mono lg).at hkn
 obtain ⟨a3,u,e3',iu,d0,d1,d2,d3⟩:=row.qat hin
 have cl:=fun {a:Addr} {v:Value} (x:g.cell? a=some v)=>B9 t.sep.le x
 refine ⟨_,rfl,by omega,by omega,_,_,_,t.sep.cell hh,a2,e2',by omega,by omega,_,_,_,_,_,_,_,_,cl c0,cl c1,cl c2,cl c3,a1,e1',by omega,by omega,_,_,_,cl hc1,a3,e3',by omega,by omega,_,_,_,_,_,_,_,_,cl d0,cl d1,cl d2,cl d3,?_⟩
 refine t.sep.call (A03 (m:=m) iw iu (hs2 i hin) (ms k i hkn hin) (by omega) ?_)
 intro w9 g9 l9 i9 h9 s9
 refine ⟨_,_,_,_,_,_,_,_,rfl,t.sep.le_le s9 l9,_,rfl,by omega,by omega,?_⟩
 refine (t.next s9 l9).store hin hkn i9 ?_
 intro h10 o10 t10 _
 rw [ew hkn]
 refine ⟨⟨k+1,g9,o10,by omega,by omega,rfl,B0 lg l9,t10.congr fun a b _ _=>?_,fun b h1 h2=>?_⟩,by simp only [Eu];omega⟩
 ·unfold B7q rgt
  try dsimp only
  by_cases e1:a=i/\b=k
  ·rw [if_pos e1,e1.1,e1.2,if_pos (by omega)]
  ·rw [if_neg e1]
   by_cases e2:(a<i\/(a=i/\b<k))/\a<=b
   ·rw [if_pos e2,if_pos (by omega)]
   ·rw [if_neg e2,if_neg (by omega)]
 ·by_cases e4:b=k
  ·rw [e4];exact hok
  ·exact hel b h1 (by omega)
theorem A2u(rm:RowV SSr h A n ls)(rl:RowV SSr h A2 n2 ls2)(rd:RowV SSr h B dn ds)(hn2:n2<=1000000)(hdn:dn<=1000000)(hl2:∀ i,i<n2->(ls2 i).length<=100000000)(hld:∀ i,i<dn->(ds i).length<=100000000)(hs:∀ i,i<n2->Sz m (rv (ls2 i)))(hs2:∀ i,i<dn->Sz m (rv (ds i)))(hm1:1<=m)(hd:∀ q,MOk r2 c2 n2 ls2 q q->q<=d)(hm:1+d*(4*m+1)+4*m<=400000000)
 (hK1:B81 r c n ls r2 c2 n2 ls2 dn ds->∀ h',h.le h'->K (.bool true) h') (hK0:¬ B81 r c n ls r2 c2 n2 ls2 dn ds->∀ h',h.le h'->K (.bool false) h'):FCall prog Lc #[Jl r c A n cap,.agg #[I r2,I c2,.slice A2 n2 cap2,.slice B dn cap3]] h K:=by
 refine B1b _ _ _ _ _ _ _ _ _ _ _ _ _ ?_
 unfold B5l
 refine Ok (m:=m) (d:=d) rl rd hn2 hdn hl2 hld hs hs2 hm1 hd hm ?_
 intro o ho A5 c5 h5 l5 r5
 have hon:=ho.n_le
 refine ⟨_,_,_,_,_,_,rfl,?_⟩
 rcases ho with ⟨x,rfl⟩|⟨_,x,rfl⟩|⟨q,x,rfl⟩
 ·exact H1 (fun _=>hK0 (fun ⟨q,y,_⟩=>x ⟨⟨_,_,y.mok⟩,y.num⟩) h5 l5) (fun e=>absurd e (by decide))
 ·exact H1 (fun _=>hK0 (fun ⟨q,y,_⟩=>x ⟨q,y⟩) h5 l5) (fun e=>absurd e (by decide))
 have no:¬ (r=q/\c=q/\n=q*q/\(∀ t,t<q*q->Pj (B1p q (mtx (rvs ls2) q) (rvs ds)) q t=ls t)/\∀ i,i<dn->0<=rv (ds i))->∀ h',h.le h'->K (.bool false) h':=fun hx=>hK0 (fun ⟨q',y,z⟩=>by obtain rfl:=x.uniq y;exact hx z)
 refine H1 (fun e=>absurd rfl e) (fun _=>?_)
 refine H1 (fun e=>no (fun z=>e z.1.symm) h5 l5) (fun er=>?_)
 refine H1 (fun e=>no (fun z=>e z.2.1.symm) h5 l5) (fun ec=>?_)
 refine H1 (fun e=>no (fun z=>e (by show ((q*q:Nat):Int)=n;rw [z.2.2.1])) h5 l5) (fun en0=>?_)
 have en:q*q=n:=by have:((q*q:Nat):Int)=n:=en0;omega
 subst en
 have rm5:=rm.mono N4 l5
 refine ⟨fun L hp=>∃ i:Nat,i<=q*q/\L=[I (i:Int)]/\hp=h5/\∀ j,j<i->Pj (B1p q (mtx (rvs ls2) q) (rvs ds)) q j=ls j,fun L _=>q*q-(iAt L 0).toNat,⟨0,by omega,rfl,rfl,fun j hj=>by omega⟩,?_⟩
 rintro z hp ⟨i,hi,eL,rfl,hh⟩
 obtain rfl:=sI1 eL
 show Br (decide ((i:Int)<((q*q:Nat):Int))) _ _
 have hqq:q*q<=4096:=hon
 refine B6 (fun hlt=>?_) (fun hge=>?_)
 ·have hin:i<q*q:=by omega
  obtain ⟨u,eu,hu⟩:=r5.sat hin
  obtain ⟨v,ev,hv⟩:=rm5.sat hin
  refine ⟨u,eu,by omega,by show (i:Int)<((q*q:Nat):Int);omega,_,hu,v,ev,by omega,by omega,_,hv,?_⟩
  rw [Gn]
  refine O5 (B6 (fun e=>?_) (fun e=>no (fun z=>e (z.2.2.2.1 i hin)) hp l5))
  rw [wiS i (by omega)]
  refine ⟨⟨i+1,by omega,rfl,rfl,fun j hj=>?_⟩,by simp only [Eu];omega⟩
  by_cases c:j=i
  ·rw [c];exact e
  ·exact hh j (by omega)
 have ht:∀ t,t<q*q->Pj (B1p q (mtx (rvs ls2) q) (rvs ds)) q t=ls t:=fun t ht=>hh t (by omega)
 refine ⟨fun L hx=>∃ i:Nat,i<=dn/\L=[I (i:Int)]/\hp.le hx/\∀ j,j<i->0<=rv (ds j),fun L _=>dn-(iAt L 0).toNat,⟨0,by omega,rfl,B4 _,fun j hj=>by omega⟩,?_⟩
 rintro z hx ⟨k,hk,eL,lx,hh2⟩
 obtain rfl:=sI1 eL
 have l0x:=B0 l5 lx
 refine B6 (fun hlt=>?_) (fun hge=>hK1 ⟨q,x,er.symm,ec.symm,rfl,ht,fun j hj=>hh2 j (by omega)⟩ hx l0x)
 have hin:k<dn:=by omega
 obtain ⟨u,eu,hu⟩:=(rd.mono N4 l0x).sat hin
 refine ⟨u,eu,by omega,by omega,_,hu,B2m (by have:=hld k hin;omega) ?_⟩
 intro w h6 l6 iw
 refine ⟨_,_,_,_,_,_,_,_,rfl,Hm iw ⟨_,rfl,B6 (fun e=>no (fun z=>?_) h6 (B0 l0x l6)) (fun e=>?_)⟩⟩
 ·have h1:=z.2.2.2.2 k hin
  have h2:=Uw.1 e
  grind
 rw [wiS k (by omega)]
 refine ⟨⟨k+1,by omega,rfl,B0 lx l6,fun j hj=>?_⟩,by simp only [Eu];omega⟩
 by_cases c:j=k
 ·rw [c]
  have h2:¬ rv (ds k)<0:=fun x=>e (Uw.2 x)
  grind
 ·exact hh2 j (by omega)
end
section
variable {h:Heap} {A A2 B:Option Addr} {n n2 dn cap cap2 cap3:Nat} {r c r2 c2:Int} {ls ls2 ds:Nat->List UInt8}
theorem law_ldlExpand(gl:Gl h)(rm:RowV SSr h A n ls)(rl:RowV SSr h A2 n2 ls2)(rd:RowV SSr h B dn ds):FCall prog Ou #[Jl r c A n cap,.agg #[I r2,I c2,.slice A2 n2 cap2,.slice B dn cap3]] h (C0k h):=by
 refine Zb _ _ _ _ _ _ _ _ _ _ _ _ _ ?_
 unfold Wb
 have aw0:FCall prog W4 #[] h (fun r hp=>∃ t,r= .bool t/\C0k h (.bool t) hp):=Sm gl fun h'' l''=>⟨_,rfl,rfl,l''⟩
 have aw:∀ h',h.le h'->FCall prog W4 #[] h' (fun r hp=>∃ t,r= .bool t/\h'.le hp/\C0k h (.bool t) hp):=fun h' l=>Sm (gl.mono l) fun h'' l''=>⟨_,rfl,l'',rfl,B0 l l''⟩
 refine Rg rm (by omega) (fun sma=>⟨_,rfl,Br.nt ?_⟩) (fun _=>⟨_,rfl,Oc aw0⟩)
 refine Rg rl (by omega) (fun smb=>⟨_,rfl,Br.nt ?_⟩) (fun _=>⟨_,rfl,Oc aw0⟩)
 refine B6 (fun _=>aw0) (fun hdn=>?_)
 refine Rh rd (by omega) (fun hsh=>⟨_,rfl,Br.nt ?_⟩) (fun _=>⟨_,rfl,Oc aw0⟩)
 obtain ⟨hl,hs,hn,hrc⟩:=A7s smb rfl
 have hld:∀ i,i<dn->(ds i).length<=100000000:=fun i hi=>by have:=hsh i hi;omega
 have hsd:∀ i,i<dn->Sz 48 (rv (ds i)):=fun i hi=>B2f (k:=12) (by have:=hsh i hi;omega) (by omega)
 have hd:∀ q,MOk r2 c2 n2 ls2 q q->q<=5:=fun q mk=>(hrc q q mk).1
 refine Ox (m:=48) (d:=5) gl rl rd hn (by omega) hl hld hs hsd (by omega) hd (by omega) ?_
 intro o ho A7 c7 h7 l7 r7
 refine ⟨_,_,_,_,_,_,rfl,?_⟩
 refine Ok (m:=48) (d:=5) (rl.mono N4 l7) (rd.mono N4 l7) hn (by omega) hl hld hs hsd (by omega) hd (by omega) ?_
 intro o' ho' A8 c8 h8 l8 r8
 obtain rfl:=ho.eq ho'
 refine ⟨_,_,_,_,_,_,rfl,?_⟩
 have l08:=B0 l7 l8
 have hon:=ho.n_le
 have r78:=r7.mono N4 l8
 have ck1:∀ {h':Heap} {K:VP} {r c:Int} {A:Option Addr} {n cap:Nat} {ls:Nat->List UInt8},h8.le h'->RowV SSr h8 A n ls->(∀ b:Bool,(b=true↔B81 r c n ls r2 c2 n2 ls2 dn ds)->∀ h'',h'.le h''->K (.bool b) h'')->FCall prog Li #[Jl r c A n cap,.agg #[I r2,I c2,.slice A2 n2 cap2,.slice B dn cap3]] h' K:=fun l rr k=>
  A37 (m:=48) (d:=5) (gl.mono (B0 l08 l)) (rr.mono N4 l) (rl.mono N4 (B0 l08 l)) (rd.mono N4 (B0 l08 l)) hn (by omega) hl hld hs hsd (by omega) hd (by omega) (fun x=>k true ⟨fun _=>x,fun _=>rfl⟩) (fun x=>k false ⟨fun e=>by (cases e),fun y=>absurd y x⟩)
 have ck2:∀ {h':Heap} {K:VP} {r c:Int} {A:Option Addr} {n cap:Nat} {ls:Nat->List UInt8},h8.le h'->RowV SSr h8 A n ls->(∀ b:Bool,(b=true↔B81 r c n ls r2 c2 n2 ls2 dn ds)->∀ h'',h'.le h''->K (.bool b) h'')->FCall prog Lc #[Jl r c A n cap,.agg #[I r2,I c2,.slice A2 n2 cap2,.slice B dn cap3]] h' K:=fun l rr k=>
  A2u (m:=48) (d:=5) (rr.mono N4 l) (rl.mono N4 (B0 l08 l)) (rd.mono N4 (B0 l08 l)) hn (by omega) hl hld hs hsd (by omega) hd (by omega) (fun x=>k true ⟨fun _=>x,fun _=>rfl⟩) (fun x=>k false ⟨fun e=>by (cases e),fun y=>absurd y x⟩)
 refine Tv r78 r8 (by omega) (fun _ _ _ _=>⟨_,rfl,B4 _,Pf (D9 (fun _=>?_) (fun e=>absurd rfl e))⟩) (fun hno=>absurd ⟨rfl,rfl,rfl,fun _ _=>rfl⟩ hno)
 refine ck1 (B4 _) (rm.mono N4 l08) ?_
 intro b1 i1 h9 l9
 refine ⟨_,rfl,l9,ck2 l9 (rm.mono N4 l08) ?_⟩
 intro b2 i2 h10 l10
 obtain rfl:b1=b2:=Bool.eq_iff_iff.2 (i1.trans i2.symm)
 have l810:=B0 l9 l10
 refine ⟨_,rfl,l10,?_⟩
 rw [beq_self_eq_true]
 refine Pf (H1 (fun _=>aw h10 (B0 l08 l810)) (fun _=>?_))
 refine ck1 l810 r78 ?_
 intro b3 i3 h11 l11
 refine ⟨_,rfl,l11,ck2 (B0 l810 l11) r78 ?_⟩
 intro b4 i4 h12 l12
 obtain rfl:b3=b4:=Bool.eq_iff_iff.2 (i3.trans i4.symm)
 refine ⟨_,rfl,l12,?_⟩
 rw [beq_self_eq_true]
 exact Pf (aw h12 (B0 l08 (B0 l810 (B0 l11 l12))))
end
end Go.Proofs.YtajkakhfcokljaaGreatDoor
namespace Go.Proofs.YtajkakhfcokljaaGreatDoor
set_option maxRecDepth 20000
open Go Go.RowKit
theorem B99(s:ByteArray):bs s.data.toList=s:=by
 cases s;simp [bs]
theorem Qy{H:Type}{enc:TypeId × Value->H}{P:Program}{W:World}{base:Nat}{sp:Nat->Bool}{held:Bool}{t e:TypeId}{fuel:Nat}{A:Option Addr}{len cap:Nat}{x:DataW H × List MemPlace}(ht:P.underlying t=some (.slice e))(he:P.underlying e=some .string)(hc:P.cellsOf e=1)
 (hf:DataW.trod enc P W base sp held fuel t [.slice A len cap]=some x):∃ ls:Nat->List UInt8,RowV SSr (memOf W) A len ls/\len<=maxLen:=by
 rcases Deep.open_strs ht he hc hf with ⟨hcs,_⟩|⟨a,l,c,m,Sx,hcs,_,hl,hm,hmm,_,hcell⟩
 ·simp at hcs
  obtain ⟨rfl,rfl,rfl⟩:=hcs
  exact ⟨fun _=>[],RowV.nil,Nat.zero_le _⟩
 ·simp at hcs
  obtain ⟨rfl,rfl,rfl⟩:=hcs
  have hlm:len<=m:=by rw [hmm];split<;>omega
  have sl:SlV (memOf W) (some a) (((List.range len).map fun i=>(Sx i).data.toList).map fun l=>Value.string (bs l)):=by
   refine .inr ⟨a,rfl,fun i v hv=>?_⟩
   rw [List.getElem?_map,List.getElem?_map] at hv
   by_cases hi:i<len
   ·rw [List.getElem?_range hi] at hv
    simp only [Option.map_some,Option.some.injEq,B99] at hv
    rw [<- hv]
    exact Nf (hcell i (by omega)).1
   ·rw [List.getElem?_eq_none (by simpa using hi)] at hv;cases hv
  have:=Fp sl
  rw [List.length_map,List.length_range] at this
  exact ⟨_,this,by omega⟩
theorem open_mat{H:Type}{enc:TypeId × Value->H}{P:Program}{W:World}{base:Nat}{sp:Nat->Bool}{held:Bool}{r:Reach}{b0:Nat}{t e:TypeId}{f0 f1 f2:Field}{v:Value}{d:DataW H}{ps:List MemPlace}(ht:P.underlying t=some (.struct #[f0,f1,f2]))(u0:P.underlying f0.type=some (.int .i64))(u1:P.underlying f1.type=some (.int .i64))(u2:P.underlying f2.type=some (.slice e))(ue:P.underlying e=some .string)
 (hoff:f0.offset=0/\f1.offset=1/\f2.offset=2/\P.cellsOf f0.type=1/\P.cellsOf f1.type=1/\P.cellsOf f2.type=1/\P.cellsOf t=3/\P.cellsOf e=1)
 (hval:Value.okWide P W r b0 t v) (hd:DataW.Trod enc P W base sp held t v d ps):∃ (x y:Int) (A:Option Addr) (len cap:Nat) (ls:Nat->List UInt8),v= .agg #[.int .i64 x,.int .i64 y,.slice A len cap]/\RowV SSr (memOf W) A len ls/\len<=maxLen:=by
 obtain ⟨o0,o1,o2,c0,c1,c2,ct,ce⟩:=hoff
 obtain ⟨cs,rfl,hcs⟩:=WideShapes.okWide_struct ht hval
 obtain ⟨fuel,hf⟩:=hd
 obtain ⟨y0,y1,y2,n,hx,hl,g0,g1,g2⟩:=Deep.trod_struct3 ht hf
 rw [o0,c0] at g0
 rw [o1,c1] at g1
 rw [o2,c2] at g2
 obtain ⟨s0,e0,_,_⟩:=DataW.trod_int u0 g0
 obtain ⟨s1,e1,_,_⟩:=DataW.trod_int u1 g1
 rw [ct] at hcs
 have hlen:cs.toList.length=3:=by simpa using hcs
 obtain ⟨p,q,z,hm⟩:∃ p q z,cs.toList=[p,q,z]:=by
  match h:cs.toList,hlen with
  | [p,q,z],_=>exact ⟨p,q,z,rfl⟩
 simp only [Value.cells] at e0 e1 g2
 rw [hm] at e0 e1 g2
 simp at e0 e1 g2
 have hA:∃ A len cap,z= .slice A len cap:=by
  rcases Deep.open_strs u2 ue ce g2 with ⟨hcs,_⟩|⟨a,l,c,m,Sx,hcs,_⟩
  ·simp at hcs;exact ⟨_,_,_,hcs⟩
  ·simp at hcs;exact ⟨_,_,_,hcs⟩
 obtain ⟨A,len,cap,rfl⟩:=hA
 obtain ⟨ls,hr,hml⟩:=Qy u2 ue ce g2
 have:cs=#[.int .i64 s0,.int .i64 s1,.slice A len cap]:=by rw [<- Array.toArray_toList (xs:=cs),hm,e0,e1]
 exact ⟨s0,s1,A,len,cap,ls,by rw [this],hr,hml⟩
end Go.Proofs.YtajkakhfcokljaaGreatDoor
namespace Go.Proofs.YtajkakhfcokljaaGreatDoor
set_option maxRecDepth 20000
open Go Go.RowKit
theorem open_ldl{H:Type}{enc:TypeId × Value->H}{P:Program}{W:World}{base:Nat}{sp:Nat->Bool}{held:Bool}{r:Reach}{b0:Nat}{t e:TypeId}{g0 g1 f0 f1 f2:Field}{v:Value}{d:DataW H}{ps:List MemPlace}(ht:P.underlying t=some (.struct #[g0,g1]))(hm:P.underlying g0.type=some (.struct #[f0,f1,f2]))(u0:P.underlying f0.type=some (.int .i64))(u1:P.underlying f1.type=some (.int .i64))(u2:P.underlying f2.type=some (.slice e))(u3:P.underlying g1.type=some (.slice e))(ue:P.underlying e=some .string)
 (hoff:(g0.offset=0/\g1.offset=3/\f0.offset=0/\f1.offset=1/\f2.offset=2)/\P.cellsOf f0.type=1/\P.cellsOf f1.type=1/\P.cellsOf f2.type=1/\P.cellsOf g0.type=3/\P.cellsOf g1.type=1/\P.cellsOf t=4/\P.cellsOf e=1)
 (hval:Value.okWide P W r b0 t v) (hd:DataW.Trod enc P W base sp held t v d ps):∃ (x y:Int) (A:Option Addr) (len cap:Nat) (B:Option Addr) (len2 cap2:Nat) (ls ls2:Nat->List UInt8),v= .agg #[.int .i64 x,.int .i64 y,.slice A len cap,.slice B len2 cap2]/\RowV SSr (memOf W) A len ls/\RowV SSr (memOf W) B len2 ls2:=by
 obtain ⟨⟨p0,p1,o0,o1,o2⟩,c0,c1,c2,cm,cd,ct,ce⟩:=hoff
 obtain ⟨cs,rfl,hcs⟩:=WideShapes.okWide_struct ht hval
 obtain ⟨fuel,hf⟩:=hd
 obtain ⟨xs,n,_,hx,hl,hlen,hg⟩:=DataW.trod_struct ht hf
 obtain ⟨a0,a1,rfl⟩:∃ a b,xs=[a,b]:=by
  match xs,hlen with
  | [a,b],_=>exact ⟨a,b,rfl⟩
 have h0:=(show _=some a0 from hg 0 g0 rfl)
 have h1:=(show _=some a1 from hg 1 g1 rfl)
 rw [p0,cm] at h0
 rw [p1,cd] at h1
 obtain ⟨y0,y1,y2,n',hy,hl',k0,k1,k2⟩:=Deep.trod_struct3 hm h0
 rw [o0,c0] at k0
 rw [o1,c1] at k1
 rw [o2,c2] at k2
 obtain ⟨s0,e0,_,_⟩:=DataW.trod_int u0 k0
 obtain ⟨s1,e1,_,_⟩:=DataW.trod_int u1 k1
 rw [ct] at hcs
 have hlen4:cs.toList.length=4:=by simpa using hcs
 obtain ⟨p,q,z,w,hm4⟩:∃ p q z w,cs.toList=[p,q,z,w]:=by
  match h:cs.toList,hlen4 with
  | [p,q,z,w],_=>exact ⟨p,q,z,w,rfl⟩
 simp only [Value.cells] at e0 e1 k2 h1
 rw [hm4] at e0 e1 k2 h1
 simp at e0 e1 k2 h1
 have hA:∃ A len cap,z= .slice A len cap:=by
  rcases Deep.open_strs u2 ue ce k2 with ⟨hcs,_⟩|⟨a,l,c,m,Sx,hcs,_⟩
  ·simp at hcs;exact ⟨_,_,_,hcs⟩
  ·simp at hcs;exact ⟨_,_,_,hcs⟩
 obtain ⟨A,len,cap,rfl⟩:=hA
 have hB:∃ A len cap,w= .slice A len cap:=by
  rcases Deep.open_strs u3 ue ce h1 with ⟨hcs,_⟩|⟨a,l,c,m,Sx,hcs,_⟩
  ·simp at hcs;exact ⟨_,_,_,hcs⟩
  ·simp at hcs;exact ⟨_,_,_,hcs⟩
 obtain ⟨B,len2,cap2,rfl⟩:=hB
 obtain ⟨ls,hr,_⟩:=Qy u2 ue ce k2
 obtain ⟨ls2,hr2,_⟩:=Qy u3 ue ce h1
 have:cs=#[.int .i64 s0,.int .i64 s1,.slice A len cap,.slice B len2 cap2]:=by rw [<- Array.toArray_toList (xs:=cs),hm4,e0,e1]
 exact ⟨s0,s1,A,len,cap,B,len2,cap2,ls,ls2,by rw [this],hr,hr2⟩
end Go.Proofs.YtajkakhfcokljaaGreatDoor
