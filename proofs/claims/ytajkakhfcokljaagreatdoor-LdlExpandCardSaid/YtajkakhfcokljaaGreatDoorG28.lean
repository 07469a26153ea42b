/-
  Texts of this proof, merged by a program of ours.
-/
import Derived.Test.YtajkakhfcokljaaGreatDoorG22
import Derived.Test.YtajkakhfcokljaaGreatDoorG27
import Derived.Test.YtajkakhfcokljaaGreatDoorG26
open Go.Proofs.Tryz
set_option linter.all false
open _root_.Go.Addr renaming add->C34
open Int renaming mul_le_mul_of_nonneg_left->C36,mul_zero->C38,add_zero->C3c,pow_pos->C3d,toNat_natCast->C3e,le_of_lt->C3f
open List renaming length_take->C39,take_of_length_le->C3a,take_append_drop->C3b,eq_nil_of_length_eq_zero->C3g
open List.cons renaming injEq->C37
open _root_.Go.Value.slice renaming injEq->C35
namespace Go.Proofs.YtajkakhfcokljaaGreatDoor
set_option maxRecDepth 20000
open Go
section
variable {h g:Heap} {K:VP} {A B:Option Addr} {s s':Bool} {an ac bn bc m:Nat} {x y:Int}
end
theorem A79(B:Int):∀ {ts:List Int} {k:Nat} (_:k<ts.length) (v:Int),val B (ts.set k v)=val B ts+B^k*(v-ts.getD k 0)
 | [],k,h,v=>by simp at h
 | t::ts,0,h,v=>by simp [val];grind
 | t::ts,k+1,h,v=>by
  have ih:=A79 B (ts:=ts) (k:=k) (by simpa using h) v
  simp only [List.set_cons_succ,val,List.getD_cons_succ,ih,Int.pow_succ]
  grind
section
variable {h g:Heap} {K:VP} {A B:Option Addr} {s s':Bool} {an ac bn bc m:Nat} {x y:Int}
theorem A50{hp:Heap}{n c k:Nat}{ts:List Int}{ca:Int}(p:Pw hp g A n c ts)(hn:n=ts.length)(dt:Dig b64 ts)(hk:k<n)(hca:0<=ca/\ca<18446744073709551616){Q:Int->Heap->Prop}
 (hQ:∀ h' ts',Pw h' g A n c ts'->n=ts'.length->Dig b64 ts'->val b64 ts'+b64^(k+1)*((ts.getD k 0+ca)/18446744073709551616)=val b64 ts+b64^k*ca->Q ((ts.getD k 0+ca)/18446744073709551616) h'):
 ∃ a,A=some a/\0<=(k:Int)/\(k:Int)<((n:Nat):Int)/\∃ (t:Int),Heap.cell? hp (C34 a (((k:Int)).toNat*1))=some (U t)/\ECall prog R2 #[U t,U ca,U (0:Int)] hp (fun r hp1=>∃ (ta tb:Int),r= .tuple #[U ta,U tb]/\∃ a2,A=some a2/\0<=(k:Int)/\(k:Int)<((n:Nat):Int)/\wpH prog (Instr.storeAt C1 (.pointer (some (C34 a2 (((k:Int)).toNat*1)))) (U ta)) (fun _ hp2=>Q tb hp2) hp1):=by
 have hne:ts≠[]:=by rintro rfl;simp at hn;omega
 obtain ⟨b,post,w,hc⟩:=Dj p hne
 have gt:=N0 dt k
 refine w.sl.load hn (by omega) (by omega) ?_
 simp only [C3e]
 refine By gt hca (by omega) ⟨_,_,rfl,?_⟩
 obtain ⟨a,ha,_⟩:=SlV.at w.sl (i:=k) (by simp;omega)
 refine ⟨a,ha,by omega,by omega,w.storeN F2 ha (by omega) ?_⟩
 intro h4 w4
 simp only [C3c] at w4 ⊢
 have p4:=w4.priv (m:=n) (c:=c) (by intro e0;have:=congrArg List.length e0;rw [List.length_set,List.length_nil] at this;exact hne (C3g this)) (by simpa using hc) (by simp;omega)
 rw [C3a (by simp;omega)] at p4
 refine hQ h4 _ p4 (by simpa using hn) (dt.set (Cr _)) ?_
 rw [A79 b64 (by omega),Int.pow_succ]
 have:=Int.mul_ediv_add_emod (ts.getD k 0+ca) 18446744073709551616
 show _+b64^k*_+b64^k*18446744073709551616*_=_
 generalize (ts.getD k 0+ca)/18446744073709551616=q at *
 generalize (ts.getD k 0+ca)%18446744073709551616=r at *
 grind
theorem B00{Invv1:LP}{muv1:LN}{TA:Option Addr}{tn tc i x2n:Nat}{ts:List Int}{ca:Int}{hp8 hp7:Heap}(p:Pw hp8 g TA tn tc ts)(hn:tn=ts.length)(dt:Dig b64 ts)(hle:i+x2n<=tn)(hca:0<=ca/\ca<18446744073709551616)(hl:tn<=1000000000)
 (hK:∀ TA' tn' tc' ts' h' g',g.le g'->Pw h' g' TA' tn' tc' ts'->tn'=ts'.length->Dig b64 ts'->val b64 ts'=val b64 ts+b64^(i+x2n)*ca->(tn'=tn\/(tn'=tn+1/\b64^tn<=val b64 ts'))->Invv1 [.slice TA' tn' tc',I (B5 ((i:Int)+1))] h'/\muv1 [.slice TA' tn' tc',I (B5 ((i:Int)+1))] h'<muv1 [.slice TA tn tc,I (i:Int)] hp7):
 Cg prog x2n Invv1 muv1 TA tn tc (i:Int) ca hp8 hp7:=by
 unfold Cg
 have e1:B5 ((i:Int)+(x2n:Int))=((i+x2n:Nat):Int):=by rw [B7 (by omega) (by omega)];omega
 rw [e1]
 refine ⟨fun L hp=>∃ (k:Nat) (c1:Int) (us:List Int) (A1:Option Addr) (n1 cc1:Nat) (g1:Heap),L=[.slice A1 n1 cc1,U c1,I k]/\g.le g1/\Pw hp g1 A1 n1 cc1 us/\n1=us.length/\Dig b64 us/\k<=n1/\(0<=c1/\c1<18446744073709551616)/\val b64 us+b64^k*c1=val b64 ts+b64^(i+x2n)*ca/\(n1=tn\/(n1=tn+1/\c1=0/\b64^tn<=val b64 us)),fun L _=>tn+2-(iAt L 2).toNat,⟨i+x2n,ca,ts,TA,tn,tc,g,rfl,B4 _,p,hn,dt,hle,hca,rfl,.inl rfl⟩,?_⟩
 rintro A1 n1 cc1 c1 k0 hp9 ⟨k,c1',us,A1',n1',cc1',g1,hL,lg,p1,hn1,du,hk,hc1,hv,hgr⟩
 simp only [C37,C35,Value.int.injEq,and_true,true_and] at hL
 obtain ⟨⟨rfl,rfl,rfl⟩,rfl,rfl⟩:=hL
 refine H1 (fun h0=>?_) (fun h0=>?_)
 ·have hn1t:n1=tn:=by
   rcases hgr with h1|⟨_,h1,_⟩
   ·exact h1
   ·exact absurd h1 h0
  have hw:B5 ((k:Int)+1)=((k+1:Nat):Int):=by rw [B7 (by omega) (by omega)];omega
  have hmu:∀ (q1 q2 q3 q4:Value),tn+2-(iAt [q1,q2,I ((k+1:Nat):Int)] 2).toNat<tn+2-(iAt [q3,q4,I (k:Int)] 2).toNat:=by
   intro q1 q2 q3 q4
   simp only [iAt,List.getElem?_cons_zero,List.getElem?_cons_succ]
   omega
  refine D9 (fun hk1=>?_) (fun hk1=>?_)
  ·have hkn:k=n1:=by omega
   refine Cb O6 p1 rfl rfl (by omega) (by omega) ?_
   intro A2 c2 h2 g2 l2 p2
   rw [<- List.map_singleton (f:=Value.int .u64),<- List.map_append] at p2
   have d2:Dig b64 (us++[0]):=du.append (Dig.one (by decide))
   refine A50 p2 (by simp;omega) d2 (by omega) hc1 ?_
   intro h3 us3 p3 hn3 d3 hv3
   have hz:(us++[0]).getD k 0=0:=by
    rw [hkn,hn1,List.getD,List.getElem?_append_right (Nat.le_refl _)];simp
   rw [hz,Int.zero_add,Int.ediv_eq_zero_of_lt hc1.1 hc1.2] at hv3 ⊢
   rw [hw]
   rw [E9,C38,C3c,C38,C3c] at hv3
   refine ⟨⟨k+1,0,us3,A2,n1+1,c2,g2,rfl,B0 lg l2,p3,hn3,d3,by omega,by omega,?_,.inr ⟨by omega,rfl,?_⟩⟩,hmu _ _ _ _⟩
   ·rw [hv3,C38,C3c];exact hv
   ·rw [hv3,<- hn1t,<- hkn]
    have h5:=C7 (B:=b64) (by decide) du
    have h6:b64^k*1<=b64^k*c1:=C36 (by omega) (C3f (C3d (by decide)))
    omega
  ·refine A50 p1 hn1 du (by omega) hc1 ?_
   intro h3 us3 p3 hn3 d3 hv3
   rw [hw]
   have gt:=N0 du k
   refine ⟨⟨k+1,_,us3,A1,n1,cc1,g1,rfl,lg,p3,hn3,d3,by omega,?_,?_,.inl hn1t⟩,hmu _ _ _ _⟩
   ·constructor
    ·exact Int.ediv_nonneg (by omega) (by decide)
    ·omega
   ·rw [hv3];exact hv
 ·subst h0
  rw [C38,C3c] at hv
  refine hK A1 n1 cc1 us hp9 g1 lg p1 hn1 du hv ?_
  rcases hgr with h1|⟨h1,_,h3⟩
  ·exact .inl h1
  ·exact .inr ⟨h1,h3⟩
theorem B3a{XA YA TA:Option Addr}{xs ys ts:List Int}{x2n x2c y2n tn tc N:Nat}{hp4:Heap}(p:Pw hp4 g TA tn tc ts)(hn:tn=ts.length)(dt:Dig b64 ts)(sx:SlI .u64 g XA xs)(hx:x2n=xs.length)(dx:Dig b64 xs)(sy:SlI .u64 g YA ys)(hy:y2n=ys.length)(dy:Dig b64 ys)(hxy:x2n+y2n<=tn)(hN:tn<=N)(hN2:N<=400000000)(hV:val b64 ts+val b64 xs*val b64 ys<b64^N)
 (hK:∀ TA' tn' tc' ts' h' g',g.le g'->Pw h' g' TA' tn' tc' ts'->tn'=ts'.length->Dig b64 ts'->val b64 ts'=val b64 ts+val b64 xs*val b64 ys->tn'<=N->K (.slice TA' tn' tc') h'):
 Er prog K XA x2n x2c YA y2n TA tn tc hp4:=by
 unfold Er
 have hx0:=C7 (B:=b64) (by decide) dx
 have hy0:=C7 (B:=b64) (by decide) dy
 have hpart:∀ k,val b64 (ys.take k)<=val b64 ys:=by
  intro k
  have h1:=F8 b64 (ys.take k) (ys.drop k)
  rw [C3b] at h1
  have h2:0<=b64^(ys.take k).length*val b64 (ys.drop k):=Int.mul_nonneg (C3f (C3d (by decide))) (C7 (B:=b64) (by decide) (dy.drop k))
  omega
 refine ⟨fun L hp=>∃ (k:Nat) (us:List Int) (A1:Option Addr) (n1 cc1:Nat) (g1:Heap),L=[.slice A1 n1 cc1,I k]/\g.le g1/\Pw hp g1 A1 n1 cc1 us/\n1=us.length/\Dig b64 us/\k<=y2n/\val b64 us=val b64 ts+val b64 xs*val b64 (ys.take k)/\x2n+y2n<=n1/\n1<=N,fun L _=>y2n-(iAt L 1).toNat,⟨0,ts,TA,tn,tc,g,rfl,B4 _,p,hn,dt,by omega,by simp [val],hxy,hN⟩,?_⟩
 rintro A1 n1 cc1 k0 hp7 ⟨k,us,A1',n1',cc1',g1,hL,lg,p1,hn1,du,hk,hv,hxn,hn1N⟩
 simp only [C37,C35,Value.int.injEq,and_true,true_and] at hL
 obtain ⟨⟨rfl,rfl,rfl⟩,rfl⟩:=hL
 refine B6 (fun h1=>?_) (fun h1=>?_)
 ·have gy:=N0 dy k
  have vy:=C5 b64 ys k
  have e1:B5 ((k:Int)+(x2n:Int))=((k+x2n:Nat):Int):=by rw [B7 (by omega) (by omega)];omega
  rw [e1]
  refine (sy.mono (B0 lg p1.le)).load hy (by omega) (by omega) ?_
  simp only [C3e]
  have hne:us≠[]:=by rintro rfl;simp at hn1;omega
  obtain ⟨b,post,w,hc⟩:=Dj p1 hne
  refine ⟨⟨by omega,by omega⟩,⟨by omega,by omega⟩,?_⟩
  have hwl:((us.drop k).take (k+x2n-k)).length=xs.length:=by rw [C39,List.length_drop];omega
  refine Gs (w.sub (l:=k) (m:=k+x2n) (c:=cc1) (by omega) (by omega) (by omega)) (by rw [hwl];omega) (sx.mono lg) hx ((du.drop k).take _) dx hwl gy (by omega) ?_
  intro ws c h' hwsl hwsd hc' hwv w'
  rw [hwl] at hwsl hwv
  have w2:=w.whole (l:=k) (m:=k+x2n) (by omega) (by omega) (by omega) w'
  refine ⟨_,rfl,?_⟩
  have hl3:(us.take k++ws++us.drop (k+x2n)).length=us.length:=by
   simp only [List.length_append,C39,List.length_drop];omega
  have hne2:us.take k++ws++us.drop (k+x2n)≠[]:=by
   intro e0
   rw [e0] at hl3
   exact hne (C3g (by simpa using hl3.symm))
  have p2:=w2.priv (m:=n1) (c:=cc1) hne2 (by rw [hl3];exact hc) (by omega)
  rw [C3a (by omega)] at p2
  have d2:Dig b64 (us.take k++ws++us.drop (k+x2n)):=((du.take k).append hwsd).append (du.drop _)
  have hsp:us=us.take k++((us.drop k).take (k+x2n-k)++us.drop (k+x2n)):=by
   have e1:us.drop (k+x2n)=(us.drop k).drop (k+x2n-k):=by rw [List.drop_drop];congr 1;omega
   rw [e1,C3b,C3b]
  have hval2:val b64 (us.take k++ws++us.drop (k+x2n))+b64^(k+x2n)*c=val b64 us+b64^k*(val b64 xs*ys.getD k 0):=by
   have e2:val b64 us=val b64 (us.take k)+b64^k*(val b64 ((us.drop k).take (k+x2n-k))+b64^xs.length*val b64 (us.drop (k+x2n))):=by
    conv=>lhs;rw [hsp]
    rw [F8,F8,hwl,C39,Nat.min_eq_left (by omega)]
   rw [e2,List.append_assoc,F8,F8,C39,Nat.min_eq_left (by omega),hwsl,hx,Int.pow_add]
   generalize b64^k=P at *
   generalize b64^xs.length=R at *
   grind
  refine B00 p2 (by omega) d2 (by omega) hc' (by omega) ?_
  intro TA' tn' tc' ts' h3 g3 l3 p3 hn3 d3 hv3 hgr
  rw [hval2,hv] at hv3
  have hvk:val b64 ts'=val b64 ts+val b64 xs*val b64 (ys.take (k+1)):=by
   rw [hv3,vy];grind
  have hN3:tn'<=N:=by
   rcases hgr with h4|⟨h4,h5⟩
   ·omega
   ·have h6:=C36 (hpart (k+1)) hx0
    have h7:b64^n1<b64^N:=by omega
    have h8:n1<N:=by
     by_cases h9:n1<N
     ·exact h9
     ·have:=D0 (B:=b64) (by decide) (show N<=n1 by omega)
      omega
    omega
  have e3:B5 ((k:Int)+1)=((k+1:Nat):Int):=by rw [B7 (by omega) (by omega)];omega
  rw [e3]
  exact ⟨⟨k+1,ts',TA',tn',tc',g3,rfl,B0 lg l3,p3,hn3,d3,by omega,hvk,by omega,hN3⟩,by simp only [iAt,List.getElem?_cons_zero,List.getElem?_cons_succ];omega⟩
 ·obtain rfl:k=y2n:=by omega
  rw [C3a (by omega)] at hv
  exact hK A1 n1 cc1 us hp7 g1 lg p1 hn1 du hv hn1N
theorem Gu{TA XA YA:Option Addr}{ts:List Int}{tn tc xn xc yn yc N:Nat}(p:Pw h g TA tn tc ts)(hn:tn=ts.length)(dt:Dig b64 ts)(ma:Mw g XA xn x)(mb:Mw g YA yn y)(hxc:xn<=xc)(hyc:yn<=yc)(hN:tn<=N)(hxy:xn+yn+1<=N)(hN2:N<=400000000)(hV:val b64 ts+x*y<b64^N)
 (hK:∀ TA' tn' tc' ts' h' g',g.le g'->Pw h' g' TA' tn' tc' ts'->tn'=ts'.length->Dig b64 ts'->val b64 ts'=val b64 ts+x*y->tn'<=N->K (.slice TA' tn' tc') h'):FCall prog Am #[.slice TA tn tc,.slice XA xn xc,.slice YA yn yc] h K:=by
 have hx0:=ma.nonneg (by decide)
 have hy0:=mb.nonneg (by decide)
 refine Uh _ _ _ _ _ _ _ _ _ ?_
 unfold Td
 refine ⟨fun L hp=>hp=h/\∃ (A1 B1:Option Addr) (n1 c1 n2 c2:Nat) (x1 y1:Int),L=[.slice A1 n1 c1,.slice B1 n2 c2]/\Mw g A1 n1 x1/\Mw g B1 n2 y1/\n1<=c1/\n2<=c2/\n1+n2=xn+yn/\x1*y1=x*y,B6 (fun _=>⟨rfl,_,_,_,_,_,_,y,x,rfl,mb,ma,hyc,hxc,by omega,Int.mul_comm _ _⟩) (fun _=>⟨rfl,_,_,_,_,_,_,x,y,rfl,ma,mb,hxc,hyc,rfl,rfl⟩),?_⟩
 rintro A1 n1 c1 B1 n2 c2 hp ⟨rfl,A1',B1',n1',c1',n2',c2',x1,y1,hL,m1,m2,k1,k2,hnn,hxy1⟩
 simp only [C37,C35,and_true] at hL
 obtain ⟨⟨rfl,rfl,rfl⟩,rfl,rfl,rfl⟩:=hL
 have hx10:=m1.nonneg (by decide)
 have hy10:=m2.nonneg (by decide)
 refine ⟨fun L hp3=>∃ (A2 B2:Option Addr) (n3 c3 n4 c4:Nat) (x2 y2:Int) (g1:Heap),L=[.slice A2 n3 c3,.slice B2 n4 c4]/\g.le g1/\Pw hp3 g1 TA tn tc ts/\Mw g1 A2 n3 x2/\Mw g1 B2 n4 y2/\n3+n4<=xn+yn+1/\x2*y2=x*y,B6 (fun _=>?_) (fun _=>⟨_,_,_,_,_,_,x1,y1,g,rfl,B4 _,p,m1,m2,by omega,hxy1⟩),?_⟩
 ·refine p.call ?_
  refine G8 m1 m2 k1 k2 (by omega) (by omega) ?_
  intro A3 n3 c3 g3 l3 k3 M3 h3 p3
  refine ⟨_,_,_,rfl,?_⟩
  refine Y7 O6 rfl ?_
  intro b hb
  have hg3:g3 b=none:=by
   cases hx1:g3 b with
   | none=>rfl
   | some o=>rw [p3.le b o hx1] at hb;cases hb
  refine ⟨_,_,_,rfl,_,_,_,_,_,_,x1*y1,1,g3.put b (.cells #[U 1] C1),rfl,B0 l3 (Heap.le_put _ hg3),p3.put hb _,M3.mono (Heap.le_put _ hg3),?_,?_,by rw [Int.mul_one];exact hxy1⟩
  ·refine ⟨[1],rfl,SlI.new _ _ _ _ _,?_,?_,?_⟩
   ·intro x hx;simp at hx;subst hx;decide
   ·unfold Norm;simp
   ·simp [val]
  ·have hlt1:=m1.lt (by decide)
   have hlt2:=m2.lt (by decide)
   have hlt:x1*y1<b64^(n1+n2):=by
    rw [Int.pow_add]
    by_cases h0:y1=0
    ·subst h0
     rw [C38]
     exact Int.mul_pos (C3d (by decide)) (C3d (by decide))
    ·have h1:x1*y1<b64^n1*y1:=Int.mul_lt_mul_of_pos_right hlt1 (by omega)
     have h2:b64^n1*y1<=b64^n1*b64^n2:=C36 (C3f hlt2) (C3f (C3d (by decide)))
     omega
   have:=M3.len_le (by decide) hlt
   omega
 rintro A2 n3 c3 B2 n4 c4 hp3 ⟨A2',B2',n3',c3',n4',c4',x2,y2,g1,hL,lg,p1,M1,M2,hnl,hxy2⟩
 simp only [C37,C35,and_true] at hL
 obtain ⟨⟨rfl,rfl,rfl⟩,rfl,rfl,rfl⟩:=hL
 obtain ⟨xs,hxl,sx,dx,nx,rfl⟩:=M1
 obtain ⟨ys,hyl,sy,dy,ny,rfl⟩:=M2
 unfold Ly
 have e1:B5 ((n3:Int)+(n4:Int))=((n3+n4:Nat):Int):=by rw [B7 (by omega) (by omega)];omega
 rw [e1]
 refine ⟨fun L hp=>∃ (us:List Int) (A5:Option Addr) (n5 c5:Nat) (g5:Heap),L=[.slice A5 n5 c5]/\g1.le g5/\Pw hp g5 A5 n5 c5 us/\n5=us.length/\Dig b64 us/\val b64 us=val b64 ts/\n5<=N,fun L _=>match L with|[.slice _ n _]=>n3+n4-n|_=>0,⟨ts,TA,tn,tc,g1,rfl,B4 _,p1,hn,dt,rfl,hN⟩,?_⟩
 rintro A5 n5 c5 hp4 ⟨us,A5',n5',c5',g5,hL,lg5,p5,hn5,du,hv5,hN5⟩
 simp only [C37,C35,and_true] at hL
 obtain ⟨rfl,rfl,rfl⟩:=hL
 refine B6 (fun h1=>?_) (fun h1=>?_)
 ·refine Cb O6 p5 rfl rfl (by omega) (by omega) ?_
  intro A6 c6 h6 g6 l6 p6
  rw [<- List.map_singleton (f:=Value.int .u64),<- List.map_append] at p6
  refine ⟨⟨us++[0],A6,n5+1,c6,g6,rfl,B0 lg5 l6,p6,by simp;omega,du.append (Dig.one (by decide)),by rw [E9,hv5];simp,by omega⟩,?_⟩
  show n3+n4-(n5+1)<n3+n4-n5
  omega
 ·refine B3a (N:=N) p5 hn5 du (sx.mono lg5) hxl dx (sy.mono lg5) hyl dy (by omega) hN5 hN2 (by rw [hv5,hxy2];exact hV) ?_
  intro TA' tn' tc' ts' h' g' l' p' hn' d' hv' hN'
  rw [hv5,hxy2] at hv'
  exact hK TA' tn' tc' ts' h' g' (B0 lg (B0 lg5 l')) p' hn' d' hv' hN'
def SumS(h g:Heap)(b:Nat)(e:TypeId)(N:Nat)(M v:Int):Prop:=∃ (PA NA:Option Addr) (pn pc nn nc:Nat) (ps ns:List Int) (g1 g2:Heap),Pw g1 g PA pn pc ps/\Pw g2 g1 NA nn nc ns/\g2 b=none/\h=g2.put b (.cells #[.slice PA pn pc,.slice NA nn nc] e)/\pn=ps.length/\nn=ns.length/\Dig b64 ps/\Dig b64 ns/\v=val b64 ps-val b64 ns/\pn<=N/\nn<=N/\val b64 ps+val b64 ns<=M
theorem SumS.le{b:Nat}{e:TypeId}{N:Nat}{M v:Int}(S:SumS h g b e N M v):g.le h:=by
 obtain ⟨PA,NA,pn,pc,nn,nc,ps,ns,g1,g2,p1,p2,hb,rfl,_⟩:=S
 exact B0 p1.le (B0 p2.le (Heap.le_put _ hb))
theorem SumS.zero{b:Nat}{e:TypeId}{N:Nat}(hb:g b=none):SumS (g.put b (.cells #[.slice none 0 0,.slice none 0 0] e)) g b e N 0 0:=
 ⟨none,none,0,0,0,0,[],[],g,g,Priv.nil _ _ _ _,Priv.nil _ _ _ _,hb,rfl,rfl,rfl,Dig.nil,Dig.nil,by simp [val],by omega,by omega,by simp [val]⟩
theorem Hk:prog.cellsOf V3=1/\(prog.info? V3).isSome=true:=by constructor<;>kernel_rfl
theorem Y9{b:Nat}{e:TypeId}{N:Nat}{M v:Int}{N1:Nat}(S:SumS h g b e N M v)(i:ZI g s A an ac x)(j:ZI g s' B bn bc y)(hab:an+bn+1<=N)(hN2:N<=400000000)(hM:M+(x*y).natAbs<b64^N1)(hN1:N1<=N)
 (hK:∀ h' g',g.le g'->SumS h' g' b e N (M+(x*y).natAbs) (v+x*y)->K (.tuple #[]) h'):FCall prog S7 #[.pointer (some ⟨b,0,none⟩),.agg #[.bool s,.slice A an ac],.agg #[.bool s',.slice B bn bc]] h K:=by
 have hz1:=i.zeroIff
 have hz2:=j.zeroIff
 have c1:=W8 i.sgn
 have c2:=W8 j.sgn
 have hnn:((x*y).natAbs:Int)=(x.natAbs:Int)*(y.natAbs:Int):=by rw [Int.natAbs_mul,Int.natCast_mul]
 refine Uj _ _ _ _ _ _ _ _ _ ?_
 unfold Tf
 have same:x*y=0->K (.tuple #[]) h:=by
  intro e0
  refine hK h g (B4 _) ?_
  rw [e0];simpa using S
 refine D9 (fun e0=>same (by rw [hz1.2 (by omega),Int.zero_mul])) (fun _=>D9 (fun e0=>same (by rw [hz2.2 (by omega),C38])) (fun _=>?_))
 obtain ⟨PA,NA,pn,pc,nn,nc,ps,ns,g1,g2,p1,p2,hb,rfl,hpn,hnn',dp,dn,hv,hpN,hnN,hsum⟩:=S
 have hp0:=C7 (B:=b64) (by decide) dp
 have hn0:=C7 (B:=b64) (by decide) dn
 have hNN:b64^N1<=b64^N:=D0 (by decide) hN1
 have e0:(C34 ⟨b,0,none⟩ 0)=⟨b,0,none⟩:=Ep b 0 0
 have e1:(C34 ⟨b,0,none⟩ 1)=⟨b,1,none⟩:=Ep b 0 1
 refine Br.of (fun hs=>?_) (fun hs=>?_)
 ·have hneg:x*y= -((x.natAbs:Int)*(y.natAbs:Int)):=by
   rcases c1 with ⟨rfl,h1⟩|⟨rfl,h1⟩<;>rcases c2 with ⟨rfl,h2⟩|⟨rfl,h2⟩
   ·simp at hs
   ·conv=>lhs;rw [h1,h2]
    rw [Int.neg_mul]
   ·conv=>lhs;rw [h1,h2]
    rw [Int.mul_neg]
   ·simp at hs
  refine ⟨_,rfl,_,_,_,by rw [e1,E6];rfl,?_⟩
  refine FCall.frame (K:=fun r hp=>∃ (TA':Option Addr) (tn' tc':Nat) (ts':List Int) (g':Heap),r= .slice TA' tn' tc'/\g1.le g'/\Pw hp g' TA' tn' tc' ts'/\tn'=ts'.length/\Dig b64 ts'/\val b64 ts'=val b64 ns+(x.natAbs:Int)*(y.natAbs:Int)/\tn'<=N) hb (Gu (N:=N) p2 hnn' dn (i.mag.mono p1.le) (j.mag.mono p1.le) i.cap j.cap hnN hab hN2 (by omega) (fun TA' tn' tc' ts' h' g' l' p' hn' d' hv' hN'=>⟨TA',tn',tc',ts',g',rfl,l',p',hn',d',hv',hN'⟩)) ?_
  ·rintro r h0 hb0 ⟨TA',tn',tc',ts',g',rfl,l',p',hn',d',hv',hN'⟩
   refine ⟨_,_,_,rfl,_,rfl,?_⟩
   rw [e1]
   refine Cn Hk.1 Hk.2 rfl rfl (by simp) ?_
   obtain ⟨g3,l3,p3⟩:=p1.after l'
   refine hK _ g3 l3 ⟨PA,TA',pn,pc,tn',tc',ps,ts',g',h0,p3,p',hb0,rfl,hpn,hn',dp,d',?_,hpN,hN',?_⟩
   ·rw [hv',hv,hneg];omega
   ·rw [hv',hnn];omega
 ·have hpos:x*y=(x.natAbs:Int)*(y.natAbs:Int):=by
   rcases c1 with ⟨rfl,h1⟩|⟨rfl,h1⟩<;>rcases c2 with ⟨rfl,h2⟩|⟨rfl,h2⟩
   ·conv=>lhs;rw [h1,h2]
    rw [Int.neg_mul_neg]
   ·simp at hs
   ·simp at hs
   ·conv=>lhs;rw [h1,h2]
  obtain ⟨g4,p4,p5⟩:=p2.swap p1
  refine ⟨_,rfl,_,_,_,by rw [e0,E6];rfl,?_⟩
  refine FCall.frame (K:=fun r hp=>∃ (TA':Option Addr) (tn' tc':Nat) (ts':List Int) (g':Heap),r= .slice TA' tn' tc'/\g4.le g'/\Pw hp g' TA' tn' tc' ts'/\tn'=ts'.length/\Dig b64 ts'/\val b64 ts'=val b64 ps+(x.natAbs:Int)*(y.natAbs:Int)/\tn'<=N) hb (Gu (N:=N) p4 hpn dp (i.mag.mono p5.le) (j.mag.mono p5.le) i.cap j.cap hpN hab hN2 (by omega) (fun TA' tn' tc' ts' h' g' l' p' hn' d' hv' hN'=>⟨TA',tn',tc',ts',g',rfl,l',p',hn',d',hv',hN'⟩)) ?_
  ·rintro r h0 hb0 ⟨TA',tn',tc',ts',g',rfl,l',p',hn',d',hv',hN'⟩
   refine ⟨_,_,_,rfl,_,rfl,?_⟩
   rw [e0]
   refine Cn Hk.1 Hk.2 rfl rfl (by simp) ?_
   obtain ⟨g3,l3,p3⟩:=p5.after l'
   obtain ⟨g6,p6,p7⟩:=p'.swap p3
   refine hK _ g3 l3 ⟨TA',NA,tn',tc',nn,nc,ts',ns,g6,h0,p7,p6,hb0,rfl,hn',hnn',d',dn,?_,hN',hnN,?_⟩
   ·rw [hv',hv,hpos];omega
   ·rw [hv',hnn];omega
theorem Pg{b:Nat}{e:TypeId}{N:Nat}{M v:Int}{N1:Nat}(S:SumS h g b e N M v)(i:ZI g s A an ac x)(j:ZI g s' B bn bc y)(hab:an+bn+1<=N)(hN2:N<=400000000)(hM:M+(x*y).natAbs<b64^N1)(hN1:N1<=N)
 (hK:∀ h' g',g.le g'->SumS h' g' b e N (M+(x*y).natAbs) (v-x*y)->K (.tuple #[]) h'):FCall prog Eb #[.pointer (some ⟨b,0,none⟩),.agg #[.bool s,.slice A an ac],.agg #[.bool s',.slice B bn bc]] h K:=by
 refine Ui _ _ _ _ _ _ _ _ _ ?_
 unfold Te
 refine Ch (i.mono S.le) ?_
 intro s1 i1
 refine ⟨_,_,_,_,rfl,B4 _,?_⟩
 have i2:ZI g s1 A an ac (-x):=⟨i.cap,by rw [Int.natAbs_neg];exact i.mag,i1.sgn⟩
 have hab':(-x*y).natAbs=(x*y).natAbs:=by rw [Int.neg_mul,Int.natAbs_neg]
 refine Y9 (N1:=N1) S i2 j hab hN2 (by rw [hab'];exact hM) hN1 ?_
 intro h' g' l' S'
 rw [hab',Int.neg_mul,<- Int.sub_eq_add_neg] at S'
 exact ⟨rfl,hK h' g' l' S'⟩
theorem Bn{XA YA:Option Addr}{xn xc yn yc:Nat}(ma:Mw h XA xn x)(mb:Mw h YA yn y)(hyx:y<=x)(hl:xn<=1000000000)(hK:∀ A' m c' h',h.le h'->m<=c'->Mw h' A' m (x-y)->K (.slice A' m c') h'):FCall prog Q5 #[.slice XA xn xc,.slice YA yn yc] h K:=by
 have hyl:yn<=xn:=mb.len_le (by decide) (Int.lt_of_le_of_lt hyx (ma.lt (by decide)))
 obtain ⟨xs,hxl,sx,dx,nx,rfl⟩:=ma
 obtain ⟨ys,hyl',sy,dy,ny,rfl⟩:=mb
 refine Lw _ _ _ _ _ _ ?_
 unfold Gx
 refine J3 O6 (by omega) (by omega) (by omega) ?_
 intro b hb
 rw [C3e]
 refine ⟨_,_,_,rfl,?_⟩
 have w:=Win.blk .u64 C1 hb (List.replicate xn 0)
 refine En O6 w (by simp) (sx.mono w.le) hxl (by simp;omega) ?_
 intro h1 w1
 refine ⟨_,rfl,?_⟩
 rw [List.drop_of_length_le (by simp;omega),List.append_nil] at w1
 refine Cm w1 hxl sy hyl' dx dy (by omega) hyx (by omega) ?_
 intro zs h2 hzl hzd hzv w2
 refine ⟨rfl,?_⟩
 refine Af w2.sl hzd (by omega) hzv (Nat.le_refl _) (by omega) ?_
 intro m hm hM
 exact ⟨_,_,_,rfl,hK _ _ _ _ w2.le hm hM⟩
theorem Jx{b:Nat}{e:TypeId}{N:Nat}{M v:Int}(S:SumS h g b e N M v)(hN2:N<=400000000)(hK:∀ s A n c h',h.le h'->ZI h' s A n c v->K (.agg #[.bool s,.slice A n c]) h'):FCall prog Pz #[.pointer (some ⟨b,0,none⟩)] h K:=by
 obtain ⟨PA,NA,pn,pc,nn,nc,ps,ns,g1,g2,p1,p2,hb,rfl,hpn,hnn,dp,dn,hv,hpN,hnN,hsum⟩:=S
 have e0:(C34 ⟨b,0,none⟩ 0)=⟨b,0,none⟩:=Ep b 0 0
 have e1:(C34 ⟨b,0,none⟩ 1)=⟨b,1,none⟩:=Ep b 0 1
 have lb:=Heap.le_put (.cells #[.slice PA pn pc,.slice NA nn nc] e) hb
 refine B0j _ ?_
 unfold B56
 refine ⟨_,rfl,_,_,_,by rw [e0,E6];rfl,_,rfl,_,_,_,by rw [e1,E6];rfl,?_⟩
 have sp:SlI .u64 (g2.put b (.cells #[.slice PA pn pc,.slice NA nn nc] e)) PA ps:=SlI.mono lb (SlI.mono p2.le p1.slV)
 have sn:SlI .u64 (g2.put b (.cells #[.slice PA pn pc,.slice NA nn nc] e)) NA ns:=SlI.mono lb p2.slV
 refine Af sp dp hpn rfl p1.2.1 (by omega) ?_
 intro m1 hm1 M1
 refine ⟨_,_,_,rfl,B4 _,?_⟩
 refine Af sn dn hnn rfl p2.2.1 (by omega) ?_
 intro m2 hm2 M2
 refine ⟨_,_,_,rfl,B4 _,?_⟩
 refine J5 M1 M2 (by omega) ⟨_,rfl,?_⟩
 refine B6 (fun hc=>?_) (fun hc=>?_)
 ·have hle:val b64 ns<=val b64 ps:=by unfold Tr at hc;split at hc<;>omega
  refine Bn M1 M2 hle (by omega) ?_
  intro A3 n3 c3 h3 l3 k3 M3
  obtain ⟨d,hd⟩:=Int.eq_ofNat_of_zero_le (show 0<=val b64 ps-val b64 ns by omega)
  rw [hd] at M3
  refine ⟨_,_,_,rfl,T9 (v:=d) M3 k3 ?_⟩
  intro s4 i4
  refine ⟨_,_,_,_,rfl,hK _ _ _ _ _ l3 ?_⟩
  rw [hv,hd];exact i4
 ·have hle:val b64 ps<=val b64 ns:=by
   unfold Tr at hc
   by_cases h1:val b64 ps<val b64 ns
   ·omega
   ·rw [if_neg h1] at hc;split at hc<;>omega
  refine Bn M2 M1 hle (by omega) ?_
  intro A3 n3 c3 h3 l3 k3 M3
  obtain ⟨d,hd⟩:=Int.eq_ofNat_of_zero_le (show 0<=val b64 ns-val b64 ps by omega)
  rw [hd] at M3
  refine ⟨_,_,_,rfl,T9 (v:=d) M3 k3 ?_⟩
  intro s4 i4
  refine ⟨_,_,_,_,rfl,hK _ _ _ _ _ l3 ?_⟩
  have hvd:v= -(d:Int):=by omega
  rw [hvd];exact i4
theorem A73(gl:Gtz h)(i:ZI h s A an ac x)(j:ZI h s' B bn bc y)(hx:ZB m x)(hy:ZB m y)(hm:m<=6400000000)(hK:∀ A' n' c' h',h.le h'->ZI h' false A' n' c' (Int.lcm x y:Int)->K (.agg #[.bool false,.slice A' n' c']) h'):FCall prog A8z #[.agg #[.bool s,.slice A an ac],.agg #[.bool s',.slice B bn bc]] h K:=by
 have hz1:=i.zeroIff
 have hz2:=j.zeroIff
 have hl1:=i.len hx hm
 have hl2:=j.len hy hm
 refine B7a _ _ _ _ _ _ _ _ ?_
 unfold C2f
 refine D9 (fun e0=>?_) (fun e1=>D9 (fun e0=>?_) (fun e2=>?_))
 ·refine hK none 0 0 h (B4 _) ?_
  rw [hz1.2 (by omega),Int.lcm_zero_left];exact ZI.zero
 ·refine hK none 0 0 h (B4 _) ?_
  rw [hz2.2 (by omega),Int.lcm_zero_right];exact ZI.zero
 ·have hx0:x≠0:=fun e=>e1 (by have:=hz1.1 e;omega)
  have hy0:y≠0:=fun e=>e2 (by have:=hz2.1 e;omega)
  refine Kp gl i.mag j.mag i.cap j.cap hl1 hl2 ?_
  intro A3 n3 c3 h3 l3 k3 M3
  refine ⟨_,_,_,rfl,l3,?_⟩
  rw [Int.gcd_natCast_natCast] at M3
  have hg:Nat.gcd x.natAbs y.natAbs≠0:=fun e=>by
   have:=Nat.eq_zero_of_gcd_eq_zero_left e
   omega
  have hgl:n3<=100000000:=by
   refine Nat.le_trans (M3.len_le (by decide) (j:=bn) ?_) hl2
   have h1:=j.mag.lt (by decide)
   have h2:Nat.gcd x.natAbs y.natAbs<=y.natAbs:=Nat.gcd_le_right _ (by omega)
   omega
  refine R3 (j.mag.mono l3) M3 j.cap k3 (by omega) (by omega) (by omega) ?_
  intro A4 n4 c4 A5 n5 c5 h4 l4 k4 k5 M4 M5
  refine ⟨_,_,_,_,_,_,rfl,l4,?_⟩
  rw [<- Int.natCast_ediv] at M4
  have hn4:n4<=100000000:=by
   refine Nat.le_trans (M4.len_le (by decide) (j:=bn) ?_) hl2
   have h1:=j.mag.lt (by decide)
   have h2:=Nat.div_le_self y.natAbs (Nat.gcd x.natAbs y.natAbs)
   omega
  refine G8 (i.mag.mono (B0 l3 l4)) M4 i.cap k4 (by omega) (by omega) ?_
  intro A6 n6 c6 h6 l6 k6 M6
  refine ⟨_,_,_,rfl,hK _ _ _ _ (B0 l3 (B0 l4 l6)) ⟨k6,?_,?_⟩⟩
  ·rw [Int.natAbs_natCast]
   rw [<- Int.natCast_mul] at M6
   have:Int.lcm x y=x.natAbs*(y.natAbs/Nat.gcd x.natAbs y.natAbs):=by
    show Nat.lcm x.natAbs y.natAbs=_
    rw [Nat.lcm,Nat.mul_div_assoc _ (Nat.gcd_dvd_right _ _)]
   rw [this];exact M6
  ·symm;rw [decide_eq_false_iff_not];omega
end
abbrev RQr:Heap->QV->Rat->Prop:=fun h w q=>RQ h w q
abbrev NQr:Heap->QV->Rat->Prop:=fun h w q=>NQ h w q
abbrev ZIr:Heap->IV->Int->Prop:=fun h w z=>ZI h w.s w.A w.n w.c z
abbrev SSr:Heap->List UInt8->List UInt8->Prop:=fun _ w s=>w=s
def Mon{α β:Type}(R:Heap->α->β->Prop):Prop:=∀ (h h':Heap) (w:α) (x:β),h.le h'->R h w x->R h' w x
theorem O0:Mon RQr:=fun _ _ _ _ hl i=>⟨i.num.mono hl,i.den.mono hl⟩
theorem Nd:Mon NQr:=fun _ _ _ _ hl i=>NQ.mono hl i
theorem Nc:Mon ZIr:=fun _ _ _ _ hl i=>i.mono hl
theorem N4:Mon SSr:=fun _ _ _ _ _ i=>i
instance:Enc QV:=⟨⟨fun w=>[.bool w.s,.slice w.A w.n w.c,.bool w.s2,.slice w.A2 w.n2 w.c2],4,fun _=>rfl,fun w v hv=>by simp at hv;rcases hv with rfl|rfl|rfl|rfl<;>rfl⟩⟩
section
variable {α β:Type}
def Row(R:Heap->α->β->Prop)(g:Heap)(xs:List α)(n:Nat)(f:Nat->β):Prop:=∀ i,i<n->∃ w,xs[i]? = some w/\R g w (f i)
variable {R:Heap->α->β->Prop} {g g' h h':Heap} {xs:List α} {n:Nat} {f:Nat->β}
theorem Row.mono(m:Mon R)(hl:g.le g')(r:Row R g xs n f):Row R g' xs n f:=fun i hi=>by
 obtain ⟨w,e,hw⟩:=r i hi
 exact ⟨w,e,m _ _ _ _ hl hw⟩
theorem Row.nil:Row R g xs 0 f:=fun i hi=>by omega
theorem Row.set{k:Nat}(r:Row R g xs k f)(hk:k<xs.length){w:α}(hw:R g w (f k)):Row R g (xs.set k w) (k+1) f:=fun i hi=>by
 by_cases e:i=k
 ·subst e;exact ⟨w,by rw [List.getElem?_set_self hk],hw⟩
 ·obtain ⟨u,e1,hu⟩:=r i (by omega)
  exact ⟨u,by rw [List.getElem?_set_ne (fun x=>e x.symm)];exact e1,hu⟩
theorem Row.upd(r:Row R g xs n f){k:Nat}(hk:k<xs.length){w:α}{y:β}(hw:R g w y):Row R g (xs.set k w) n (fun i=>if i=k then y else f i):=fun i hi=>by
 by_cases e:i=k
 ·subst e;exact ⟨w,by rw [List.getElem?_set_self hk],by show R g w (if i=i then y else f i);rw [if_pos rfl];exact hw⟩
 ·obtain ⟨u,e1,hu⟩:=r i hi
  exact ⟨u,by rw [List.getElem?_set_ne (fun x=>e x.symm)];exact e1,by show R g u (if i=k then y else f i);rw [if_neg e];exact hu⟩
theorem Row.push(r:Row R g xs xs.length f){w:α}(hw:R g w (f xs.length)):Row R g (xs++[w]) (xs++[w]).length f:=fun i hi=>by
 rw [List.length_append] at hi
 by_cases e:i=xs.length
 ·subst e;exact ⟨w,by simp,hw⟩
 ·obtain ⟨u,e1,hu⟩:=r i (by simp at hi;omega)
  exact ⟨u,by rw [List.getElem?_append_left (by simp at hi;omega)];exact e1,hu⟩
theorem Row.congr{f':Nat->β}(r:Row R g xs n f)(h:∀ i,i<n->f i=f' i):Row R g xs n f':=fun i hi=>by
 obtain ⟨w,e,hw⟩:=r i hi
 exact ⟨w,e,by rw [<- h i hi];exact hw⟩
theorem Row.get(r:Row R g xs n f){i:Nat}(hi:i<n)(hl:i<xs.length):R g xs[i] (f i):=by
 obtain ⟨w,e,hw⟩:=r i hi
 rw [List.getElem?_eq_getElem hl] at e
 cases e;exact hw
variable [E:Enc α]
def RowV(R:Heap->α->β->Prop)(h:Heap)(A:Option Addr)(n:Nat)(f:Nat->β):Prop:=∃ xs:List α,SlF h A xs/\xs.length=n/\Row R h xs n f
theorem RowV.mono(m:Mon R){A:Option Addr}(hl:h.le h')(r:RowV R h A n f):RowV R h' A n f:=by
 obtain ⟨xs,s,e,r⟩:=r
 exact ⟨xs,s.mono hl,e,r.mono m hl⟩
theorem RowV.nil{A:Option Addr}:RowV R h A 0 f:=⟨[],SlF.nil,rfl,Row.nil⟩
theorem RowV.congr{A:Option Addr}{f':Nat->β}(r:RowV R h A n f)(e:∀ i,i<n->f i=f' i):RowV R h A n f':=by
 obtain ⟨xs,s,l,r⟩:=r
 exact ⟨xs,s,l,r.congr e⟩
theorem RowV.cut{A:Option Addr}(r:RowV R h A n f){c l k:Nat}(hlk:l+k<=n)(hc:n<=c):RowV R h (K0 A c l E.default.size) k (fun i=>f (l+i)):=by
 obtain ⟨xs,s,e,r⟩:=r
 refine ⟨(xs.drop l).take (l+k-l),s.cut (l:=l) (m:=l+k) (by omega) (by omega) (by omega),by simp;omega,fun i hi=>?_⟩
 obtain ⟨w,e1,hw⟩:=r (l+i) (by omega)
 exact ⟨w,by rw [List.getElem?_take,if_pos (by omega),List.getElem?_drop];exact e1,hw⟩
theorem RowV.at(pos:0<E.default.size){A:Option Addr}(r:RowV R h A n f){i:Nat}(hi:i<n):∃ a w,A=some a/\R h w (f i)/\∀ j v,(enc w)[j]? = some v->h.cell? (C34 (C34 a (i*E.default.size)) j)=some v:=by
 obtain ⟨xs,s,e,r⟩:=r
 obtain ⟨a,ha,hc⟩:=SlF.at pos s (i:=i) (by omega)
 exact ⟨a,xs[i],ha,r.get hi (by omega),hc⟩
structure Own (R:Heap->α->β->Prop) (h h':Heap) (b n:Nat) (f:Nat->β):Prop where
 ex:∃ g o xs,h.le g/\Sep h' g o/\RowX o b xs/\xs.length=n/\Row R g xs n f
theorem Own.le{b:Nat}(w:Own R h h' b n f):h.le h':=by
 obtain ⟨g,o,xs,l,s,_⟩:=w.ex
 exact B0 l s.le
theorem Own.vis(m:Mon R){b:Nat}(w:Own R h h' b n f):RowV R h' (some ⟨b,0,none⟩) n f:=by
 obtain ⟨g,o,xs,l,s,r,e,q⟩:=w.ex
 exact ⟨xs,r.rowB.slF s.ole,e,q.mono m s.le⟩
end
section
variable {h:Heap} {A:Option Addr} {n:Nat}
theorem RowV.qat{R:Heap->QV->Rat->Prop}{f:Nat->Rat}(r:RowV R h A n f){i:Nat}(hi:i<n):∃ a w,A=some a/\R h w (f i)/\h.cell? (C34 (C34 a (i*4)) 0)=some (.bool w.s)/\h.cell? (C34 (C34 a (i*4)) 1)=some (.slice w.A w.n w.c)/\h.cell? (C34 (C34 a (i*4)) 2)=some (.bool w.s2)/\h.cell? (C34 (C34 a (i*4)) 3)=some (.slice w.A2 w.n2 w.c2):=by
 obtain ⟨a,w,e,hw,hc⟩:=r.at (by decide) hi
 exact ⟨a,w,e,hw,hc 0 _ rfl,hc 1 _ rfl,hc 2 _ rfl,hc 3 _ rfl⟩
theorem RowV.zat{f:Nat->Int}(r:RowV ZIr h A n f){i:Nat}(hi:i<n):∃ a w,A=some a/\ZIr h w (f i)/\h.cell? (C34 (C34 a (i*2)) 0)=some (.bool w.s)/\h.cell? (C34 (C34 a (i*2)) 1)=some (.slice w.A w.n w.c):=by
 obtain ⟨a,w,e,hw,hc⟩:=r.at (by decide) hi
 exact ⟨a,w,e,hw,hc 0 _ rfl,hc 1 _ rfl⟩
theorem RowV.sat{f:Nat->List UInt8}(r:RowV SSr h A n f){i:Nat}(hi:i<n):∃ a,A=some a/\h.cell? (C34 a (i*1))=some (.string (bs (f i))):=by
 obtain ⟨a,w,e,hw,hc⟩:=r.at (by decide) hi
 have hw':w=f i:=hw
 subst hw'
 refine ⟨a,e,?_⟩
 have:=hc 0 _ rfl
 rw [Sp] at this
 exact this
end
end Go.Proofs.YtajkakhfcokljaaGreatDoor
