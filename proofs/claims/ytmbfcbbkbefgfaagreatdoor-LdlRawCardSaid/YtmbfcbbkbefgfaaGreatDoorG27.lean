/- A part. -/
import Derived.Test.YtmbfcbbkbefgfaaGreatDoorG21
import Derived.Test.YtmbfcbbkbefgfaaGreatDoorG26
import Derived.Test.YtmbfcbbkbefgfaaGreatDoorG25
open Go.Proofs.Tryz
set_option linter.all false
open _root_.Go.Addr renaming add->aC
open Int renaming mul_le_mul_of_nonneg_left->aF,mul_zero->aH,add_zero->aK,pow_pos->aN,toNat_natCast->aO,le_of_lt->aP,eq_ofNat_of_zero_le->aT
open List renaming length_take->aI,take_of_length_le->aJ,take_append_drop->aL,eq_nil_of_length_eq_zero->aQ,getElem?_cons_zero->aR,getElem?_cons_succ->aS,getElem?_set_self->aU
open List.cons renaming injEq->aG
open _root_.Go.Value.slice renaming injEq->aD
open _root_.Go renaming Addr->aM
open _root_.Go.Proofs.YtmbfcbbkbefgfaaGreatDoor renaming Heap->aE
namespace Go.Proofs.YtmbfcbbkbefgfaaGreatDoor
set_option maxRecDepth 20000
open Go
section
variable {h g:aE} {K:VP} {A B:Option aM} {s s':Bool} {an ac bn bc m:Nat} {x y:Int}
end
def B1u(B:Int):∀ {ts:List Int} {k:Nat} (_:k<ts.length) (v:Int),val B (ts.set k v)=val B ts+B^k*(v-ts.getD k 0)
 | [],k,h,v=>by simp at h
 | t::ts,0,h,v=>by simp [val];grind
 | t::ts,k+1,h,v=>by
  have ih:=B1u B (ts:=ts) (k:=k) (by simpa using h) v
  simp only [List.set_cons_succ,val,List.getD_cons_succ,ih,Int.pow_succ]
  grind
section
variable {h g:aE} {K:VP} {A B:Option aM} {s s':Bool} {an ac bn bc m:Nat} {x y:Int}
def A96{hp:aE}{n c k:Nat}{ts:List Int}{ca:Int}(p:Pw hp g A n c ts)(hn:n=ts.length)(dt:Dig b64 ts)(hk:k<n)(hca:0<=ca/\ca<18446744073709551616){Q:Int->aE->Prop}
 (hQ:∀ h' ts',Pw h' g A n c ts'->n=ts'.length->Dig b64 ts'->val b64 ts'+b64^(k+1)*((ts.getD k 0+ca)/18446744073709551616)=val b64 ts+b64^k*ca->Q ((ts.getD k 0+ca)/18446744073709551616) h'):
 ∃ a,A=some a/\0<=(k:Int)/\(k:Int)<((n:Nat):Int)/\∃ (t:Int),Heap.cell? hp (aC a (((k:Int)).toNat*1))=some (U t)/\ECall prog U9 #[U t,U ca,U (0:Int)] hp (fun r hp1=>∃ (ta tb:Int),r= .tuple #[U ta,U tb]/\∃ a2,A=some a2/\0<=(k:Int)/\(k:Int)<((n:Nat):Int)/\wpH prog (Instr.storeAt C4 (.pointer (some (aC a2 (((k:Int)).toNat*1)))) (U ta)) (fun _ hp2=>Q tb hp2) hp1):=by
 have d:ts≠[]:=by rintro rfl;simp at hn;omega
 obtain ⟨b,l,w,y⟩:=Fv p d
 have o:=O7 dt k
 refine w.sl.load hn (by omega) (by omega) ?_
 simp only [aO]
 refine Ec o hca (by omega) ⟨_,_,rfl,?_⟩
 obtain ⟨a,j,_⟩:=SlV.at w.sl (i:=k) (by simp;omega)
 refine ⟨a,j,by omega,by omega,w.storeN G8 j (by omega) ?_⟩
 intro u f
 simp only [aK] at f ⊢
 have e:=f.priv (m:=n) (c:=c) (by intro s;have:=congrArg List.length s;rw [List.length_set,List.length_nil] at this;exact d (aQ this)) (by simpa using y) (by simp;omega)
 rw [aJ (by simp;omega)] at e
 refine hQ u _ e (by simpa using hn) (dt.set (Fe _)) ?_
 rw [B1u b64 (by omega),Int.pow_succ]
 have:=Int.mul_ediv_add_emod (ts.getD k 0+ca) 18446744073709551616
 show _+b64^k*_+b64^k*18446744073709551616*_=_
 generalize (ts.getD k 0+ca)/18446744073709551616=q at *
 generalize (ts.getD k 0+ca)%18446744073709551616=r at *
 grind
def B4w{Invv1:LP}{muv1:LN}{TA:Option aM}{tn tc i x2n:Nat}{ts:List Int}{ca:Int}{hp8 hp7:aE}(p:Pw hp8 g TA tn tc ts)(hn:tn=ts.length)(dt:Dig b64 ts)(hle:i+x2n<=tn)(hca:0<=ca/\ca<18446744073709551616)(hl:tn<=1000000000)
 (hK:∀ TA' tn' tc' ts' h' g',g.le g'->Pw h' g' TA' tn' tc' ts'->tn'=ts'.length->Dig b64 ts'->val b64 ts'=val b64 ts+b64^(i+x2n)*ca->(tn'=tn\/(tn'=tn+1/\b64^tn<=val b64 ts'))->Invv1 [.slice TA' tn' tc',I (B7 ((i:Int)+1))] h'/\muv1 [.slice TA' tn' tc',I (B7 ((i:Int)+1))] h'<muv1 [.slice TA tn tc,I (i:Int)] hp7):
 Er prog x2n Invv1 muv1 TA tn tc (i:Int) ca hp8 hp7:=by
 unfold Er
 have V:B7 ((i:Int)+(x2n:Int))=((i+x2n:Nat):Int):=by rw [C1 (by omega) (by omega)];omega
 rw [V]
 refine ⟨fun L Z=>∃ (k:Nat) (c1:Int) (d:List Int) (A1:Option aM) (b c:Nat) (r:aE),L=[.slice A1 b c,U c1,I k]/\g.le r/\Pw Z r A1 b c d/\b=d.length/\Dig b64 d/\k<=b/\(0<=c1/\c1<18446744073709551616)/\val b64 d+b64^k*c1=val b64 ts+b64^(i+x2n)*ca/\(b=tn\/(b=tn+1/\c1=0/\b64^tn<=val b64 d)),fun L _=>tn+2-(iAt L 2).toNat,⟨i+x2n,ca,ts,TA,tn,tc,g,rfl,B5 _,p,hn,dt,hle,hca,rfl,.inl rfl⟩,?_⟩
 rintro A1 b c c1 k0 E ⟨k,aa,d,A1',X,O,r,R,F,A,m,t,hk,e,w,u⟩
 simp only [aG,aD,Value.int.injEq,and_true,true_and] at R
 obtain ⟨⟨rfl,rfl,rfl⟩,rfl,rfl⟩:=R
 refine F8 (fun y=>?_) (fun y=>?_)
 ·have j:b=tn:=by
   rcases u with l|⟨_,l,_⟩
   ·exact l
   ·exact absurd l y
  have N:B7 ((k:Int)+1)=((k+1:Nat):Int):=by rw [C1 (by omega) (by omega)];omega
  have s:∀ (S M J H:Value),tn+2-(iAt [S,M,I ((k+1:Nat):Int)] 2).toNat<tn+2-(iAt [J,H,I (k:Int)] 2).toNat:=by
   intro S M J H
   simp only [iAt,aR,aS]
   omega
  refine D8 (fun D=>?_) (fun D=>?_)
  ·have q:k=b:=by omega
   refine Eh R5 A rfl rfl (by omega) (by omega) ?_
   intro A2 c2 h2 W l2 Q
   rw [<- List.map_singleton (f:=Value.int .u64),<- List.map_append] at Q
   have T:Dig b64 (d++[0]):=t.append (Dig.one (by decide))
   refine A96 Q (by simp;omega) T (by omega) e ?_
   intro z n G o C a
   have hz:(d++[0]).getD k 0=0:=by
    rw [q,m,List.getD,List.getElem?_append_right (Nat.le_refl _)];simp
   rw [hz,Int.zero_add,Int.ediv_eq_zero_of_lt e.1 e.2] at a ⊢
   rw [N]
   rw [F7,aH,aK,aH,aK] at a
   refine ⟨⟨k+1,0,n,A2,b+1,c2,W,rfl,B0 F l2,G,o,C,by omega,by omega,?_,.inr ⟨by omega,rfl,?_⟩⟩,s _ _ _ _⟩
   ·rw [a,aH,aK];exact w
   ·rw [a,<- j,<- q]
    have h5:=C9 (B:=b64) (by decide) t
    have h6:b64^k*1<=b64^k*c1:=aF (by omega) (aP (aN (by decide)))
    omega
  ·refine A96 A m t (by omega) e ?_
   intro z n G o C a
   rw [N]
   have gt:=O7 t k
   refine ⟨⟨k+1,_,n,A1,b,c,r,rfl,F,G,o,C,by omega,?_,?_,.inl j⟩,s _ _ _ _⟩
   ·constructor
    ·exact Int.ediv_nonneg (by omega) (by decide)
    ·omega
   ·rw [a];exact w
 ·subst y
  rw [aH,aK] at w
  refine hK A1 b c d E r F A m t w ?_
  rcases u with l|⟨l,_,z⟩
  ·exact .inl l
  ·exact .inr ⟨l,z⟩
def B8g{XA YA TA:Option aM}{xs ys ts:List Int}{x2n x2c y2n tn tc N:Nat}{hp4:aE}(p:Pw hp4 g TA tn tc ts)(hn:tn=ts.length)(dt:Dig b64 ts)(sx:SlI .u64 g XA xs)(hx:x2n=xs.length)(dx:Dig b64 xs)(sy:SlI .u64 g YA ys)(hy:y2n=ys.length)(dy:Dig b64 ys)(hxy:x2n+y2n<=tn)(hN:tn<=N)(hN2:N<=400000000)(hV:val b64 ts+val b64 xs*val b64 ys<b64^N)
 (hK:∀ TA' tn' tc' ts' h' g',g.le g'->Pw h' g' TA' tn' tc' ts'->tn'=ts'.length->Dig b64 ts'->val b64 ts'=val b64 ts+val b64 xs*val b64 ys->tn'<=N->K (.slice TA' tn' tc') h'):
 Hn prog K XA x2n x2c YA y2n TA tn tc hp4:=by
 unfold Hn
 have E:=C9 (B:=b64) (by decide) dx
 have ad:=C9 (B:=b64) (by decide) dy
 have j:∀ k,val b64 (ys.take k)<=val b64 ys:=by
  intro k
  have J:=H9 b64 (ys.take k) (ys.drop k)
  rw [aL] at J
  have h2:0<=b64^(ys.take k).length*val b64 (ys.drop k):=Int.mul_nonneg (aP (aN (by decide))) (C9 (B:=b64) (by decide) (dy.drop k))
  omega
 refine ⟨fun L hp=>∃ (k:Nat) (a:List Int) (A1:Option aM) (e d:Nat) (z:aE),L=[.slice A1 e d,I k]/\g.le z/\Pw hp z A1 e d a/\e=a.length/\Dig b64 a/\k<=y2n/\val b64 a=val b64 ts+val b64 xs*val b64 (ys.take k)/\x2n+y2n<=e/\e<=N,fun L _=>y2n-(iAt L 1).toNat,⟨0,ts,TA,tn,tc,g,rfl,B5 _,p,hn,dt,by omega,by simp [val],hxy,hN⟩,?_⟩
 rintro A1 e d k0 Q ⟨k,a,A1',ac,aa,z,hL,D,H,r,C,hk,G,ab,q⟩
 simp only [aG,aD,Value.int.injEq,and_true,true_and] at hL
 obtain ⟨⟨rfl,rfl,rfl⟩,rfl⟩:=hL
 refine B8 (fun J=>?_) (fun J=>?_)
 ·have gy:=O7 dy k
  have vy:=C7 b64 ys k
  have F:B7 ((k:Int)+(x2n:Int))=((k+x2n:Nat):Int):=by rw [C1 (by omega) (by omega)];omega
  rw [F]
  refine (sy.mono (B0 D H.le)).load hy (by omega) (by omega) ?_
  simp only [aO]
  have s:a≠[]:=by rintro rfl;simp at r;omega
  obtain ⟨b,Z,w,hc⟩:=Fv H s
  refine ⟨⟨by omega,by omega⟩,⟨by omega,by omega⟩,?_⟩
  have f:((a.drop k).take (k+x2n-k)).length=xs.length:=by rw [aI,List.length_drop];omega
  refine Jk (w.sub (l:=k) (m:=k+x2n) (c:=d) (by omega) (by omega) (by omega)) (by rw [f];omega) (sx.mono D) hx ((C.drop k).take _) dx f gy (by omega) ?_
  intro A c h' i y T W w'
  rw [f] at i W
  have w2:=w.whole (l:=k) (m:=k+x2n) (by omega) (by omega) (by omega) w'
  refine ⟨_,rfl,?_⟩
  have n:(a.take k++A++a.drop (k+x2n)).length=a.length:=by
   simp only [List.length_append,aI,List.length_drop];omega
  have u:a.take k++A++a.drop (k+x2n)≠[]:=by
   intro e0
   rw [e0] at n
   exact s (aQ (by simpa using n.symm))
  have p2:=w2.priv (m:=e) (c:=d) u (by rw [n];exact hc) (by omega)
  rw [aJ (by omega)] at p2
  have d2:Dig b64 (a.take k++A++a.drop (k+x2n)):=((C.take k).append y).append (C.drop _)
  have X:a=a.take k++((a.drop k).take (k+x2n-k)++a.drop (k+x2n)):=by
   have F:a.drop (k+x2n)=(a.drop k).drop (k+x2n-k):=by rw [List.drop_drop];congr 1;omega
   rw [F,aL,aL]
  have o:val b64 (a.take k++A++a.drop (k+x2n))+b64^(k+x2n)*c=val b64 a+b64^k*(val b64 xs*ys.getD k 0):=by
   have e2:val b64 a=val b64 (a.take k)+b64^k*(val b64 ((a.drop k).take (k+x2n-k))+b64^xs.length*val b64 (a.drop (k+x2n))):=by
    conv=>lhs;rw [X]
    rw [H9,H9,f,aI,Nat.min_eq_left (by omega)]
   rw [e2,List.append_assoc,H9,H9,aI,Nat.min_eq_left (by omega),i,hx,Int.pow_add]
   generalize b64^k=P at *
   generalize b64^xs.length=R at *
   grind
  refine B4w p2 (by omega) d2 (by omega) T (by omega) ?_
  intro TA' tn' tc' ts' h3 g3 l3 p3 S d3 t O
  rw [o,G] at t
  have M:val b64 ts'=val b64 ts+val b64 xs*val b64 (ys.take (k+1)):=by
   rw [t,vy];grind
  have V:tn'<=N:=by
   rcases O with h4|⟨h4,h5⟩
   ·omega
   ·have h6:=aF (j (k+1)) E
    have h7:b64^e<b64^N:=by omega
    have h8:e<N:=by
     by_cases h9:e<N
     ·exact h9
     ·have:=D4 (B:=b64) (by decide) (show N<=e by omega)
      omega
    omega
  have e3:B7 ((k:Int)+1)=((k+1:Nat):Int):=by rw [C1 (by omega) (by omega)];omega
  rw [e3]
  exact ⟨⟨k+1,ts',TA',tn',tc',g3,rfl,B0 D l3,p3,S,d3,by omega,M,by omega,V⟩,by simp only [iAt,aR,aS];omega⟩
 ·obtain rfl:k=y2n:=by omega
  rw [aJ (by omega)] at G
  exact hK A1 e d a Q z D H r C G q
def Jm{TA XA YA:Option aM}{ts:List Int}{tn tc xn xc yn yc N:Nat}(p:Pw h g TA tn tc ts)(hn:tn=ts.length)(dt:Dig b64 ts)(ma:Mw g XA xn x)(mb:Mw g YA yn y)(hxc:xn<=xc)(hyc:yn<=yc)(hN:tn<=N)(hxy:xn+yn+1<=N)(hN2:N<=400000000)(hV:val b64 ts+x*y<b64^N)
 (hK:∀ TA' tn' tc' ts' h' g',g.le g'->Pw h' g' TA' tn' tc' ts'->tn'=ts'.length->Dig b64 ts'->val b64 ts'=val b64 ts+x*y->tn'<=N->K (.slice TA' tn' tc') h'):FCall prog Cl #[.slice TA tn tc,.slice XA xn xc,.slice YA yn yc] h K:=by
 have ae:=ma.nonneg (by decide)
 have ah:=mb.nonneg (by decide)
 refine Yc _ _ _ _ _ _ _ _ _ ?_
 unfold Wz
 refine ⟨fun L F=>F=h/\∃ (A1 B1:Option aM) (d c1 t c2:Nat) (q a:Int),L=[.slice A1 d c1,.slice B1 t c2]/\Mw g A1 d q/\Mw g B1 t a/\d<=c1/\t<=c2/\d+t=xn+yn/\q*a=x*y,B8 (fun _=>⟨rfl,_,_,_,_,_,_,y,x,rfl,mb,ma,hyc,hxc,by omega,Int.mul_comm _ _⟩) (fun _=>⟨rfl,_,_,_,_,_,_,x,y,rfl,ma,mb,hxc,hyc,rfl,rfl⟩),?_⟩
 rintro A1 d c1 B1 t c2 F ⟨rfl,A1',B1',am,ap,ac,ad,q,a,l,D,E,k1,k2,ak,m⟩
 simp only [aG,aD,and_true] at l
 obtain ⟨⟨rfl,rfl,rfl⟩,rfl,rfl,rfl⟩:=l
 have Z:=D.nonneg (by decide)
 have aa:=E.nonneg (by decide)
 refine ⟨fun L z=>∃ (A2 B2:Option aM) (c c3 e c4:Nat) (V S:Int) (r:aE),L=[.slice A2 c c3,.slice B2 e c4]/\g.le r/\Pw z r TA tn tc ts/\Mw r A2 c V/\Mw r B2 e S/\c+e<=xn+yn+1/\V*S=x*y,B8 (fun _=>?_) (fun _=>⟨_,_,_,_,_,_,q,a,g,rfl,B5 _,p,D,E,by omega,m⟩),?_⟩
 ·refine p.call ?_
  refine I8 D E k1 k2 (by omega) (by omega) ?_
  intro A3 c c3 T l3 k3 M3 h3 p3
  refine ⟨_,_,_,rfl,?_⟩
  refine Bn R5 rfl ?_
  intro b X
  have A:T b=none:=by
   cases hx1:T b with
   | none=>rfl
   | some o=>rw [p3.le b o hx1] at X;cases X
  refine ⟨_,_,_,rfl,_,_,_,_,_,_,q*a,1,T.put b (.cells #[U 1] C4),rfl,B0 l3 (Heap.le_put _ A),p3.put X _,M3.mono (Heap.le_put _ A),?_,?_,by rw [Int.mul_one];exact m⟩
  ·refine ⟨[1],rfl,SlI.new _ _ _ _ _,?_,?_,?_⟩
   ·intro x hx;simp at hx;subst hx;decide
   ·unfold Norm;simp
   ·simp [val]
  ·have B:=D.lt (by decide)
   have w:=E.lt (by decide)
   have O:q*a<b64^(d+t):=by
    rw [Int.pow_add]
    by_cases h0:a=0
    ·subst h0
     rw [aH]
     exact Int.mul_pos (aN (by decide)) (aN (by decide))
    ·have h1:q*a<b64^d*a:=Int.mul_lt_mul_of_pos_right B (by omega)
     have h2:b64^d*a<=b64^d*b64^t:=aF (aP w) (aP (aN (by decide)))
     omega
   have:=M3.len_le (by decide) O
   omega
 rintro A2 c c3 B2 e c4 z ⟨A2',B2',aj,an,af,al,V,S,r,l,lg,p1,M1,M2,ao,k⟩
 simp only [aG,aD,and_true] at l
 obtain ⟨⟨rfl,rfl,rfl⟩,rfl,rfl,rfl⟩:=l
 obtain ⟨xs,Q,sx,dx,nx,rfl⟩:=M1
 obtain ⟨ys,M,sy,dy,ny,rfl⟩:=M2
 unfold Pu
 have e1:B7 ((c:Int)+(e:Int))=((c+e:Nat):Int):=by rw [C1 (by omega) (by omega)];omega
 rw [e1]
 refine ⟨fun L F=>∃ (u:List Int) (A5:Option aM) (j c5:Nat) (W:aE),L=[.slice A5 j c5]/\r.le W/\Pw F W A5 j c5 u/\j=u.length/\Dig b64 u/\val b64 u=val b64 ts/\j<=N,fun L _=>match L with|[.slice _ n _]=>c+e-n|_=>0,⟨ts,TA,tn,tc,r,rfl,B5 _,p1,hn,dt,rfl,hN⟩,?_⟩
 rintro A5 j c5 ai ⟨u,A5',ag,ab,W,l,i,p5,H,du,s,R⟩
 simp only [aG,aD,and_true] at l
 obtain ⟨rfl,rfl,rfl⟩:=l
 refine B8 (fun h1=>?_) (fun h1=>?_)
 ·refine Eh R5 p5 rfl rfl (by omega) (by omega) ?_
  intro A6 c6 h6 g6 l6 p6
  rw [<- List.map_singleton (f:=Value.int .u64),<- List.map_append] at p6
  refine ⟨⟨u++[0],A6,j+1,c6,g6,rfl,B0 i l6,p6,by simp;omega,du.append (Dig.one (by decide)),by rw [F7,s];simp,by omega⟩,?_⟩
  show c+e-(j+1)<c+e-j
  omega
 ·refine B8g (N:=N) p5 H du (sx.mono i) Q dx (sy.mono i) M dy (by omega) R hN2 (by rw [s,k];exact hV) ?_
  intro TA' tn' tc' ts' h' g' l' p' G d' C J
  rw [s,k] at C
  exact hK TA' tn' tc' ts' h' g' (B0 lg (B0 i l')) p' G d' C J
def SumS(h g:aE)(b:Nat)(e:TypeId)(N:Nat)(M v:Int):Prop:=∃ (PA NA:Option aM) (pn pc nn nc:Nat) (ps ns:List Int) (g1 g2:aE),Pw g1 g PA pn pc ps/\Pw g2 g1 NA nn nc ns/\g2 b=none/\h=g2.put b (.cells #[.slice PA pn pc,.slice NA nn nc] e)/\pn=ps.length/\nn=ns.length/\Dig b64 ps/\Dig b64 ns/\v=val b64 ps-val b64 ns/\pn<=N/\nn<=N/\val b64 ps+val b64 ns<=M
def SumS.le{b:Nat}{e:TypeId}{N:Nat}{M v:Int}(S:SumS h g b e N M v):g.le h:=by
 obtain ⟨PA,NA,f,i,l,n,j,ns,m,k,a,c,d,rfl,_⟩:=S
 exact B0 a.le (B0 c.le (Heap.le_put _ d))
def SumS.zero{b:Nat}{e:TypeId}{N:Nat}(hb:g b=none):SumS (g.put b (.cells #[.slice none 0 0,.slice none 0 0] e)) g b e N 0 0:=
 ⟨none,none,0,0,0,0,[],[],g,g,Priv.nil _ _ _ _,Priv.nil _ _ _ _,hb,rfl,rfl,rfl,Dig.nil,Dig.nil,by simp [val],by omega,by omega,by simp [val]⟩
def Kb:prog.cellsOf Am=1/\(prog.info? Am).isSome=true:=by constructor<;>kernel_rfl
def Bp{b:Nat}{e:TypeId}{N:Nat}{M v:Int}{N1:Nat}(S:SumS h g b e N M v)(i:ZI g s A an ac x)(j:ZI g s' B bn bc y)(hab:an+bn+1<=N)(hN2:N<=400000000)(hM:M+(x*y).natAbs<b64^N1)(hN1:N1<=N)
 (hK:∀ h' g',g.le g'->SumS h' g' b e N (M+(x*y).natAbs) (v+x*y)->K (.tuple #[]) h'):FCall prog Y7 #[.pointer (some ⟨b,0,none⟩),.agg #[.bool s,.slice A an ac],.agg #[.bool s',.slice B bn bc]] h K:=by
 have V:=i.zeroIff
 have R:=j.zeroIff
 have c1:=Bb i.sgn
 have c2:=Bb j.sgn
 have w:((x*y).natAbs:Int)=(x.natAbs:Int)*(y.natAbs:Int):=by rw [Int.natAbs_mul,Int.natCast_mul]
 refine Ye _ _ _ _ _ _ _ _ _ ?_
 unfold Xb
 have same:x*y=0->K (.tuple #[]) h:=by
  intro t
  refine hK h g (B5 _) ?_
  rw [t];simpa using S
 refine D8 (fun t=>same (by rw [V.2 (by omega),Int.zero_mul])) (fun _=>D8 (fun t=>same (by rw [R.2 (by omega),aH])) (fun _=>?_))
 obtain ⟨PA,NA,pn,pc,nn,nc,ps,ns,g1,g2,G,p2,hb,rfl,E,m,dp,L,Z,D,z,aa⟩:=S
 have ab:=C9 (B:=b64) (by decide) dp
 have ad:=C9 (B:=b64) (by decide) L
 have ae:b64^N1<=b64^N:=D4 (by decide) hN1
 have t:(aC ⟨b,0,none⟩ 0)=⟨b,0,none⟩:=Hm b 0 0
 have X:(aC ⟨b,0,none⟩ 1)=⟨b,1,none⟩:=Hm b 0 1
 refine Br.of (fun F=>?_) (fun F=>?_)
 ·have u:x*y= -((x.natAbs:Int)*(y.natAbs:Int)):=by
   rcases c1 with ⟨rfl,h1⟩|⟨rfl,h1⟩<;>rcases c2 with ⟨rfl,h2⟩|⟨rfl,h2⟩
   ·simp at F
   ·conv=>lhs;rw [h1,h2]
    rw [Int.neg_mul]
   ·conv=>lhs;rw [h1,h2]
    rw [Int.mul_neg]
   ·simp at F
  refine ⟨_,rfl,_,_,_,by rw [X,E8];rfl,?_⟩
  refine FCall.frame (K:=fun r Q=>∃ (TA':Option aM) (c d:Nat) (a:List Int) (g':aE),r= .slice TA' c d/\g1.le g'/\Pw Q g' TA' c d a/\c=a.length/\Dig b64 a/\val b64 a=val b64 ns+(x.natAbs:Int)*(y.natAbs:Int)/\c<=N) hb (Jm (N:=N) p2 m L (i.mag.mono G.le) (j.mag.mono G.le) i.cap j.cap z hab hN2 (by omega) (fun TA' c d a h' g' o p l q f k=>⟨TA',c,d,a,g',rfl,o,p,l,q,f,k⟩)) ?_
  ·rintro r J n ⟨TA',c,d,a,g',rfl,o,p,l,q,f,k⟩
   refine ⟨_,_,_,rfl,_,rfl,?_⟩
   rw [X]
   refine Ey Kb.1 Kb.2 rfl rfl (by simp) ?_
   obtain ⟨O,T,W⟩:=G.after o
   refine hK _ O T ⟨PA,TA',pn,pc,c,d,ps,a,g',J,W,p,n,rfl,E,l,dp,q,?_,D,k,?_⟩
   ·rw [f,Z,u];omega
   ·rw [f,w];omega
 ·have C:x*y=(x.natAbs:Int)*(y.natAbs:Int):=by
   rcases c1 with ⟨rfl,h1⟩|⟨rfl,h1⟩<;>rcases c2 with ⟨rfl,h2⟩|⟨rfl,h2⟩
   ·conv=>lhs;rw [h1,h2]
    rw [Int.neg_mul_neg]
   ·simp at F
   ·simp at F
   ·conv=>lhs;rw [h1,h2]
  obtain ⟨g4,p4,H⟩:=p2.swap G
  refine ⟨_,rfl,_,_,_,by rw [t,E8];rfl,?_⟩
  refine FCall.frame (K:=fun r Q=>∃ (TA':Option aM) (c d:Nat) (a:List Int) (g':aE),r= .slice TA' c d/\g4.le g'/\Pw Q g' TA' c d a/\c=a.length/\Dig b64 a/\val b64 a=val b64 ps+(x.natAbs:Int)*(y.natAbs:Int)/\c<=N) hb (Jm (N:=N) p4 E dp (i.mag.mono H.le) (j.mag.mono H.le) i.cap j.cap D hab hN2 (by omega) (fun TA' c d a h' g' o p l q f k=>⟨TA',c,d,a,g',rfl,o,p,l,q,f,k⟩)) ?_
  ·rintro r J n ⟨TA',c,d,a,g',rfl,o,p,l,q,f,k⟩
   refine ⟨_,_,_,rfl,_,rfl,?_⟩
   rw [t]
   refine Ey Kb.1 Kb.2 rfl rfl (by simp) ?_
   obtain ⟨O,T,W⟩:=H.after o
   obtain ⟨g6,p6,p7⟩:=p.swap W
   refine hK _ O T ⟨TA',NA,c,d,nn,nc,a,ns,g6,J,p7,p6,n,rfl,l,m,q,L,?_,k,z,?_⟩
   ·rw [f,Z,C];omega
   ·rw [f,w];omega
def Sm{b:Nat}{e:TypeId}{N:Nat}{M v:Int}{N1:Nat}(S:SumS h g b e N M v)(i:ZI g s A an ac x)(j:ZI g s' B bn bc y)(hab:an+bn+1<=N)(hN2:N<=400000000)(hM:M+(x*y).natAbs<b64^N1)(hN1:N1<=N)
 (hK:∀ h' g',g.le g'->SumS h' g' b e N (M+(x*y).natAbs) (v-x*y)->K (.tuple #[]) h'):FCall prog Gy #[.pointer (some ⟨b,0,none⟩),.agg #[.bool s,.slice A an ac],.agg #[.bool s',.slice B bn bc]] h K:=by
 refine Yd _ _ _ _ _ _ _ _ _ ?_
 unfold Xa
 refine Dc (i.mono S.le) ?_
 intro d c
 refine ⟨_,_,_,_,rfl,B5 _,?_⟩
 have f:ZI g d A an ac (-x):=⟨i.cap,by rw [Int.natAbs_neg];exact i.mag,c.sgn⟩
 have a:(-x*y).natAbs=(x*y).natAbs:=by rw [Int.neg_mul,Int.natAbs_neg]
 refine Bp (N1:=N1) S f j hab hN2 (by rw [a];exact hM) hN1 ?_
 intro h' g' k S'
 rw [a,Int.neg_mul,<- Int.sub_eq_add_neg] at S'
 exact ⟨rfl,hK h' g' k S'⟩
def Do{XA YA:Option aM}{xn xc yn yc:Nat}(ma:Mw h XA xn x)(mb:Mw h YA yn y)(hyx:y<=x)(hl:xn<=1000000000)(hK:∀ A' m c' h',h.le h'->m<=c'->Mw h' A' m (x-y)->K (.slice A' m c') h'):FCall prog T5 #[.slice XA xn xc,.slice YA yn yc] h K:=by
 have j:yn<=xn:=mb.len_le (by decide) (Int.lt_of_le_of_lt hyx (ma.lt (by decide)))
 obtain ⟨t,c,k,p,A,rfl⟩:=ma
 obtain ⟨B,a,l,i,s,rfl⟩:=mb
 refine Pr _ _ _ _ _ _ ?_
 unfold Jp
 refine K8 R5 (by omega) (by omega) (by omega) ?_
 intro b o
 rw [aO]
 refine ⟨_,_,_,rfl,?_⟩
 have w:=Win.blk .u64 C4 o (List.replicate xn 0)
 refine Hk R5 w (by simp) (k.mono w.le) c (by simp;omega) ?_
 intro z f
 refine ⟨_,rfl,?_⟩
 rw [List.drop_of_length_le (by simp;omega),List.append_nil] at f
 refine Ew f c l a p i (by omega) hyx (by omega) ?_
 intro zs u n d e g
 refine ⟨rfl,?_⟩
 refine Ce g.sl d (by omega) e (Nat.le_refl _) (by omega) ?_
 intro m r q
 exact ⟨_,_,_,rfl,hK _ _ _ _ g.le r q⟩
def Nr{b:Nat}{e:TypeId}{N:Nat}{M v:Int}(S:SumS h g b e N M v)(hN2:N<=400000000)(hK:∀ s A n c h',h.le h'->ZI h' s A n c v->K (.agg #[.bool s,.slice A n c]) h'):FCall prog Tj #[.pointer (some ⟨b,0,none⟩)] h K:=by
 obtain ⟨PA,NA,u,w,y,t,f,ns,g1,z,B,p,hb,rfl,o,k,dp,R,G,W,Q,C⟩:=S
 have H:(aC ⟨b,0,none⟩ 0)=⟨b,0,none⟩:=Hm b 0 0
 have E:(aC ⟨b,0,none⟩ 1)=⟨b,1,none⟩:=Hm b 0 1
 have D:=Heap.le_put (.cells #[.slice PA u w,.slice NA y t] e) hb
 refine B5e _ ?_
 unfold C0j
 refine ⟨_,rfl,_,_,_,by rw [H,E8];rfl,_,rfl,_,_,_,by rw [E,E8];rfl,?_⟩
 have X:SlI .u64 (z.put b (.cells #[.slice PA u w,.slice NA y t] e)) PA f:=SlI.mono D (SlI.mono p.le B.slV)
 have L:SlI .u64 (z.put b (.cells #[.slice PA u w,.slice NA y t] e)) NA ns:=SlI.mono D p.slV
 refine Ce X dp o rfl B.2.1 (by omega) ?_
 intro m1 Z M1
 refine ⟨_,_,_,rfl,B5 _,?_⟩
 refine Ce L R k rfl p.2.1 (by omega) ?_
 intro m2 O M2
 refine ⟨_,_,_,rfl,B5 _,?_⟩
 refine J8 M1 M2 (by omega) ⟨_,rfl,?_⟩
 refine B8 (fun i=>?_) (fun i=>?_)
 ·have a:val b64 ns<=val b64 f:=by unfold Xl at i;split at i<;>omega
  refine Do M1 M2 a (by omega) ?_
  intro A3 F c3 J q r M3
  obtain ⟨d,j⟩:=aT (show 0<=val b64 f-val b64 ns by omega)
  rw [j] at M3
  refine ⟨_,_,_,rfl,Q3 (v:=d) M3 r ?_⟩
  intro T l
  refine ⟨_,_,_,_,rfl,hK _ _ _ _ _ q ?_⟩
  rw [G,j];exact l
 ·have a:val b64 f<=val b64 ns:=by
   unfold Xl at i
   by_cases V:val b64 f<val b64 ns
   ·omega
   ·rw [iN V] at i;split at i<;>omega
  refine Do M2 M1 a (by omega) ?_
  intro A3 F c3 J q r M3
  obtain ⟨d,j⟩:=aT (show 0<=val b64 ns-val b64 f by omega)
  rw [j] at M3
  refine ⟨_,_,_,rfl,Q3 (v:=d) M3 r ?_⟩
  intro T l
  refine ⟨_,_,_,_,rfl,hK _ _ _ _ _ q ?_⟩
  have m:v= -(d:Int):=by omega
  rw [m];exact l
def A30(gl:Gtz h)(i:ZI h s A an ac x)(j:ZI h s' B bn bc y)(hx:ZB m x)(hy:ZB m y)(hm:m<=6400000000)(hK:∀ A' n' c' h',h.le h'->ZI h' false A' n' c' (Int.lcm x y:Int)->K (.agg #[.bool false,.slice A' n' c']) h'):FCall prog A8m #[.agg #[.bool s,.slice A an ac],.agg #[.bool s',.slice B bn bc]] h K:=by
 have c:=i.zeroIff
 have b:=j.zeroIff
 have f:=i.len hx hm
 have a:=j.len hy hm
 refine C2l _ _ _ _ _ _ _ _ ?_
 unfold C7f
 refine D8 (fun o=>?_) (fun l=>D8 (fun o=>?_) (fun z=>?_))
 ·refine hK none 0 0 h (B5 _) ?_
  rw [c.2 (by omega),Int.lcm_zero_left];exact ZI.zero
 ·refine hK none 0 0 h (B5 _) ?_
  rw [b.2 (by omega),Int.lcm_zero_right];exact ZI.zero
 ·have k:x≠0:=fun e=>l (by have:=c.1 e;omega)
  have u:y≠0:=fun e=>z (by have:=b.1 e;omega)
  refine Oj gl i.mag j.mag i.cap j.cap f a ?_
  intro A3 n c3 J d E M3
  refine ⟨_,_,_,rfl,d,?_⟩
  rw [Int.gcd_natCast_natCast] at M3
  have O:Nat.gcd x.natAbs y.natAbs≠0:=fun e=>by
   have:=Nat.eq_zero_of_gcd_eq_zero_left e
   omega
  have D:n<=100000000:=by
   refine Nat.le_trans (M3.len_le (by decide) (j:=bn) ?_) a
   have t:=j.mag.lt (by decide)
   have q:Nat.gcd x.natAbs y.natAbs<=y.natAbs:=Nat.gcd_le_right _ (by omega)
   omega
  refine V1 (j.mag.mono d) M3 j.cap E (by omega) (by omega) (by omega) ?_
  intro A4 p c4 A5 H c5 N g w L M4 M5
  refine ⟨_,_,_,_,_,_,rfl,g,?_⟩
  rw [<- Int.natCast_ediv] at M4
  have r:p<=100000000:=by
   refine Nat.le_trans (M4.len_le (by decide) (j:=bn) ?_) a
   have t:=j.mag.lt (by decide)
   have q:=Nat.div_le_self y.natAbs (Nat.gcd x.natAbs y.natAbs)
   omega
  refine I8 (i.mag.mono (B0 d g)) M4 i.cap w (by omega) (by omega) ?_
  intro A6 M c6 G F C M6
  refine ⟨_,_,_,rfl,hK _ _ _ _ (B0 d (B0 g F)) ⟨C,?_,?_⟩⟩
  ·rw [Int.natAbs_natCast]
   rw [<- Int.natCast_mul] at M6
   have:Int.lcm x y=x.natAbs*(y.natAbs/Nat.gcd x.natAbs y.natAbs):=by
    show Nat.lcm x.natAbs y.natAbs=_
    rw [Nat.lcm,Nat.mul_div_assoc _ (Nat.gcd_dvd_right _ _)]
   rw [this];exact M6
  ·symm;rw [decide_eq_false_iff_not];omega
end
abbrev RQr:aE->QV->Rat->Prop:=fun h w q=>RQ h w q
abbrev NQr:aE->QV->Rat->Prop:=fun h w q=>NQ h w q
abbrev ZIr:aE->IV->Int->Prop:=fun h w z=>ZI h w.s w.A w.n w.c z
abbrev SSr:aE->List UInt8->List UInt8->Prop:=fun _ w s=>w=s
def Mon{α β:Type}(R:aE->α->β->Prop):Prop:=∀ (h h':aE) (w:α) (x:β),h.le h'->R h w x->R h' w x
def H1:Mon RQr:=fun _ _ _ _ a i=>⟨i.num.mono a,i.den.mono a⟩
def R6:Mon NQr:=fun _ _ _ _ a i=>NQ.mono a i
def Gn:Mon ZIr:=fun _ _ _ _ a i=>i.mono a
def J5:Mon SSr:=fun _ _ _ _ _ i=>i
instance:Enc QV:=⟨⟨fun w=>[.bool w.s,.slice w.A w.n w.c,.bool w.s2,.slice w.A2 w.n2 w.c2],4,fun _=>rfl,fun w v hv=>by simp at hv;rcases hv with rfl|rfl|rfl|rfl<;>rfl⟩⟩
section
variable {α β:Type}
def Row(R:aE->α->β->Prop)(g:aE)(xs:List α)(n:Nat)(f:Nat->β):Prop:=∀ i,i<n->∃ w,xs[i]? = some w/\R g w (f i)
variable {R:aE->α->β->Prop} {g g' h h':aE} {xs:List α} {n:Nat} {f:Nat->β}
def Row.mono(m:Mon R)(hl:g.le g')(r:Row R g xs n f):Row R g' xs n f:=fun i b=>by
 obtain ⟨w,e,a⟩:=r i b
 exact ⟨w,e,m _ _ _ _ hl a⟩
def Row.nil:Row R g xs 0 f:=fun i a=>by omega
def Row.set{k:Nat}(r:Row R g xs k f)(hk:k<xs.length){w:α}(hw:R g w (f k)):Row R g (xs.set k w) (k+1) f:=fun i c=>by
 by_cases e:i=k
 ·subst e;exact ⟨w,by rw [aU hk],hw⟩
 ·obtain ⟨u,a,b⟩:=r i (by omega)
  exact ⟨u,by rw [List.getElem?_set_ne (fun x=>e x.symm)];exact a,b⟩
def Row.upd(r:Row R g xs n f){k:Nat}(hk:k<xs.length){w:α}{y:β}(hw:R g w y):Row R g (xs.set k w) n (fun i=>if i=k then y else f i):=fun i a=>by
 by_cases e:i=k
 ·subst e;exact ⟨w,by rw [aU hk],by show R g w (if i=i then y else f i);rw [iP rfl];exact hw⟩
 ·obtain ⟨u,b,c⟩:=r i a
  exact ⟨u,by rw [List.getElem?_set_ne (fun x=>e x.symm)];exact b,by show R g u (if i=k then y else f i);rw [iN e];exact c⟩
def Row.push(r:Row R g xs xs.length f){w:α}(hw:R g w (f xs.length)):Row R g (xs++[w]) (xs++[w]).length f:=fun i a=>by
 rw [List.length_append] at a
 by_cases e:i=xs.length
 ·subst e;exact ⟨w,by simp,hw⟩
 ·obtain ⟨u,b,c⟩:=r i (by simp at a;omega)
  exact ⟨u,by rw [List.getElem?_append_left (by simp at a;omega)];exact b,c⟩
def Row.congr{f':Nat->β}(r:Row R g xs n f)(h:∀ i,i<n->f i=f' i):Row R g xs n f':=fun i a=>by
 obtain ⟨w,e,b⟩:=r i a
 exact ⟨w,e,by rw [<- h i a];exact b⟩
def Row.get(r:Row R g xs n f){i:Nat}(hi:i<n)(hl:i<xs.length):R g xs[i] (f i):=by
 obtain ⟨w,e,a⟩:=r i hi
 rw [List.getElem?_eq_getElem hl] at e
 cases e;exact a
variable [E:Enc α]
def RowV(R:aE->α->β->Prop)(h:aE)(A:Option aM)(n:Nat)(f:Nat->β):Prop:=∃ xs:List α,SlF h A xs/\xs.length=n/\Row R h xs n f
def RowV.mono(m:Mon R){A:Option aM}(hl:h.le h')(r:RowV R h A n f):RowV R h' A n f:=by
 obtain ⟨a,s,e,r⟩:=r
 exact ⟨a,s.mono hl,e,r.mono m hl⟩
def RowV.nil{A:Option aM}:RowV R h A 0 f:=⟨[],SlF.nil,rfl,Row.nil⟩
def RowV.congr{A:Option aM}{f':Nat->β}(r:RowV R h A n f)(e:∀ i,i<n->f i=f' i):RowV R h A n f':=by
 obtain ⟨a,s,l,r⟩:=r
 exact ⟨a,s,l,r.congr e⟩
def RowV.cut{A:Option aM}(r:RowV R h A n f){c l k:Nat}(hlk:l+k<=n)(hc:n<=c):RowV R h (I5 A c l E.default.size) k (fun i=>f (l+i)):=by
 obtain ⟨a,s,e,r⟩:=r
 refine ⟨(a.drop l).take (l+k-l),s.cut (l:=l) (m:=l+k) (by omega) (by omega) (by omega),by simp;omega,fun i g=>?_⟩
 obtain ⟨w,d,b⟩:=r (l+i) (by omega)
 exact ⟨w,by rw [List.getElem?_take,iP (by omega),List.getElem?_drop];exact d,b⟩
def RowV.at(pos:0<E.default.size){A:Option aM}(r:RowV R h A n f){i:Nat}(hi:i<n):∃ a w,A=some a/\R h w (f i)/\∀ j v,(enc w)[j]? = some v->h.cell? (aC (aC a (i*E.default.size)) j)=some v:=by
 obtain ⟨c,s,e,r⟩:=r
 obtain ⟨a,d,b⟩:=SlF.at pos s (i:=i) (by omega)
 exact ⟨a,c[i],d,r.get hi (by omega),b⟩
structure Own (R:aE->α->β->Prop) (h h':aE) (b n:Nat) (f:Nat->β):Prop where
 ex:∃ g o xs,h.le g/\Sep h' g o/\RowX o b xs/\xs.length=n/\Row R g xs n f
def Own.le{b:Nat}(w:Own R h h' b n f):h.le h':=by
 obtain ⟨g,o,a,l,s,_⟩:=w.ex
 exact B0 l s.le
def Own.vis(m:Mon R){b:Nat}(w:Own R h h' b n f):RowV R h' (some ⟨b,0,none⟩) n f:=by
 obtain ⟨g,o,a,l,s,r,e,q⟩:=w.ex
 exact ⟨a,r.rowB.slF s.ole,e,q.mono m s.le⟩
end
section
variable {h:aE} {A:Option aM} {n:Nat}
def RowV.qat{R:aE->QV->Rat->Prop}{f:Nat->Rat}(r:RowV R h A n f){i:Nat}(hi:i<n):∃ a w,A=some a/\R h w (f i)/\h.cell? (aC (aC a (i*4)) 0)=some (.bool w.s)/\h.cell? (aC (aC a (i*4)) 1)=some (.slice w.A w.n w.c)/\h.cell? (aC (aC a (i*4)) 2)=some (.bool w.s2)/\h.cell? (aC (aC a (i*4)) 3)=some (.slice w.A2 w.n2 w.c2):=by
 obtain ⟨a,w,e,d,b⟩:=r.at (by decide) hi
 exact ⟨a,w,e,d,b 0 _ rfl,b 1 _ rfl,b 2 _ rfl,b 3 _ rfl⟩
def RowV.zat{f:Nat->Int}(r:RowV ZIr h A n f){i:Nat}(hi:i<n):∃ a w,A=some a/\ZIr h w (f i)/\h.cell? (aC (aC a (i*2)) 0)=some (.bool w.s)/\h.cell? (aC (aC a (i*2)) 1)=some (.slice w.A w.n w.c):=by
 obtain ⟨a,w,e,d,b⟩:=r.at (by decide) hi
 exact ⟨a,w,e,d,b 0 _ rfl,b 1 _ rfl⟩
def RowV.sat{f:Nat->List UInt8}(r:RowV SSr h A n f){i:Nat}(hi:i<n):∃ a,A=some a/\h.cell? (aC a (i*1))=some (.string (bs (f i))):=by
 obtain ⟨a,w,e,d,c⟩:=r.at (by decide) hi
 have b:w=f i:=d
 subst b
 refine ⟨a,e,?_⟩
 have:=c 0 _ rfl
 rw [Wn] at this
 exact this
end
