/- A part. -/
import Derived.Test.YtmbfcbbkbefgfaaGreatDoorG21
import Derived.Test.YtmbfcbbkbefgfaaGreatDoorG26
import Derived.Test.YtmbfcbbkbefgfaaGreatDoorG25
open Go.Proofs.Tryz
set_option linter.all false
open _root_.Go.Addr renaming add->aC
open Int renaming mul_le_mul_of_nonneg_left->aF,mul_zero->aH,add_zero->aK,pow_pos->aN,toNat_natCast->aO,le_of_lt->aP,eq_ofNat_of_zero_le->aT
open List renaming length_take->aI,take_of_length_le->aJ,take_append_drop->aL,eq_nil_of_length_eq_zero->aQ,getElem?_cons_zero->aR,getElem?_cons_succ->aS,getElem?_set_self->aU
open List.cons renaming injEq->aG
open _root_.Go.Value.slice renaming injEq->aD
open _root_.Go renaming Addr->aM
open _root_.Go.Proofs.YtmbfcbbkbefgfaaGreatDoor renaming Heap->aE
namespace Go.Proofs.YtmbfcbbkbefgfaaGreatDoor
set_option maxRecDepth 20000
open Go
section
variable {h g:aE} {K:VP} {A B:Option aM} {s s':Bool} {an ac bn bc m:Nat} {x y:Int}
end
def B1l(B:Int):∀ {ts:List Int} {k:Nat} (_:k<ts.length) (v:Int),val B (ts.set k v)=val B ts+B^k*(v-ts.getD k 0)
 | [],k,h,v=>by simp at h
 | t::ts,0,h,v=>by simp [val];grind
 | t::ts,k+1,h,v=>by
  have ih:=B1l B (ts:=ts) (k:=k) (by simpa using h) v
  simp only [List.set_cons_succ,val,List.getD_cons_succ,ih,Int.pow_succ]
  grind
section
variable {h g:aE} {K:VP} {A B:Option aM} {s s':Bool} {an ac bn bc m:Nat} {x y:Int}
def A93{hp:aE}{n c k:Nat}{ts:List Int}{ca:Int}(p:Pw hp g A n c ts)(hn:n=ts.length)(dt:Dig b64 ts)(hk:k<n)(hca:0<=ca/\ca<18446744073709551616){Q:Int->aE->Prop}
 (hQ:∀ h' ts',Pw h' g A n c ts'->n=ts'.length->Dig b64 ts'->val b64 ts'+b64^(k+1)*((ts.getD k 0+ca)/18446744073709551616)=val b64 ts+b64^k*ca->Q ((ts.getD k 0+ca)/18446744073709551616) h'):
 ∃ a,A=some a/\0<=(k:Int)/\(k:Int)<((n:Nat):Int)/\∃ (t:Int),Heap.cell? hp (aC a (((k:Int)).toNat*1))=some (U t)/\ECall prog S6 #[U t,U ca,U (0:Int)] hp (fun r hp1=>∃ (ta tb:Int),r= .tuple #[U ta,U tb]/\∃ a2,A=some a2/\0<=(k:Int)/\(k:Int)<((n:Nat):Int)/\wpH prog (Instr.storeAt C1 (.pointer (some (aC a2 (((k:Int)).toNat*1)))) (U ta)) (fun _ hp2=>Q tb hp2) hp1):=by
 have d:ts≠[]:=by rintro rfl;simp at hn;omega
 obtain ⟨b,j,w,s⟩:=Fg p d
 have o:=N9 dt k
 refine w.sl.load hn (by omega) (by omega) ?_
 simp only [aO]
 refine Do o hca (by omega) ⟨_,_,rfl,?_⟩
 obtain ⟨a,l,_⟩:=SlV.at w.sl (i:=k) (by simp;omega)
 refine ⟨a,l,by omega,by omega,w.storeN F4 l (by omega) ?_⟩
 intro u e
 simp only [aK] at e ⊢
 have f:=e.priv (m:=n) (c:=c) (by intro x;have:=congrArg List.length x;rw [List.length_set,List.length_nil] at this;exact d (aQ this)) (by simpa using s) (by simp;omega)
 rw [aJ (by simp;omega)] at f
 refine hQ u _ f (by simpa using hn) (dt.set (En _)) ?_
 rw [B1l b64 (by omega),Int.pow_succ]
 have:=Int.mul_ediv_add_emod (ts.getD k 0+ca) 18446744073709551616
 show _+b64^k*_+b64^k*18446744073709551616*_=_
 generalize (ts.getD k 0+ca)/18446744073709551616=q at *
 generalize (ts.getD k 0+ca)%18446744073709551616=r at *
 grind
def B4o{Invv1:LP}{muv1:LN}{TA:Option aM}{tn tc i x2n:Nat}{ts:List Int}{ca:Int}{hp8 hp7:aE}(p:Pw hp8 g TA tn tc ts)(hn:tn=ts.length)(dt:Dig b64 ts)(hle:i+x2n<=tn)(hca:0<=ca/\ca<18446744073709551616)(hl:tn<=1000000000)
 (hK:∀ TA' tn' tc' ts' h' g',g.le g'->Pw h' g' TA' tn' tc' ts'->tn'=ts'.length->Dig b64 ts'->val b64 ts'=val b64 ts+b64^(i+x2n)*ca->(tn'=tn\/(tn'=tn+1/\b64^tn<=val b64 ts'))->Invv1 [.slice TA' tn' tc',I (B4 ((i:Int)+1))] h'/\muv1 [.slice TA' tn' tc',I (B4 ((i:Int)+1))] h'<muv1 [.slice TA tn tc,I (i:Int)] hp7):
 Dz prog x2n Invv1 muv1 TA tn tc (i:Int) ca hp8 hp7:=by
 unfold Dz
 have W:B4 ((i:Int)+(x2n:Int))=((i+x2n:Nat):Int):=by rw [B7 (by omega) (by omega)];omega
 rw [W]
 refine ⟨fun L hp=>∃ (k:Nat) (c1:Int) (d:List Int) (A1:Option aM) (b c:Nat) (u:aE),L=[.slice A1 b c,U c1,I k]/\g.le u/\Pw hp u A1 b c d/\b=d.length/\Dig b64 d/\k<=b/\(0<=c1/\c1<18446744073709551616)/\val b64 d+b64^k*c1=val b64 ts+b64^(i+x2n)*ca/\(b=tn\/(b=tn+1/\c1=0/\b64^tn<=val b64 d)),fun L _=>tn+2-(iAt L 2).toNat,⟨i+x2n,ca,ts,TA,tn,tc,g,rfl,B3 _,p,hn,dt,hle,hca,rfl,.inl rfl⟩,?_⟩
 rintro A1 b c c1 k0 z ⟨k,T,d,A1',V,J,u,R,x,C,n,r,hk,e,w,s⟩
 simp only [aG,aD,Value.int.injEq,and_true,true_and] at R
 obtain ⟨⟨rfl,rfl,rfl⟩,rfl,rfl⟩:=R
 refine I3 (fun A=>?_) (fun A=>?_)
 ·have j:b=tn:=by
   rcases s with m|⟨_,m,_⟩
   ·exact m
   ·exact absurd m A
  have O:B4 ((k:Int)+1)=((k+1:Nat):Int):=by rw [B7 (by omega) (by omega)];omega
  have q:∀ (Q G N H:Value),tn+2-(iAt [Q,G,I ((k+1:Nat):Int)] 2).toNat<tn+2-(iAt [N,H,I (k:Int)] 2).toNat:=by
   intro Q G N H
   simp only [iAt,aR,aS]
   omega
  refine D8 (fun y=>?_) (fun y=>?_)
  ·have t:k=b:=by omega
   refine Ds Q1 C rfl rfl (by omega) (by omega) ?_
   intro A2 c2 h2 S X M
   rw [<- List.map_singleton (f:=Value.int .u64),<- List.map_append] at M
   have Z:Dig b64 (d++[0]):=r.append (Dig.one (by decide))
   refine A93 M (by simp;omega) Z (by omega) e ?_
   intro F l D o E a
   have hz:(d++[0]).getD k 0=0:=by
    rw [t,n,List.getD,List.getElem?_append_right (Nat.le_refl _)];simp
   rw [hz,Int.zero_add,Int.ediv_eq_zero_of_lt e.1 e.2] at a ⊢
   rw [O]
   rw [F0,aH,aK,aH,aK] at a
   refine ⟨⟨k+1,0,l,A2,b+1,c2,S,rfl,Heap.le_trans x X,D,o,E,by omega,by omega,?_,.inr ⟨by omega,rfl,?_⟩⟩,q _ _ _ _⟩
   ·rw [a,aH,aK];exact w
   ·rw [a,<- j,<- t]
    have h5:=C6 (B:=b64) (by decide) r
    have h6:b64^k*1<=b64^k*c1:=aF (by omega) (aP (aN (by decide)))
    omega
  ·refine A93 C n r (by omega) e ?_
   intro F l D o E a
   rw [O]
   have gt:=N9 r k
   refine ⟨⟨k+1,_,l,A1,b,c,u,rfl,x,D,o,E,by omega,?_,?_,.inl j⟩,q _ _ _ _⟩
   ·constructor
    ·exact Int.ediv_nonneg (by omega) (by decide)
    ·omega
   ·rw [a];exact w
 ·subst A
  rw [aH,aK] at w
  refine hK A1 b c d z u x C n r w ?_
  rcases s with m|⟨m,_,F⟩
  ·exact .inl m
  ·exact .inr ⟨m,F⟩
def B80{XA YA TA:Option aM}{xs ys ts:List Int}{x2n x2c y2n tn tc N:Nat}{hp4:aE}(p:Pw hp4 g TA tn tc ts)(hn:tn=ts.length)(dt:Dig b64 ts)(sx:SlI .u64 g XA xs)(hx:x2n=xs.length)(dx:Dig b64 xs)(sy:SlI .u64 g YA ys)(hy:y2n=ys.length)(dy:Dig b64 ys)(hxy:x2n+y2n<=tn)(hN:tn<=N)(hN2:N<=400000000)(hV:val b64 ts+val b64 xs*val b64 ys<b64^N)
 (hK:∀ TA' tn' tc' ts' h' g',g.le g'->Pw h' g' TA' tn' tc' ts'->tn'=ts'.length->Dig b64 ts'->val b64 ts'=val b64 ts+val b64 xs*val b64 ys->tn'<=N->K (.slice TA' tn' tc') h'):
 Gv prog K XA x2n x2c YA y2n TA tn tc hp4:=by
 unfold Gv
 have S:=C6 (B:=b64) (by decide) dx
 have ac:=C6 (B:=b64) (by decide) dy
 have n:∀ k,val b64 (ys.take k)<=val b64 ys:=by
  intro k
  have H:=G0 b64 (ys.take k) (ys.drop k)
  rw [aL] at H
  have h2:0<=b64^(ys.take k).length*val b64 (ys.drop k):=Int.mul_nonneg (aP (aN (by decide))) (C6 (B:=b64) (by decide) (dy.drop k))
  omega
 refine ⟨fun L hp=>∃ (k:Nat) (a:List Int) (A1:Option aM) (e d:Nat) (C:aE),L=[.slice A1 e d,I k]/\g.le C/\Pw hp C A1 e d a/\e=a.length/\Dig b64 a/\k<=y2n/\val b64 a=val b64 ts+val b64 xs*val b64 (ys.take k)/\x2n+y2n<=e/\e<=N,fun L _=>y2n-(iAt L 1).toNat,⟨0,ts,TA,tn,tc,g,rfl,B3 _,p,hn,dt,by omega,by simp [val],hxy,hN⟩,?_⟩
 rintro A1 e d k0 V ⟨k,a,A1',aa,Z,C,hL,y,O,t,z,hk,E,ad,r⟩
 simp only [aG,aD,Value.int.injEq,and_true,true_and] at hL
 obtain ⟨⟨rfl,rfl,rfl⟩,rfl⟩:=hL
 refine B6 (fun H=>?_) (fun H=>?_)
 ·have gy:=N9 dy k
  have vy:=C4 b64 ys k
  have M:B4 ((k:Int)+(x2n:Int))=((k+x2n:Nat):Int):=by rw [B7 (by omega) (by omega)];omega
  rw [M]
  refine (sy.mono (Heap.le_trans y O.le)).load hy (by omega) (by omega) ?_
  simp only [aO]
  have x:a≠[]:=by rintro rfl;simp at t;omega
  obtain ⟨b,X,w,hc⟩:=Fg O x
  refine ⟨⟨by omega,by omega⟩,⟨by omega,by omega⟩,?_⟩
  have f:((a.drop k).take (k+x2n-k)).length=xs.length:=by rw [aI,List.length_drop];omega
  refine Ix (w.sub (l:=k) (m:=k+x2n) (c:=d) (by omega) (by omega) (by omega)) (by rw [f];omega) (sx.mono y) hx ((z.drop k).take _) dx f gy (by omega) ?_
  intro A c h' i q J G w'
  rw [f] at i G
  have w2:=w.whole (l:=k) (m:=k+x2n) (by omega) (by omega) (by omega) w'
  refine ⟨_,rfl,?_⟩
  have o:(a.take k++A++a.drop (k+x2n)).length=a.length:=by
   simp only [List.length_append,aI,List.length_drop];omega
  have u:a.take k++A++a.drop (k+x2n)≠[]:=by
   intro e0
   rw [e0] at o
   exact x (aQ (by simpa using o.symm))
  have p2:=w2.priv (m:=e) (c:=d) u (by rw [o];exact hc) (by omega)
  rw [aJ (by omega)] at p2
  have d2:Dig b64 (a.take k++A++a.drop (k+x2n)):=((z.take k).append q).append (z.drop _)
  have T:a=a.take k++((a.drop k).take (k+x2n-k)++a.drop (k+x2n)):=by
   have M:a.drop (k+x2n)=(a.drop k).drop (k+x2n-k):=by rw [List.drop_drop];congr 1;omega
   rw [M,aL,aL]
  have j:val b64 (a.take k++A++a.drop (k+x2n))+b64^(k+x2n)*c=val b64 a+b64^k*(val b64 xs*ys.getD k 0):=by
   have e2:val b64 a=val b64 (a.take k)+b64^k*(val b64 ((a.drop k).take (k+x2n-k))+b64^xs.length*val b64 (a.drop (k+x2n))):=by
    conv=>lhs;rw [T]
    rw [G0,G0,f,aI,Nat.min_eq_left (by omega)]
   rw [e2,List.append_assoc,G0,G0,aI,Nat.min_eq_left (by omega),i,hx,Int.pow_add]
   generalize b64^k=P at *
   generalize b64^xs.length=R at *
   grind
  refine B4o p2 (by omega) d2 (by omega) J (by omega) ?_
  intro TA' tn' tc' ts' h3 g3 l3 p3 W d3 s Q
  rw [j,E] at s
  have F:val b64 ts'=val b64 ts+val b64 xs*val b64 (ys.take (k+1)):=by
   rw [s,vy];grind
  have D:tn'<=N:=by
   rcases Q with h4|⟨h4,h5⟩
   ·omega
   ·have h6:=aF (n (k+1)) S
    have h7:b64^e<b64^N:=by omega
    have h8:e<N:=by
     by_cases h9:e<N
     ·exact h9
     ·have:=C8 (B:=b64) (by decide) (show N<=e by omega)
      omega
    omega
  have e3:B4 ((k:Int)+1)=((k+1:Nat):Int):=by rw [B7 (by omega) (by omega)];omega
  rw [e3]
  exact ⟨⟨k+1,ts',TA',tn',tc',g3,rfl,Heap.le_trans y l3,p3,W,d3,by omega,F,by omega,D⟩,by simp only [iAt,aR,aS];omega⟩
 ·obtain rfl:k=y2n:=by omega
  rw [aJ (by omega)] at E
  exact hK A1 e d a V C y O t z E r
def Iz{TA XA YA:Option aM}{ts:List Int}{tn tc xn xc yn yc N:Nat}(p:Pw h g TA tn tc ts)(hn:tn=ts.length)(dt:Dig b64 ts)(ma:Mw g XA xn x)(mb:Mw g YA yn y)(hxc:xn<=xc)(hyc:yn<=yc)(hN:tn<=N)(hxy:xn+yn+1<=N)(hN2:N<=400000000)(hV:val b64 ts+x*y<b64^N)
 (hK:∀ TA' tn' tc' ts' h' g',g.le g'->Pw h' g' TA' tn' tc' ts'->tn'=ts'.length->Dig b64 ts'->val b64 ts'=val b64 ts+x*y->tn'<=N->K (.slice TA' tn' tc') h'):FCall prog Bo #[.slice TA tn tc,.slice XA xn xc,.slice YA yn yc] h K:=by
 have ap:=ma.nonneg (by decide)
 have ae:=mb.nonneg (by decide)
 refine Xs _ _ _ _ _ _ _ _ _ ?_
 unfold Wo
 refine ⟨fun L D=>D=h/\∃ (A1 B1:Option aM) (e c1 t c2:Nat) (r c:Int),L=[.slice A1 e c1,.slice B1 t c2]/\Mw g A1 e r/\Mw g B1 t c/\e<=c1/\t<=c2/\e+t=xn+yn/\r*c=x*y,B6 (fun _=>⟨rfl,_,_,_,_,_,_,y,x,rfl,mb,ma,hyc,hxc,by omega,Int.mul_comm _ _⟩) (fun _=>⟨rfl,_,_,_,_,_,_,x,y,rfl,ma,mb,hxc,hyc,rfl,rfl⟩),?_⟩
 rintro A1 e c1 B1 t c2 D ⟨rfl,A1',B1',ah,ag,af,al,r,c,l,F,E,k1,k2,ar,k⟩
 simp only [aG,aD,and_true] at l
 obtain ⟨⟨rfl,rfl,rfl⟩,rfl,rfl,rfl⟩:=l
 have ac:=F.nonneg (by decide)
 have aa:=E.nonneg (by decide)
 refine ⟨fun L A=>∃ (A2 B2:Option aM) (a S d c4:Nat) (X M:Int) (q:aE),L=[.slice A2 a S,.slice B2 d c4]/\g.le q/\Pw A q TA tn tc ts/\Mw q A2 a X/\Mw q B2 d M/\a+d<=xn+yn+1/\X*M=x*y,B6 (fun _=>?_) (fun _=>⟨_,_,_,_,_,_,r,c,g,rfl,B3 _,p,F,E,by omega,k⟩),?_⟩
 ·refine p.call ?_
  refine H2 F E k1 k2 (by omega) (by omega) ?_
  intro A3 a S g3 l3 k3 M3 h3 p3
  refine ⟨_,_,_,rfl,?_⟩
  refine An Q1 rfl ?_
  intro b V
  have w:g3 b=none:=by
   cases hx1:g3 b with
   | none=>rfl
   | some o=>rw [p3.le b o hx1] at V;cases V
  refine ⟨_,_,_,rfl,_,_,_,_,_,_,r*c,1,g3.put b (.cells #[U 1] C1),rfl,Heap.le_trans l3 (Heap.le_put _ w),p3.put V _,M3.mono (Heap.le_put _ w),?_,?_,by rw [Int.mul_one];exact k⟩
  ·refine ⟨[1],rfl,SlI.new _ _ _ _ _,?_,?_,?_⟩
   ·intro x hx;simp at hx;subst hx;decide
   ·unfold Norm;simp
   ·simp [val]
  ·have C:=F.lt (by decide)
   have z:=E.lt (by decide)
   have R:r*c<b64^(e+t):=by
    rw [Int.pow_add]
    by_cases h0:c=0
    ·subst h0
     rw [aH]
     exact Int.mul_pos (aN (by decide)) (aN (by decide))
    ·have h1:r*c<b64^e*c:=Int.mul_lt_mul_of_pos_right C (by omega)
     have h2:b64^e*c<=b64^e*b64^t:=aF (aP z) (aP (aN (by decide)))
     omega
   have:=M3.len_le (by decide) R
   omega
 rintro A2 a S B2 d c4 A ⟨A2',B2',aq,ak,an,aj,X,M,q,l,lg,p1,M1,M2,ai,m⟩
 simp only [aG,aD,and_true] at l
 obtain ⟨⟨rfl,rfl,rfl⟩,rfl,rfl,rfl⟩:=l
 obtain ⟨xs,H,sx,dx,nx,rfl⟩:=M1
 obtain ⟨ys,Z,sy,dy,ny,rfl⟩:=M2
 unfold Pi
 have e1:B4 ((a:Int)+(d:Int))=((a+d:Nat):Int):=by rw [B7 (by omega) (by omega)];omega
 rw [e1]
 refine ⟨fun L D=>∃ (u:List Int) (A5:Option aM) (j O:Nat) (W:aE),L=[.slice A5 j O]/\q.le W/\Pw D W A5 j O u/\j=u.length/\Dig b64 u/\val b64 u=val b64 ts/\j<=N,fun L _=>match L with|[.slice _ n _]=>a+d-n|_=>0,⟨ts,TA,tn,tc,q,rfl,B3 _,p1,hn,dt,rfl,hN⟩,?_⟩
 rintro A5 j O ad ⟨u,A5',am,ao,W,l,i,p5,G,du,s,T⟩
 simp only [aG,aD,and_true] at l
 obtain ⟨rfl,rfl,rfl⟩:=l
 refine B6 (fun h1=>?_) (fun h1=>?_)
 ·refine Ds Q1 p5 rfl rfl (by omega) (by omega) ?_
  intro A6 c6 h6 g6 l6 p6
  rw [<- List.map_singleton (f:=Value.int .u64),<- List.map_append] at p6
  refine ⟨⟨u++[0],A6,j+1,c6,g6,rfl,Heap.le_trans i l6,p6,by simp;omega,du.append (Dig.one (by decide)),by rw [F0,s];simp,by omega⟩,?_⟩
  show a+d-(j+1)<a+d-j
  omega
 ·refine B80 (N:=N) p5 G du (sx.mono i) H dx (sy.mono i) Z dy (by omega) T hN2 (by rw [s,m];exact hV) ?_
  intro TA' tn' tc' ts' h' g' l' p' Q d' B J
  rw [s,m] at B
  exact hK TA' tn' tc' ts' h' g' (Heap.le_trans lg (Heap.le_trans i l')) p' Q d' B J
def SumS(h g:aE)(b:Nat)(e:TypeId)(N:Nat)(M v:Int):Prop:=∃ (PA NA:Option aM) (pn pc nn nc:Nat) (ps ns:List Int) (g1 g2:aE),Pw g1 g PA pn pc ps/\Pw g2 g1 NA nn nc ns/\g2 b=none/\h=g2.put b (.cells #[.slice PA pn pc,.slice NA nn nc] e)/\pn=ps.length/\nn=ns.length/\Dig b64 ps/\Dig b64 ns/\v=val b64 ps-val b64 ns/\pn<=N/\nn<=N/\val b64 ps+val b64 ns<=M
def SumS.le{b:Nat}{e:TypeId}{N:Nat}{M v:Int}(S:SumS h g b e N M v):g.le h:=by
 obtain ⟨PA,NA,o,n,m,f,k,i,l,j,a,d,c,rfl,_⟩:=S
 exact Heap.le_trans a.le (Heap.le_trans d.le (Heap.le_put _ c))
def SumS.zero{b:Nat}{e:TypeId}{N:Nat}(hb:g b=none):SumS (g.put b (.cells #[.slice none 0 0,.slice none 0 0] e)) g b e N 0 0:=
 ⟨none,none,0,0,0,0,[],[],g,g,Priv.nil _ _ _ _,Priv.nil _ _ _ _,hb,rfl,rfl,rfl,Dig.nil,Dig.nil,by simp [val],by omega,by omega,by simp [val]⟩
def Jr:prog.cellsOf Y6=1/\(prog.info? Y6).isSome=true:=by constructor<;>kernel_rfl
def As{b:Nat}{e:TypeId}{N:Nat}{M v:Int}{N1:Nat}(S:SumS h g b e N M v)(i:ZI g s A an ac x)(j:ZI g s' B bn bc y)(hab:an+bn+1<=N)(hN2:N<=400000000)(hM:M+(x*y).natAbs<b64^N1)(hN1:N1<=N)
 (hK:∀ h' g',g.le g'->SumS h' g' b e N (M+(x*y).natAbs) (v+x*y)->K (.tuple #[]) h'):FCall prog V1 #[.pointer (some ⟨b,0,none⟩),.agg #[.bool s,.slice A an ac],.agg #[.bool s',.slice B bn bc]] h K:=by
 have O:=i.zeroIff
 have Q:=j.zeroIff
 have c1:=Ab i.sgn
 have c2:=Ab j.sgn
 have u:((x*y).natAbs:Int)=(x.natAbs:Int)*(y.natAbs:Int):=by rw [Int.natAbs_mul,Int.natCast_mul]
 refine Xu _ _ _ _ _ _ _ _ _ ?_
 unfold Wq
 have same:x*y=0->K (.tuple #[]) h:=by
  intro t
  refine hK h g (B3 _) ?_
  rw [t];simpa using S
 refine D8 (fun t=>same (by rw [O.2 (by omega),Int.zero_mul])) (fun _=>D8 (fun t=>same (by rw [Q.2 (by omega),aH])) (fun _=>?_))
 obtain ⟨PA,NA,pn,pc,nn,nc,ps,ns,g1,g2,G,p2,Z,rfl,w,m,dp,J,X,D,F,aa⟩:=S
 have af:=C6 (B:=b64) (by decide) dp
 have ae:=C6 (B:=b64) (by decide) J
 have ad:b64^N1<=b64^N:=C8 (by decide) hN1
 have t:(aC ⟨b,0,none⟩ 0)=⟨b,0,none⟩:=Gu b 0 0
 have e1:(aC ⟨b,0,none⟩ 1)=⟨b,1,none⟩:=Gu b 0 1
 refine Br.of (fun E=>?_) (fun E=>?_)
 ·have z:x*y= -((x.natAbs:Int)*(y.natAbs:Int)):=by
   rcases c1 with ⟨rfl,h1⟩|⟨rfl,h1⟩<;>rcases c2 with ⟨rfl,h2⟩|⟨rfl,h2⟩
   ·simp at E
   ·conv=>lhs;rw [h1,h2]
    rw [Int.neg_mul]
   ·conv=>lhs;rw [h1,h2]
    rw [Int.mul_neg]
   ·simp at E
  refine ⟨_,rfl,_,_,_,by rw [e1,E7];rfl,?_⟩
  refine FCall.frame (K:=fun r V=>∃ (TA':Option aM) (c d:Nat) (a:List Int) (g':aE),r= .slice TA' c d/\g1.le g'/\Pw V g' TA' c d a/\c=a.length/\Dig b64 a/\val b64 a=val b64 ns+(x.natAbs:Int)*(y.natAbs:Int)/\c<=N) Z (Iz (N:=N) p2 m J (i.mag.mono G.le) (j.mag.mono G.le) i.cap j.cap F hab hN2 (by omega) (fun TA' c d a h' g' o n k p f l=>⟨TA',c,d,a,g',rfl,o,n,k,p,f,l⟩)) ?_
  ·rintro r L q ⟨TA',c,d,a,g',rfl,o,n,k,p,f,l⟩
   refine ⟨_,_,_,rfl,_,rfl,?_⟩
   rw [e1]
   refine Ei Jr.1 Jr.2 rfl rfl (by simp) ?_
   obtain ⟨W,T,R⟩:=G.after o
   refine hK _ W T ⟨PA,TA',pn,pc,c,d,ps,a,g',L,R,n,q,rfl,w,k,dp,p,?_,D,l,?_⟩
   ·rw [f,X,z];omega
   ·rw [f,u];omega
 ·have C:x*y=(x.natAbs:Int)*(y.natAbs:Int):=by
   rcases c1 with ⟨rfl,h1⟩|⟨rfl,h1⟩<;>rcases c2 with ⟨rfl,h2⟩|⟨rfl,h2⟩
   ·conv=>lhs;rw [h1,h2]
    rw [Int.neg_mul_neg]
   ·simp at E
   ·simp at E
   ·conv=>lhs;rw [h1,h2]
  obtain ⟨g4,p4,H⟩:=p2.swap G
  refine ⟨_,rfl,_,_,_,by rw [t,E7];rfl,?_⟩
  refine FCall.frame (K:=fun r V=>∃ (TA':Option aM) (c d:Nat) (a:List Int) (g':aE),r= .slice TA' c d/\g4.le g'/\Pw V g' TA' c d a/\c=a.length/\Dig b64 a/\val b64 a=val b64 ps+(x.natAbs:Int)*(y.natAbs:Int)/\c<=N) Z (Iz (N:=N) p4 w dp (i.mag.mono H.le) (j.mag.mono H.le) i.cap j.cap D hab hN2 (by omega) (fun TA' c d a h' g' o n k p f l=>⟨TA',c,d,a,g',rfl,o,n,k,p,f,l⟩)) ?_
  ·rintro r L q ⟨TA',c,d,a,g',rfl,o,n,k,p,f,l⟩
   refine ⟨_,_,_,rfl,_,rfl,?_⟩
   rw [t]
   refine Ei Jr.1 Jr.2 rfl rfl (by simp) ?_
   obtain ⟨W,T,R⟩:=H.after o
   obtain ⟨g6,p6,p7⟩:=n.swap R
   refine hK _ W T ⟨TA',NA,c,d,nn,nc,a,ns,g6,L,p7,p6,q,rfl,k,m,p,J,?_,l,F,?_⟩
   ·rw [f,X,C];omega
   ·rw [f,u];omega
def Sp{b:Nat}{e:TypeId}{N:Nat}{M v:Int}{N1:Nat}(S:SumS h g b e N M v)(i:ZI g s A an ac x)(j:ZI g s' B bn bc y)(hab:an+bn+1<=N)(hN2:N<=400000000)(hM:M+(x*y).natAbs<b64^N1)(hN1:N1<=N)
 (hK:∀ h' g',g.le g'->SumS h' g' b e N (M+(x*y).natAbs) (v-x*y)->K (.tuple #[]) h'):FCall prog Gf #[.pointer (some ⟨b,0,none⟩),.agg #[.bool s,.slice A an ac],.agg #[.bool s',.slice B bn bc]] h K:=by
 refine Xt _ _ _ _ _ _ _ _ _ ?_
 unfold Wp
 refine T8 (i.mono S.le) ?_
 intro k f
 refine ⟨_,_,_,_,rfl,B3 _,?_⟩
 have d:ZI g k A an ac (-x):=⟨i.cap,by rw [Int.natAbs_neg];exact i.mag,f.sgn⟩
 have a:(-x*y).natAbs=(x*y).natAbs:=by rw [Int.neg_mul,Int.natAbs_neg]
 refine As (N1:=N1) S d j hab hN2 (by rw [a];exact hM) hN1 ?_
 intro h' g' c S'
 rw [a,Int.neg_mul,<- Int.sub_eq_add_neg] at S'
 exact ⟨rfl,hK h' g' c S'⟩
def Cw{XA YA:Option aM}{xn xc yn yc:Nat}(ma:Mw h XA xn x)(mb:Mw h YA yn y)(hyx:y<=x)(hl:xn<=1000000000)(hK:∀ A' m c' h',h.le h'->m<=c'->Mw h' A' m (x-y)->K (.slice A' m c') h'):FCall prog R7 #[.slice XA xn xc,.slice YA yn yc] h K:=by
 have o:yn<=xn:=mb.len_le (by decide) (Int.lt_of_le_of_lt hyx (ma.lt (by decide)))
 obtain ⟨B,c,p,r,u,rfl⟩:=ma
 obtain ⟨A,a,n,l,s,rfl⟩:=mb
 refine Pg _ _ _ _ _ _ ?_
 unfold Jc
 refine J7 Q1 (by omega) (by omega) (by omega) ?_
 intro b j
 rw [aO]
 refine ⟨_,_,_,rfl,?_⟩
 have w:=Win.blk .u64 C1 j (List.replicate xn 0)
 refine Gt Q1 w (by simp) (p.mono w.le) c (by simp;omega) ?_
 intro z g
 refine ⟨_,rfl,?_⟩
 rw [List.drop_of_length_le (by simp;omega),List.append_nil] at g
 refine Eh g c n a r l (by omega) hyx (by omega) ?_
 intro zs t k e d f
 refine ⟨rfl,?_⟩
 refine Bi f.sl e (by omega) d (Nat.le_refl _) (by omega) ?_
 intro m q i
 exact ⟨_,_,_,rfl,hK _ _ _ _ f.le q i⟩
def Nd{b:Nat}{e:TypeId}{N:Nat}{M v:Int}(S:SumS h g b e N M v)(hN2:N<=400000000)(hK:∀ s A n c h',h.le h'->ZI h' s A n c v->K (.agg #[.bool s,.slice A n c]) h'):FCall prog Tm #[.pointer (some ⟨b,0,none⟩)] h K:=by
 obtain ⟨PA,NA,t,y,x,p,j,i,g1,z,C,u,J,rfl,r,o,dp,G,E,R,aa,D⟩:=S
 have F:(aC ⟨b,0,none⟩ 0)=⟨b,0,none⟩:=Gu b 0 0
 have Q:(aC ⟨b,0,none⟩ 1)=⟨b,1,none⟩:=Gu b 0 1
 have B:=Heap.le_put (.cells #[.slice PA t y,.slice NA x p] e) J
 refine B59 _ ?_
 unfold B9v
 refine ⟨_,rfl,_,_,_,by rw [F,E7];rfl,_,rfl,_,_,_,by rw [Q,E7];rfl,?_⟩
 have T:SlI .u64 (z.put b (.cells #[.slice PA t y,.slice NA x p] e)) PA j:=SlI.mono B (SlI.mono u.le C.slV)
 have sn:SlI .u64 (z.put b (.cells #[.slice PA t y,.slice NA x p] e)) NA i:=SlI.mono B u.slV
 refine Bi T dp r rfl C.2.1 (by omega) ?_
 intro m1 Z M1
 refine ⟨_,_,_,rfl,B3 _,?_⟩
 refine Bi sn G o rfl u.2.1 (by omega) ?_
 intro m2 L M2
 refine ⟨_,_,_,rfl,B3 _,?_⟩
 refine F7 M1 M2 (by omega) ⟨_,rfl,?_⟩
 refine B6 (fun f=>?_) (fun f=>?_)
 ·have a:val b64 i<=val b64 j:=by unfold Ey at f;split at f<;>omega
  refine Cw M1 M2 a (by omega) ?_
  intro A3 H W X w m M3
  obtain ⟨d,k⟩:=aT (show 0<=val b64 j-val b64 i by omega)
  rw [k] at M3
  refine ⟨_,_,_,rfl,O4 (v:=d) M3 m ?_⟩
  intro V l
  refine ⟨_,_,_,_,rfl,hK _ _ _ _ _ w ?_⟩
  rw [E,k];exact l
 ·have a:val b64 j<=val b64 i:=by
   unfold Ey at f
   by_cases O:val b64 j<val b64 i
   ·omega
   ·rw [iN O] at f;split at f<;>omega
  refine Cw M2 M1 a (by omega) ?_
  intro A3 H W X w m M3
  obtain ⟨d,k⟩:=aT (show 0<=val b64 i-val b64 j by omega)
  rw [k] at M3
  refine ⟨_,_,_,rfl,O4 (v:=d) M3 m ?_⟩
  intro V l
  refine ⟨_,_,_,_,rfl,hK _ _ _ _ _ w ?_⟩
  have q:v= -(d:Int):=by omega
  rw [q];exact l
def B1f(gl:Gtz h)(i:ZI h s A an ac x)(j:ZI h s' B bn bc y)(hx:ZB m x)(hy:ZB m y)(hm:m<=6400000000)(hK:∀ A' n' c' h',h.le h'->ZI h' false A' n' c' (Int.lcm x y:Int)->K (.agg #[.bool false,.slice A' n' c']) h'):FCall prog B3p #[.agg #[.bool s,.slice A an ac],.agg #[.bool s',.slice B bn bc]] h K:=by
 have b:=i.zeroIff
 have c:=j.zeroIff
 have g:=i.len hx hm
 have a:=j.len hy hm
 refine C21 _ _ _ _ _ _ _ _ ?_
 unfold C6f
 refine D8 (fun o=>?_) (fun C=>D8 (fun o=>?_) (fun n=>?_))
 ·refine hK none 0 0 h (B3 _) ?_
  rw [b.2 (by omega),Int.lcm_zero_left];exact ZI.zero
 ·refine hK none 0 0 h (B3 _) ?_
  rw [c.2 (by omega),Int.lcm_zero_right];exact ZI.zero
 ·have F:x≠0:=fun e=>C (by have:=b.1 e;omega)
  have D:y≠0:=fun e=>n (by have:=c.1 e;omega)
  refine Oa gl i.mag j.mag i.cap j.cap g a ?_
  intro A3 q Q S d l M3
  refine ⟨_,_,_,rfl,d,?_⟩
  rw [Int.gcd_natCast_natCast] at M3
  have L:Nat.gcd x.natAbs y.natAbs≠0:=fun e=>by
   have:=Nat.eq_zero_of_gcd_eq_zero_left e
   omega
  have p:q<=100000000:=by
   refine Nat.le_trans (M3.len_le (by decide) (j:=bn) ?_) a
   have z:=j.mag.lt (by decide)
   have k:Nat.gcd x.natAbs y.natAbs<=y.natAbs:=Nat.gcd_le_right _ (by omega)
   omega
  refine S7 (j.mag.mono d) M3 j.cap l (by omega) (by omega) (by omega) ?_
  intro A4 t M A5 N J T f E H M4 M5
  refine ⟨_,_,_,_,_,_,rfl,f,?_⟩
  rw [<- Int.natCast_ediv] at M4
  have u:t<=100000000:=by
   refine Nat.le_trans (M4.len_le (by decide) (j:=bn) ?_) a
   have z:=j.mag.lt (by decide)
   have k:=Nat.div_le_self y.natAbs (Nat.gcd x.natAbs y.natAbs)
   omega
  refine H2 (i.mag.mono (Heap.le_trans d f)) M4 i.cap E (by omega) (by omega) ?_
  intro A6 R G O r w M6
  refine ⟨_,_,_,rfl,hK _ _ _ _ (Heap.le_trans d (Heap.le_trans f r)) ⟨w,?_,?_⟩⟩
  ·rw [Int.natAbs_natCast]
   rw [<- Int.natCast_mul] at M6
   have:Int.lcm x y=x.natAbs*(y.natAbs/Nat.gcd x.natAbs y.natAbs):=by
    show Nat.lcm x.natAbs y.natAbs=_
    rw [Nat.lcm,Nat.mul_div_assoc _ (Nat.gcd_dvd_right _ _)]
   rw [this];exact M6
  ·symm;rw [decide_eq_false_iff_not];omega
end
abbrev RQr:aE->QV->Rat->Prop:=fun h w q=>RQ h w q
abbrev NQr:aE->QV->Rat->Prop:=fun h w q=>NQ h w q
abbrev ZIr:aE->IV->Int->Prop:=fun h w z=>ZI h w.s w.A w.n w.c z
abbrev SSr:aE->List UInt8->List UInt8->Prop:=fun _ w s=>w=s
def Mon{α β:Type}(R:aE->α->β->Prop):Prop:=∀ (h h':aE) (w:α) (x:β),h.le h'->R h w x->R h' w x
def K7:Mon RQr:=fun _ _ _ _ a i=>⟨i.num.mono a,i.den.mono a⟩
def P8:Mon NQr:=fun _ _ _ _ a i=>NQ.mono a i
def Kh:Mon ZIr:=fun _ _ _ _ a i=>i.mono a
def K0:Mon SSr:=fun _ _ _ _ _ i=>i
instance:Enc QV:=⟨⟨fun w=>[.bool w.s,.slice w.A w.n w.c,.bool w.s2,.slice w.A2 w.n2 w.c2],4,fun _=>rfl,fun w v hv=>by simp at hv;rcases hv with rfl|rfl|rfl|rfl<;>rfl⟩⟩
section
variable {α β:Type}
def Row(R:aE->α->β->Prop)(g:aE)(xs:List α)(n:Nat)(f:Nat->β):Prop:=∀ i,i<n->∃ w,xs[i]? = some w/\R g w (f i)
variable {R:aE->α->β->Prop} {g g' h h':aE} {xs:List α} {n:Nat} {f:Nat->β}
def Row.mono(m:Mon R)(hl:g.le g')(r:Row R g xs n f):Row R g' xs n f:=fun i a=>by
 obtain ⟨w,e,b⟩:=r i a
 exact ⟨w,e,m _ _ _ _ hl b⟩
def Row.nil:Row R g xs 0 f:=fun i a=>by omega
def Row.set{k:Nat}(r:Row R g xs k f)(hk:k<xs.length){w:α}(hw:R g w (f k)):Row R g (xs.set k w) (k+1) f:=fun i c=>by
 by_cases e:i=k
 ·subst e;exact ⟨w,by rw [aU hk],hw⟩
 ·obtain ⟨u,b,a⟩:=r i (by omega)
  exact ⟨u,by rw [List.getElem?_set_ne (fun x=>e x.symm)];exact b,a⟩
def Row.upd(r:Row R g xs n f){k:Nat}(hk:k<xs.length){w:α}{y:β}(hw:R g w y):Row R g (xs.set k w) n (fun i=>if i=k then y else f i):=fun i a=>by
 by_cases e:i=k
 ·subst e;exact ⟨w,by rw [aU hk],by show R g w (if i=i then y else f i);rw [iP rfl];exact hw⟩
 ·obtain ⟨u,c,b⟩:=r i a
  exact ⟨u,by rw [List.getElem?_set_ne (fun x=>e x.symm)];exact c,by show R g u (if i=k then y else f i);rw [iN e];exact b⟩
def Row.push(r:Row R g xs xs.length f){w:α}(hw:R g w (f xs.length)):Row R g (xs++[w]) (xs++[w]).length f:=fun i a=>by
 rw [List.length_append] at a
 by_cases e:i=xs.length
 ·subst e;exact ⟨w,by simp,hw⟩
 ·obtain ⟨u,c,b⟩:=r i (by simp at a;omega)
  exact ⟨u,by rw [List.getElem?_append_left (by simp at a;omega)];exact c,b⟩
def Row.congr{f':Nat->β}(r:Row R g xs n f)(h:∀ i,i<n->f i=f' i):Row R g xs n f':=fun i a=>by
 obtain ⟨w,e,b⟩:=r i a
 exact ⟨w,e,by rw [<- h i a];exact b⟩
def Row.get(r:Row R g xs n f){i:Nat}(hi:i<n)(hl:i<xs.length):R g xs[i] (f i):=by
 obtain ⟨w,e,a⟩:=r i hi
 rw [List.getElem?_eq_getElem hl] at e
 cases e;exact a
variable [E:Enc α]
def RowV(R:aE->α->β->Prop)(h:aE)(A:Option aM)(n:Nat)(f:Nat->β):Prop:=∃ xs:List α,SlF h A xs/\xs.length=n/\Row R h xs n f
def RowV.mono(m:Mon R){A:Option aM}(hl:h.le h')(r:RowV R h A n f):RowV R h' A n f:=by
 obtain ⟨a,s,e,r⟩:=r
 exact ⟨a,s.mono hl,e,r.mono m hl⟩
def RowV.nil{A:Option aM}:RowV R h A 0 f:=⟨[],SlF.nil,rfl,Row.nil⟩
def RowV.congr{A:Option aM}{f':Nat->β}(r:RowV R h A n f)(e:∀ i,i<n->f i=f' i):RowV R h A n f':=by
 obtain ⟨a,s,l,r⟩:=r
 exact ⟨a,s,l,r.congr e⟩
def RowV.cut{A:Option aM}(r:RowV R h A n f){c l k:Nat}(hlk:l+k<=n)(hc:n<=c):RowV R h (J9 A c l E.default.size) k (fun i=>f (l+i)):=by
 obtain ⟨a,s,e,r⟩:=r
 refine ⟨(a.drop l).take (l+k-l),s.cut (l:=l) (m:=l+k) (by omega) (by omega) (by omega),by simp;omega,fun i g=>?_⟩
 obtain ⟨w,d,b⟩:=r (l+i) (by omega)
 exact ⟨w,by rw [List.getElem?_take,iP (by omega),List.getElem?_drop];exact d,b⟩
def RowV.at(pos:0<E.default.size){A:Option aM}(r:RowV R h A n f){i:Nat}(hi:i<n):∃ a w,A=some a/\R h w (f i)/\∀ j v,(enc w)[j]? = some v->h.cell? (aC (aC a (i*E.default.size)) j)=some v:=by
 obtain ⟨b,s,e,r⟩:=r
 obtain ⟨a,c,d⟩:=SlF.at pos s (i:=i) (by omega)
 exact ⟨a,b[i],c,r.get hi (by omega),d⟩
structure Own (R:aE->α->β->Prop) (h h':aE) (b n:Nat) (f:Nat->β):Prop where
 ex:∃ g o xs,h.le g/\Sep h' g o/\RowX o b xs/\xs.length=n/\Row R g xs n f
def Own.le{b:Nat}(w:Own R h h' b n f):h.le h':=by
 obtain ⟨g,o,a,l,s,_⟩:=w.ex
 exact Heap.le_trans l s.le
def Own.vis(m:Mon R){b:Nat}(w:Own R h h' b n f):RowV R h' (some ⟨b,0,none⟩) n f:=by
 obtain ⟨g,o,a,l,s,r,e,q⟩:=w.ex
 exact ⟨a,r.rowB.slF s.ole,e,q.mono m s.le⟩
end
section
variable {h:aE} {A:Option aM} {n:Nat}
def RowV.qat{R:aE->QV->Rat->Prop}{f:Nat->Rat}(r:RowV R h A n f){i:Nat}(hi:i<n):∃ a w,A=some a/\R h w (f i)/\h.cell? (aC (aC a (i*4)) 0)=some (.bool w.s)/\h.cell? (aC (aC a (i*4)) 1)=some (.slice w.A w.n w.c)/\h.cell? (aC (aC a (i*4)) 2)=some (.bool w.s2)/\h.cell? (aC (aC a (i*4)) 3)=some (.slice w.A2 w.n2 w.c2):=by
 obtain ⟨a,w,e,d,b⟩:=r.at (by decide) hi
 exact ⟨a,w,e,d,b 0 _ rfl,b 1 _ rfl,b 2 _ rfl,b 3 _ rfl⟩
def RowV.zat{f:Nat->Int}(r:RowV ZIr h A n f){i:Nat}(hi:i<n):∃ a w,A=some a/\ZIr h w (f i)/\h.cell? (aC (aC a (i*2)) 0)=some (.bool w.s)/\h.cell? (aC (aC a (i*2)) 1)=some (.slice w.A w.n w.c):=by
 obtain ⟨a,w,e,d,b⟩:=r.at (by decide) hi
 exact ⟨a,w,e,d,b 0 _ rfl,b 1 _ rfl⟩
def RowV.sat{f:Nat->List UInt8}(r:RowV SSr h A n f){i:Nat}(hi:i<n):∃ a,A=some a/\h.cell? (aC a (i*1))=some (.string (bs (f i))):=by
 obtain ⟨a,w,e,c,d⟩:=r.at (by decide) hi
 have b:w=f i:=c
 subst b
 refine ⟨a,e,?_⟩
 have:=d 0 _ rfl
 rw [Iw] at this
 exact this
end
