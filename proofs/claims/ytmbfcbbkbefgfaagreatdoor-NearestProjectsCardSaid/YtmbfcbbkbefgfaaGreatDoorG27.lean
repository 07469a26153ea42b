/- A part. -/
import Derived.Test.YtmbfcbbkbefgfaaGreatDoorG21
import Derived.Test.YtmbfcbbkbefgfaaGreatDoorG26
import Derived.Test.YtmbfcbbkbefgfaaGreatDoorG25
open Go.Proofs.Tryz
set_option linter.all false
open _root_.Go.Addr renaming add->aC
open Int renaming mul_le_mul_of_nonneg_left->aF,mul_zero->aH,add_zero->aK,pow_pos->aN,toNat_natCast->aO,le_of_lt->aP,eq_ofNat_of_zero_le->aT
open List renaming length_take->aI,take_of_length_le->aJ,take_append_drop->aL,eq_nil_of_length_eq_zero->aQ,getElem?_cons_zero->aR,getElem?_cons_succ->aS,getElem?_set_self->aU
open List.cons renaming injEq->aG
open _root_.Go.Value.slice renaming injEq->aD
open _root_.Go renaming Addr->aM
open _root_.Go.Proofs.YtmbfcbbkbefgfaaGreatDoor renaming Heap->aE
namespace Go.Proofs.YtmbfcbbkbefgfaaGreatDoor
set_option maxRecDepth 20000
open Go
section
variable {h g:aE} {K:VP} {A B:Option aM} {s s':Bool} {an ac bn bc m:Nat} {x y:Int}
end
def B1l(B:Int):∀ {ts:List Int} {k:Nat} (_:k<ts.length) (v:Int),val B (ts.set k v)=val B ts+B^k*(v-ts.getD k 0)
 | [],k,h,v=>by simp at h
 | t::ts,0,h,v=>by simp [val];grind
 | t::ts,k+1,h,v=>by
  have ih:=B1l B (ts:=ts) (k:=k) (by simpa using h) v
  simp only [List.set_cons_succ,val,List.getD_cons_succ,ih,Int.pow_succ]
  grind
section
variable {h g:aE} {K:VP} {A B:Option aM} {s s':Bool} {an ac bn bc m:Nat} {x y:Int}
def A91{hp:aE}{n c k:Nat}{ts:List Int}{ca:Int}(p:Pw hp g A n c ts)(hn:n=ts.length)(dt:Dig b64 ts)(hk:k<n)(hca:0<=ca/\ca<18446744073709551616){Q:Int->aE->Prop}
 (hQ:∀ h' ts',Pw h' g A n c ts'->n=ts'.length->Dig b64 ts'->val b64 ts'+b64^(k+1)*((ts.getD k 0+ca)/18446744073709551616)=val b64 ts+b64^k*ca->Q ((ts.getD k 0+ca)/18446744073709551616) h'):
 ∃ a,A=some a/\0<=(k:Int)/\(k:Int)<((n:Nat):Int)/\∃ (t:Int),Heap.cell? hp (aC a (((k:Int)).toNat*1))=some (U t)/\ECall prog S7 #[U t,U ca,U (0:Int)] hp (fun r hp1=>∃ (ta tb:Int),r= .tuple #[U ta,U tb]/\∃ a2,A=some a2/\0<=(k:Int)/\(k:Int)<((n:Nat):Int)/\wpH prog (Instr.storeAt C2 (.pointer (some (aC a2 (((k:Int)).toNat*1)))) (U ta)) (fun _ hp2=>Q tb hp2) hp1):=by
 have d:ts≠[]:=by rintro rfl;simp at hn;omega
 obtain ⟨b,e,w,u⟩:=Fk p d
 have o:=N8 dt k
 refine w.sl.load hn (by omega) (by omega) ?_
 simp only [aO]
 refine Dq o hca (by omega) ⟨_,_,rfl,?_⟩
 obtain ⟨a,f,_⟩:=SlV.at w.sl (i:=k) (by simp;omega)
 refine ⟨a,f,by omega,by omega,w.storeN F6 f (by omega) ?_⟩
 intro x l
 simp only [aK] at l ⊢
 have j:=l.priv (m:=n) (c:=c) (by intro s;have:=congrArg List.length s;rw [List.length_set,List.length_nil] at this;exact d (aQ this)) (by simpa using u) (by simp;omega)
 rw [aJ (by simp;omega)] at j
 refine hQ x _ j (by simpa using hn) (dt.set (Et _)) ?_
 rw [B1l b64 (by omega),Int.pow_succ]
 have:=Int.mul_ediv_add_emod (ts.getD k 0+ca) 18446744073709551616
 show _+b64^k*_+b64^k*18446744073709551616*_=_
 generalize (ts.getD k 0+ca)/18446744073709551616=q at *
 generalize (ts.getD k 0+ca)%18446744073709551616=r at *
 grind
def B4r{Invv1:LP}{muv1:LN}{TA:Option aM}{tn tc i x2n:Nat}{ts:List Int}{ca:Int}{hp8 hp7:aE}(p:Pw hp8 g TA tn tc ts)(hn:tn=ts.length)(dt:Dig b64 ts)(hle:i+x2n<=tn)(hca:0<=ca/\ca<18446744073709551616)(hl:tn<=1000000000)
 (hK:∀ TA' tn' tc' ts' h' g',g.le g'->Pw h' g' TA' tn' tc' ts'->tn'=ts'.length->Dig b64 ts'->val b64 ts'=val b64 ts+b64^(i+x2n)*ca->(tn'=tn\/(tn'=tn+1/\b64^tn<=val b64 ts'))->Invv1 [.slice TA' tn' tc',I (B6 ((i:Int)+1))] h'/\muv1 [.slice TA' tn' tc',I (B6 ((i:Int)+1))] h'<muv1 [.slice TA tn tc,I (i:Int)] hp7):
 Ed prog x2n Invv1 muv1 TA tn tc (i:Int) ca hp8 hp7:=by
 unfold Ed
 have V:B6 ((i:Int)+(x2n:Int))=((i+x2n:Nat):Int):=by rw [B8 (by omega) (by omega)];omega
 rw [V]
 refine ⟨fun L X=>∃ (k:Nat) (c1:Int) (e:List Int) (A1:Option aM) (b c:Nat) (r:aE),L=[.slice A1 b c,U c1,I k]/\g.le r/\Pw X r A1 b c e/\b=e.length/\Dig b64 e/\k<=b/\(0<=c1/\c1<18446744073709551616)/\val b64 e+b64^k*c1=val b64 ts+b64^(i+x2n)*ca/\(b=tn\/(b=tn+1/\c1=0/\b64^tn<=val b64 e)),fun L _=>tn+2-(iAt L 2).toNat,⟨i+x2n,ca,ts,TA,tn,tc,g,rfl,B4 _,p,hn,dt,hle,hca,rfl,.inl rfl⟩,?_⟩
 rintro A1 b c c1 k0 x ⟨k,T,e,A1',S,O,r,J,z,y,l,u,hk,d,w,s⟩
 simp only [aG,aD,Value.int.injEq,and_true,true_and] at J
 obtain ⟨⟨rfl,rfl,rfl⟩,rfl,rfl⟩:=J
 refine J4 (fun D=>?_) (fun D=>?_)
 ·have j:b=tn:=by
   rcases s with m|⟨_,m,_⟩
   ·exact m
   ·exact absurd m D
  have M:B6 ((k:Int)+1)=((k+1:Nat):Int):=by rw [B8 (by omega) (by omega)];omega
  have q:∀ (N R H G:Value),tn+2-(iAt [N,R,I ((k+1:Nat):Int)] 2).toNat<tn+2-(iAt [H,G,I (k:Int)] 2).toNat:=by
   intro N R H G
   simp only [iAt,aR,aS]
   omega
  refine E4 (fun A=>?_) (fun A=>?_)
  ·have t:k=b:=by omega
   refine Dv Q0 y rfl rfl (by omega) (by omega) ?_
   intro A2 c2 h2 g2 W Q
   rw [<- List.map_singleton (f:=Value.int .u64),<- List.map_append] at Q
   have Z:Dig b64 (e++[0]):=u.append (Dig.one (by decide))
   refine A91 Q (by simp;omega) Z (by omega) d ?_
   intro E o C n F a
   have hz:(e++[0]).getD k 0=0:=by
    rw [t,l,List.getD,List.getElem?_append_right (Nat.le_refl _)];simp
   rw [hz,Int.zero_add,Int.ediv_eq_zero_of_lt d.1 d.2] at a ⊢
   rw [M]
   rw [F1,aH,aK,aH,aK] at a
   refine ⟨⟨k+1,0,o,A2,b+1,c2,g2,rfl,B0 z W,C,n,F,by omega,by omega,?_,.inr ⟨by omega,rfl,?_⟩⟩,q _ _ _ _⟩
   ·rw [a,aH,aK];exact w
   ·rw [a,<- j,<- t]
    have h5:=C7 (B:=b64) (by decide) u
    have h6:b64^k*1<=b64^k*c1:=aF (by omega) (aP (aN (by decide)))
    omega
  ·refine A91 y l u (by omega) d ?_
   intro E o C n F a
   rw [M]
   have gt:=N8 u k
   refine ⟨⟨k+1,_,o,A1,b,c,r,rfl,z,C,n,F,by omega,?_,?_,.inl j⟩,q _ _ _ _⟩
   ·constructor
    ·exact Int.ediv_nonneg (by omega) (by decide)
    ·omega
   ·rw [a];exact w
 ·subst D
  rw [aH,aK] at w
  refine hK A1 b c e x r z y l u w ?_
  rcases s with m|⟨m,_,E⟩
  ·exact .inl m
  ·exact .inr ⟨m,E⟩
def B84{XA YA TA:Option aM}{xs ys ts:List Int}{x2n x2c y2n tn tc N:Nat}{hp4:aE}(p:Pw hp4 g TA tn tc ts)(hn:tn=ts.length)(dt:Dig b64 ts)(sx:SlI .u64 g XA xs)(hx:x2n=xs.length)(dx:Dig b64 xs)(sy:SlI .u64 g YA ys)(hy:y2n=ys.length)(dy:Dig b64 ys)(hxy:x2n+y2n<=tn)(hN:tn<=N)(hN2:N<=400000000)(hV:val b64 ts+val b64 xs*val b64 ys<b64^N)
 (hK:∀ TA' tn' tc' ts' h' g',g.le g'->Pw h' g' TA' tn' tc' ts'->tn'=ts'.length->Dig b64 ts'->val b64 ts'=val b64 ts+val b64 xs*val b64 ys->tn'<=N->K (.slice TA' tn' tc') h'):
 Gz prog K XA x2n x2c YA y2n TA tn tc hp4:=by
 unfold Gz
 have E:=C7 (B:=b64) (by decide) dx
 have ae:=C7 (B:=b64) (by decide) dy
 have o:∀ k,val b64 (ys.take k)<=val b64 ys:=by
  intro k
  have D:=G2 b64 (ys.take k) (ys.drop k)
  rw [aL] at D
  have h2:0<=b64^(ys.take k).length*val b64 (ys.drop k):=Int.mul_nonneg (aP (aN (by decide))) (C7 (B:=b64) (by decide) (dy.drop k))
  omega
 refine ⟨fun L hp=>∃ (k:Nat) (a:List Int) (A1:Option aM) (e d:Nat) (y:aE),L=[.slice A1 e d,I k]/\g.le y/\Pw hp y A1 e d a/\e=a.length/\Dig b64 a/\k<=y2n/\val b64 a=val b64 ts+val b64 xs*val b64 (ys.take k)/\x2n+y2n<=e/\e<=N,fun L _=>y2n-(iAt L 1).toNat,⟨0,ts,TA,tn,tc,g,rfl,B4 _,p,hn,dt,by omega,by simp [val],hxy,hN⟩,?_⟩
 rintro A1 e d k0 G ⟨k,a,A1',ad,aa,y,Z,z,F,r,A,hk,Q,ac,q⟩
 simp only [aG,aD,Value.int.injEq,and_true,true_and] at Z
 obtain ⟨⟨rfl,rfl,rfl⟩,rfl⟩:=Z
 refine B7 (fun D=>?_) (fun D=>?_)
 ·have gy:=N8 dy k
  have vy:=C4 b64 ys k
  have J:B6 ((k:Int)+(x2n:Int))=((k+x2n:Nat):Int):=by rw [B8 (by omega) (by omega)];omega
  rw [J]
  refine (sy.mono (B0 z F.le)).load hy (by omega) (by omega) ?_
  simp only [aO]
  have t:a≠[]:=by rintro rfl;simp at r;omega
  obtain ⟨b,X,w,hc⟩:=Fk F t
  refine ⟨⟨by omega,by omega⟩,⟨by omega,by omega⟩,?_⟩
  have f:((a.drop k).take (k+x2n-k)).length=xs.length:=by rw [aI,List.length_drop];omega
  refine Jb (w.sub (l:=k) (m:=k+x2n) (c:=d) (by omega) (by omega) (by omega)) (by rw [f];omega) (sx.mono z) hx ((A.drop k).take _) dx f gy (by omega) ?_
  intro C c h' i u H S w'
  rw [f] at i S
  have w2:=w.whole (l:=k) (m:=k+x2n) (by omega) (by omega) (by omega) w'
  refine ⟨_,rfl,?_⟩
  have n:(a.take k++C++a.drop (k+x2n)).length=a.length:=by
   simp only [List.length_append,aI,List.length_drop];omega
  have s:a.take k++C++a.drop (k+x2n)≠[]:=by
   intro e0
   rw [e0] at n
   exact t (aQ (by simpa using n.symm))
  have p2:=w2.priv (m:=e) (c:=d) s (by rw [n];exact hc) (by omega)
  rw [aJ (by omega)] at p2
  have d2:Dig b64 (a.take k++C++a.drop (k+x2n)):=((A.take k).append u).append (A.drop _)
  have M:a=a.take k++((a.drop k).take (k+x2n-k)++a.drop (k+x2n)):=by
   have J:a.drop (k+x2n)=(a.drop k).drop (k+x2n-k):=by rw [List.drop_drop];congr 1;omega
   rw [J,aL,aL]
  have j:val b64 (a.take k++C++a.drop (k+x2n))+b64^(k+x2n)*c=val b64 a+b64^k*(val b64 xs*ys.getD k 0):=by
   have e2:val b64 a=val b64 (a.take k)+b64^k*(val b64 ((a.drop k).take (k+x2n-k))+b64^xs.length*val b64 (a.drop (k+x2n))):=by
    conv=>lhs;rw [M]
    rw [G2,G2,f,aI,Nat.min_eq_left (by omega)]
   rw [e2,List.append_assoc,G2,G2,aI,Nat.min_eq_left (by omega),i,hx,Int.pow_add]
   generalize b64^k=P at *
   generalize b64^xs.length=R at *
   grind
  refine B4r p2 (by omega) d2 (by omega) H (by omega) ?_
  intro TA' tn' tc' ts' h3 g3 l3 p3 V d3 x O
  rw [j,Q] at x
  have T:val b64 ts'=val b64 ts+val b64 xs*val b64 (ys.take (k+1)):=by
   rw [x,vy];grind
  have W:tn'<=N:=by
   rcases O with h4|⟨h4,h5⟩
   ·omega
   ·have h6:=aF (o (k+1)) E
    have h7:b64^e<b64^N:=by omega
    have h8:e<N:=by
     by_cases h9:e<N
     ·exact h9
     ·have:=C9 (B:=b64) (by decide) (show N<=e by omega)
      omega
    omega
  have e3:B6 ((k:Int)+1)=((k+1:Nat):Int):=by rw [B8 (by omega) (by omega)];omega
  rw [e3]
  exact ⟨⟨k+1,ts',TA',tn',tc',g3,rfl,B0 z l3,p3,V,d3,by omega,T,by omega,W⟩,by simp only [iAt,aR,aS];omega⟩
 ·obtain rfl:k=y2n:=by omega
  rw [aJ (by omega)] at Q
  exact hK A1 e d a G y z F r A Q q
def Jd{TA XA YA:Option aM}{ts:List Int}{tn tc xn xc yn yc N:Nat}(p:Pw h g TA tn tc ts)(hn:tn=ts.length)(dt:Dig b64 ts)(ma:Mw g XA xn x)(mb:Mw g YA yn y)(hxc:xn<=xc)(hyc:yn<=yc)(hN:tn<=N)(hxy:xn+yn+1<=N)(hN2:N<=400000000)(hV:val b64 ts+x*y<b64^N)
 (hK:∀ TA' tn' tc' ts' h' g',g.le g'->Pw h' g' TA' tn' tc' ts'->tn'=ts'.length->Dig b64 ts'->val b64 ts'=val b64 ts+x*y->tn'<=N->K (.slice TA' tn' tc') h'):FCall prog Bv #[.slice TA tn tc,.slice XA xn xc,.slice YA yn yc] h K:=by
 have ah:=ma.nonneg (by decide)
 have aj:=mb.nonneg (by decide)
 refine Xp _ _ _ _ _ _ _ _ _ ?_
 unfold Wn
 refine ⟨fun L E=>E=h/\∃ (A1 B1:Option aM) (e c1 r c2:Nat) (q a:Int),L=[.slice A1 e c1,.slice B1 r c2]/\Mw g A1 e q/\Mw g B1 r a/\e<=c1/\r<=c2/\e+r=xn+yn/\q*a=x*y,B7 (fun _=>⟨rfl,_,_,_,_,_,_,y,x,rfl,mb,ma,hyc,hxc,by omega,Int.mul_comm _ _⟩) (fun _=>⟨rfl,_,_,_,_,_,_,x,y,rfl,ma,mb,hxc,hyc,rfl,rfl⟩),?_⟩
 rintro A1 e c1 B1 r c2 E ⟨rfl,A1',B1',ao,ap,ag,ak,q,a,l,D,F,k1,k2,ar,k⟩
 simp only [aG,aD,and_true] at l
 obtain ⟨⟨rfl,rfl,rfl⟩,rfl,rfl,rfl⟩:=l
 have ac:=D.nonneg (by decide)
 have aa:=F.nonneg (by decide)
 refine ⟨fun L z=>∃ (A2 B2:Option aM) (c O i c4:Nat) (H S:Int) (t:aE),L=[.slice A2 c O,.slice B2 i c4]/\g.le t/\Pw z t TA tn tc ts/\Mw t A2 c H/\Mw t B2 i S/\c+i<=xn+yn+1/\H*S=x*y,B7 (fun _=>?_) (fun _=>⟨_,_,_,_,_,_,q,a,g,rfl,B4 _,p,D,F,by omega,k⟩),?_⟩
 ·refine p.call ?_
  refine H8 D F k1 k2 (by omega) (by omega) ?_
  intro A3 c O M l3 k3 M3 h3 p3
  refine ⟨_,_,_,rfl,?_⟩
  refine Dx Q0 rfl ?_
  intro b Z
  have C:M b=none:=by
   cases hx1:M b with
   | none=>rfl
   | some o=>rw [p3.le b o hx1] at Z;cases Z
  refine ⟨_,_,_,rfl,_,_,_,_,_,_,q*a,1,M.put b (.cells #[U 1] C2),rfl,B0 l3 (Heap.le_put _ C),p3.put Z _,M3.mono (Heap.le_put _ C),?_,?_,by rw [Int.mul_one];exact k⟩
  ·refine ⟨[1],rfl,SlI.new _ _ _ _ _,?_,?_,?_⟩
   ·intro x hx;simp at hx;subst hx;decide
   ·unfold Norm;simp
   ·simp [val]
  ·have w:=D.lt (by decide)
   have A:=F.lt (by decide)
   have Q:q*a<b64^(e+r):=by
    rw [Int.pow_add]
    by_cases h0:a=0
    ·subst h0
     rw [aH]
     exact Int.mul_pos (aN (by decide)) (aN (by decide))
    ·have h1:q*a<b64^e*a:=Int.mul_lt_mul_of_pos_right w (by omega)
     have h2:b64^e*a<=b64^e*b64^r:=aF (aP A) (aP (aN (by decide)))
     omega
   have:=M3.len_le (by decide) Q
   omega
 rintro A2 c O B2 i c4 z ⟨A2',B2',af,an,ai,aq,H,S,t,l,lg,p1,M1,M2,al,j⟩
 simp only [aG,aD,and_true] at l
 obtain ⟨⟨rfl,rfl,rfl⟩,rfl,rfl,rfl⟩:=l
 obtain ⟨xs,W,sx,dx,nx,rfl⟩:=M1
 obtain ⟨ys,V,sy,dy,ny,rfl⟩:=M2
 unfold Pl
 have e1:B6 ((c:Int)+(i:Int))=((c+i:Nat):Int):=by rw [B8 (by omega) (by omega)];omega
 rw [e1]
 refine ⟨fun L E=>∃ (u:List Int) (A5:Option aM) (m c5:Nat) (T:aE),L=[.slice A5 m c5]/\t.le T/\Pw E T A5 m c5 u/\m=u.length/\Dig b64 u/\val b64 u=val b64 ts/\m<=N,fun L _=>match L with|[.slice _ n _]=>c+i-n|_=>0,⟨ts,TA,tn,tc,t,rfl,B4 _,p1,hn,dt,rfl,hN⟩,?_⟩
 rintro A5 m c5 ad ⟨u,A5',am,ae,T,l,d,p5,G,du,s,J⟩
 simp only [aG,aD,and_true] at l
 obtain ⟨rfl,rfl,rfl⟩:=l
 refine B7 (fun h1=>?_) (fun h1=>?_)
 ·refine Dv Q0 p5 rfl rfl (by omega) (by omega) ?_
  intro A6 c6 h6 g6 l6 p6
  rw [<- List.map_singleton (f:=Value.int .u64),<- List.map_append] at p6
  refine ⟨⟨u++[0],A6,m+1,c6,g6,rfl,B0 d l6,p6,by simp;omega,du.append (Dig.one (by decide)),by rw [F1,s];simp,by omega⟩,?_⟩
  show c+i-(m+1)<c+i-m
  omega
 ·refine B84 (N:=N) p5 G du (sx.mono d) W dx (sy.mono d) V dy (by omega) J hN2 (by rw [s,j];exact hV) ?_
  intro TA' tn' tc' ts' h' g' l' p' X d' B R
  rw [s,j] at B
  exact hK TA' tn' tc' ts' h' g' (B0 lg (B0 d l')) p' X d' B R
def SumS(h g:aE)(b:Nat)(e:TypeId)(N:Nat)(M v:Int):Prop:=∃ (PA NA:Option aM) (pn pc nn nc:Nat) (ps ns:List Int) (g1 g2:aE),Pw g1 g PA pn pc ps/\Pw g2 g1 NA nn nc ns/\g2 b=none/\h=g2.put b (.cells #[.slice PA pn pc,.slice NA nn nc] e)/\pn=ps.length/\nn=ns.length/\Dig b64 ps/\Dig b64 ns/\v=val b64 ps-val b64 ns/\pn<=N/\nn<=N/\val b64 ps+val b64 ns<=M
def SumS.le{b:Nat}{e:TypeId}{N:Nat}{M v:Int}(S:SumS h g b e N M v):g.le h:=by
 obtain ⟨PA,NA,l,o,k,f,j,m,i,n,d,c,a,rfl,_⟩:=S
 exact B0 d.le (B0 c.le (Heap.le_put _ a))
def SumS.zero{b:Nat}{e:TypeId}{N:Nat}(hb:g b=none):SumS (g.put b (.cells #[.slice none 0 0,.slice none 0 0] e)) g b e N 0 0:=
 ⟨none,none,0,0,0,0,[],[],g,g,Priv.nil _ _ _ _,Priv.nil _ _ _ _,hb,rfl,rfl,rfl,Dig.nil,Dig.nil,by simp [val],by omega,by omega,by simp [val]⟩
def Jv:prog.cellsOf Z5=1/\(prog.info? Z5).isSome=true:=by constructor<;>kernel_rfl
def Au{b:Nat}{e:TypeId}{N:Nat}{M v:Int}{N1:Nat}(S:SumS h g b e N M v)(i:ZI g s A an ac x)(j:ZI g s' B bn bc y)(hab:an+bn+1<=N)(hN2:N<=400000000)(hM:M+(x*y).natAbs<b64^N1)(hN1:N1<=N)
 (hK:∀ h' g',g.le g'->SumS h' g' b e N (M+(x*y).natAbs) (v+x*y)->K (.tuple #[]) h'):FCall prog V6 #[.pointer (some ⟨b,0,none⟩),.agg #[.bool s,.slice A an ac],.agg #[.bool s',.slice B bn bc]] h K:=by
 have W:=i.zeroIff
 have J:=j.zeroIff
 have c1:=Af i.sgn
 have c2:=Af j.sgn
 have u:((x*y).natAbs:Int)=(x.natAbs:Int)*(y.natAbs:Int):=by rw [Int.natAbs_mul,Int.natCast_mul]
 refine Xr _ _ _ _ _ _ _ _ _ ?_
 unfold Wp
 have same:x*y=0->K (.tuple #[]) h:=by
  intro t
  refine hK h g (B4 _) ?_
  rw [t];simpa using S
 refine E4 (fun t=>same (by rw [W.2 (by omega),Int.zero_mul])) (fun _=>E4 (fun t=>same (by rw [J.2 (by omega),aH])) (fun _=>?_))
 obtain ⟨PA,NA,pn,pc,nn,nc,X,ns,g1,g2,G,p2,Z,rfl,E,m,dp,V,hv,F,D,aa⟩:=S
 have af:=C7 (B:=b64) (by decide) dp
 have ae:=C7 (B:=b64) (by decide) V
 have ad:b64^N1<=b64^N:=C9 (by decide) hN1
 have t:(aC ⟨b,0,none⟩ 0)=⟨b,0,none⟩:=Gy b 0 0
 have e1:(aC ⟨b,0,none⟩ 1)=⟨b,1,none⟩:=Gy b 0 1
 refine Br.of (fun C=>?_) (fun C=>?_)
 ·have z:x*y= -((x.natAbs:Int)*(y.natAbs:Int)):=by
   rcases c1 with ⟨rfl,h1⟩|⟨rfl,h1⟩<;>rcases c2 with ⟨rfl,h2⟩|⟨rfl,h2⟩
   ·simp at C
   ·conv=>lhs;rw [h1,h2]
    rw [Int.neg_mul]
   ·conv=>lhs;rw [h1,h2]
    rw [Int.mul_neg]
   ·simp at C
  refine ⟨_,rfl,_,_,_,by rw [e1,E5];rfl,?_⟩
  refine FCall.frame (K:=fun r O=>∃ (TA':Option aM) (a d:Nat) (c:List Int) (g':aE),r= .slice TA' a d/\g1.le g'/\Pw O g' TA' a d c/\a=c.length/\Dig b64 c/\val b64 c=val b64 ns+(x.natAbs:Int)*(y.natAbs:Int)/\a<=N) Z (Jd (N:=N) p2 m V (i.mag.mono G.le) (j.mag.mono G.le) i.cap j.cap D hab hN2 (by omega) (fun TA' a d c h' g' o n l q f k=>⟨TA',a,d,c,g',rfl,o,n,l,q,f,k⟩)) ?_
  ·rintro r R p ⟨TA',a,d,c,g',rfl,o,n,l,q,f,k⟩
   refine ⟨_,_,_,rfl,_,rfl,?_⟩
   rw [e1]
   refine Em Jv.1 Jv.2 rfl rfl (by simp) ?_
   obtain ⟨T,L,Q⟩:=G.after o
   refine hK _ T L ⟨PA,TA',pn,pc,a,d,X,c,g',R,Q,n,p,rfl,E,l,dp,q,?_,F,k,?_⟩
   ·rw [f,hv,z];omega
   ·rw [f,u];omega
 ·have w:x*y=(x.natAbs:Int)*(y.natAbs:Int):=by
   rcases c1 with ⟨rfl,h1⟩|⟨rfl,h1⟩<;>rcases c2 with ⟨rfl,h2⟩|⟨rfl,h2⟩
   ·conv=>lhs;rw [h1,h2]
    rw [Int.neg_mul_neg]
   ·simp at C
   ·simp at C
   ·conv=>lhs;rw [h1,h2]
  obtain ⟨g4,p4,H⟩:=p2.swap G
  refine ⟨_,rfl,_,_,_,by rw [t,E5];rfl,?_⟩
  refine FCall.frame (K:=fun r O=>∃ (TA':Option aM) (a d:Nat) (c:List Int) (g':aE),r= .slice TA' a d/\g4.le g'/\Pw O g' TA' a d c/\a=c.length/\Dig b64 c/\val b64 c=val b64 X+(x.natAbs:Int)*(y.natAbs:Int)/\a<=N) Z (Jd (N:=N) p4 E dp (i.mag.mono H.le) (j.mag.mono H.le) i.cap j.cap F hab hN2 (by omega) (fun TA' a d c h' g' o n l q f k=>⟨TA',a,d,c,g',rfl,o,n,l,q,f,k⟩)) ?_
  ·rintro r R p ⟨TA',a,d,c,g',rfl,o,n,l,q,f,k⟩
   refine ⟨_,_,_,rfl,_,rfl,?_⟩
   rw [t]
   refine Em Jv.1 Jv.2 rfl rfl (by simp) ?_
   obtain ⟨T,L,Q⟩:=H.after o
   obtain ⟨g6,p6,p7⟩:=n.swap Q
   refine hK _ T L ⟨TA',NA,a,d,nn,nc,c,ns,g6,R,p7,p6,p,rfl,l,m,q,V,?_,k,D,?_⟩
   ·rw [f,hv,w];omega
   ·rw [f,u];omega
def Sp{b:Nat}{e:TypeId}{N:Nat}{M v:Int}{N1:Nat}(S:SumS h g b e N M v)(i:ZI g s A an ac x)(j:ZI g s' B bn bc y)(hab:an+bn+1<=N)(hN2:N<=400000000)(hM:M+(x*y).natAbs<b64^N1)(hN1:N1<=N)
 (hK:∀ h' g',g.le g'->SumS h' g' b e N (M+(x*y).natAbs) (v-x*y)->K (.tuple #[]) h'):FCall prog Gk #[.pointer (some ⟨b,0,none⟩),.agg #[.bool s,.slice A an ac],.agg #[.bool s',.slice B bn bc]] h K:=by
 refine Xq _ _ _ _ _ _ _ _ _ ?_
 unfold Wo
 refine U2 (i.mono S.le) ?_
 intro f d
 refine ⟨_,_,_,_,rfl,B4 _,?_⟩
 have k:ZI g f A an ac (-x):=⟨i.cap,by rw [Int.natAbs_neg];exact i.mag,d.sgn⟩
 have a:(-x*y).natAbs=(x*y).natAbs:=by rw [Int.neg_mul,Int.natAbs_neg]
 refine Au (N1:=N1) S k j hab hN2 (by rw [a];exact hM) hN1 ?_
 intro h' g' c S'
 rw [a,Int.neg_mul,<- Int.sub_eq_add_neg] at S'
 exact ⟨rfl,hK h' g' c S'⟩
def Cy{XA YA:Option aM}{xn xc yn yc:Nat}(ma:Mw h XA xn x)(mb:Mw h YA yn y)(hyx:y<=x)(hl:xn<=1000000000)(hK:∀ A' m c' h',h.le h'->m<=c'->Mw h' A' m (x-y)->K (.slice A' m c') h'):FCall prog R8 #[.slice XA xn xc,.slice YA yn yc] h K:=by
 have q:yn<=xn:=mb.len_le (by decide) (Int.lt_of_le_of_lt hyx (ma.lt (by decide)))
 obtain ⟨B,c,k,o,z,rfl⟩:=ma
 obtain ⟨t,a,n,p,A,rfl⟩:=mb
 refine Pj _ _ _ _ _ _ ?_
 unfold Jg
 refine K3 Q0 (by omega) (by omega) (by omega) ?_
 intro b j
 rw [aO]
 refine ⟨_,_,_,rfl,?_⟩
 have w:=Win.blk .u64 C2 j (List.replicate xn 0)
 refine Gx Q0 w (by simp) (k.mono w.le) c (by simp;omega) ?_
 intro u f
 refine ⟨_,rfl,?_⟩
 rw [List.drop_of_length_le (by simp;omega),List.append_nil] at f
 refine El f c n a o p (by omega) hyx (by omega) ?_
 intro zs s i e d g
 refine ⟨rfl,?_⟩
 refine Bm g.sl e (by omega) d (Nat.le_refl _) (by omega) ?_
 intro m l r
 exact ⟨_,_,_,rfl,hK _ _ _ _ g.le l r⟩
def Nh{b:Nat}{e:TypeId}{N:Nat}{M v:Int}(S:SumS h g b e N M v)(hN2:N<=400000000)(hK:∀ s A n c h',h.le h'->ZI h' s A n c v->K (.agg #[.bool s,.slice A n c]) h'):FCall prog Tn #[.pointer (some ⟨b,0,none⟩)] h K:=by
 obtain ⟨PA,NA,o,p,q,w,f,j,g1,D,z,t,F,rfl,u,y,dp,dn,V,aa,R,B⟩:=S
 have Q:(aC ⟨b,0,none⟩ 0)=⟨b,0,none⟩:=Gy b 0 0
 have O:(aC ⟨b,0,none⟩ 1)=⟨b,1,none⟩:=Gy b 0 1
 have C:=Heap.le_put (.cells #[.slice PA o p,.slice NA q w] e) F
 refine B5d _ ?_
 unfold C00
 refine ⟨_,rfl,_,_,_,by rw [Q,E5];rfl,_,rfl,_,_,_,by rw [O,E5];rfl,?_⟩
 have G:SlI .u64 (D.put b (.cells #[.slice PA o p,.slice NA q w] e)) PA f:=SlI.mono C (SlI.mono t.le z.slV)
 have L:SlI .u64 (D.put b (.cells #[.slice PA o p,.slice NA q w] e)) NA j:=SlI.mono C t.slV
 refine Bm G dp u rfl z.2.1 (by omega) ?_
 intro m1 E M1
 refine ⟨_,_,_,rfl,B4 _,?_⟩
 refine Bm L dn y rfl t.2.1 (by omega) ?_
 intro m2 J M2
 refine ⟨_,_,_,rfl,B4 _,?_⟩
 refine F9 M1 M2 (by omega) ⟨_,rfl,?_⟩
 refine B7 (fun i=>?_) (fun i=>?_)
 ·have a:val b64 j<=val b64 f:=by unfold Fc at i;split at i<;>omega
  refine Cy M1 M2 a (by omega) ?_
  intro A3 W Z X l r M3
  obtain ⟨d,k⟩:=aT (show 0<=val b64 f-val b64 j by omega)
  rw [k] at M3
  refine ⟨_,_,_,rfl,O2 (v:=d) M3 r ?_⟩
  intro T x
  refine ⟨_,_,_,_,rfl,hK _ _ _ _ _ l ?_⟩
  rw [V,k];exact x
 ·have a:val b64 f<=val b64 j:=by
   unfold Fc at i
   by_cases H:val b64 f<val b64 j
   ·omega
   ·rw [iN H] at i;split at i<;>omega
  refine Cy M2 M1 a (by omega) ?_
  intro A3 W Z X l r M3
  obtain ⟨d,k⟩:=aT (show 0<=val b64 j-val b64 f by omega)
  rw [k] at M3
  refine ⟨_,_,_,rfl,O2 (v:=d) M3 r ?_⟩
  intro T x
  refine ⟨_,_,_,_,rfl,hK _ _ _ _ _ l ?_⟩
  have m:v= -(d:Int):=by omega
  rw [m];exact x
def B1f(gl:Gtz h)(i:ZI h s A an ac x)(j:ZI h s' B bn bc y)(hx:ZB m x)(hy:ZB m y)(hm:m<=6400000000)(hK:∀ A' n' c' h',h.le h'->ZI h' false A' n' c' (Int.lcm x y:Int)->K (.agg #[.bool false,.slice A' n' c']) h'):FCall prog B3s #[.agg #[.bool s,.slice A an ac],.agg #[.bool s',.slice B bn bc]] h K:=by
 have c:=i.zeroIff
 have b:=j.zeroIff
 have g:=i.len hx hm
 have a:=j.len hy hm
 refine C24 _ _ _ _ _ _ _ _ ?_
 unfold C6p
 refine E4 (fun t=>?_) (fun r=>E4 (fun t=>?_) (fun p=>?_))
 ·refine hK none 0 0 h (B4 _) ?_
  rw [c.2 (by omega),Int.lcm_zero_left];exact ZI.zero
 ·refine hK none 0 0 h (B4 _) ?_
  rw [b.2 (by omega),Int.lcm_zero_right];exact ZI.zero
 ·have n:x≠0:=fun e=>r (by have:=c.1 e;omega)
  have u:y≠0:=fun e=>p (by have:=b.1 e;omega)
  refine Od gl i.mag j.mag i.cap j.cap g a ?_
  intro A3 w S Q d q M3
  refine ⟨_,_,_,rfl,d,?_⟩
  rw [Int.gcd_natCast_natCast] at M3
  have R:Nat.gcd x.natAbs y.natAbs≠0:=fun e=>by
   have:=Nat.eq_zero_of_gcd_eq_zero_left e
   omega
  have o:w<=100000000:=by
   refine Nat.le_trans (M3.len_le (by decide) (j:=bn) ?_) a
   have l:=j.mag.lt (by decide)
   have k:Nat.gcd x.natAbs y.natAbs<=y.natAbs:=Nat.gcd_le_right _ (by omega)
   omega
  refine S8 (j.mag.mono d) M3 j.cap q (by omega) (by omega) (by omega) ?_
  intro A4 D M A5 J H O f F L M4 M5
  refine ⟨_,_,_,_,_,_,rfl,f,?_⟩
  rw [<- Int.natCast_ediv] at M4
  have C:D<=100000000:=by
   refine Nat.le_trans (M4.len_le (by decide) (j:=bn) ?_) a
   have l:=j.mag.lt (by decide)
   have k:=Nat.div_le_self y.natAbs (Nat.gcd x.natAbs y.natAbs)
   omega
  refine H8 (i.mag.mono (B0 d f)) M4 i.cap F (by omega) (by omega) ?_
  intro A6 G N T E z M6
  refine ⟨_,_,_,rfl,hK _ _ _ _ (B0 d (B0 f E)) ⟨z,?_,?_⟩⟩
  ·rw [Int.natAbs_natCast]
   rw [<- Int.natCast_mul] at M6
   have:Int.lcm x y=x.natAbs*(y.natAbs/Nat.gcd x.natAbs y.natAbs):=by
    show Nat.lcm x.natAbs y.natAbs=_
    rw [Nat.lcm,Nat.mul_div_assoc _ (Nat.gcd_dvd_right _ _)]
   rw [this];exact M6
  ·symm;rw [decide_eq_false_iff_not];omega
end
abbrev RQr:aE->QV->Rat->Prop:=fun h w q=>RQ h w q
abbrev NQr:aE->QV->Rat->Prop:=fun h w q=>NQ h w q
abbrev ZIr:aE->IV->Int->Prop:=fun h w z=>ZI h w.s w.A w.n w.c z
abbrev SSr:aE->List UInt8->List UInt8->Prop:=fun _ w s=>w=s
def Mon{α β:Type}(R:aE->α->β->Prop):Prop:=∀ (h h':aE) (w:α) (x:β),h.le h'->R h w x->R h' w x
def K9:Mon RQr:=fun _ _ _ _ a i=>⟨i.num.mono a,i.den.mono a⟩
def I9:Mon NQr:=fun _ _ _ _ a i=>NQ.mono a i
def Kk:Mon ZIr:=fun _ _ _ _ a i=>i.mono a
def L7:Mon SSr:=fun _ _ _ _ _ i=>i
instance:Enc QV:=⟨⟨fun w=>[.bool w.s,.slice w.A w.n w.c,.bool w.s2,.slice w.A2 w.n2 w.c2],4,fun _=>rfl,fun w v hv=>by simp at hv;rcases hv with rfl|rfl|rfl|rfl<;>rfl⟩⟩
section
variable {α β:Type}
def Row(R:aE->α->β->Prop)(g:aE)(xs:List α)(n:Nat)(f:Nat->β):Prop:=∀ i,i<n->∃ w,xs[i]? = some w/\R g w (f i)
variable {R:aE->α->β->Prop} {g g' h h':aE} {xs:List α} {n:Nat} {f:Nat->β}
def Row.mono(m:Mon R)(hl:g.le g')(r:Row R g xs n f):Row R g' xs n f:=fun i a=>by
 obtain ⟨w,e,b⟩:=r i a
 exact ⟨w,e,m _ _ _ _ hl b⟩
def Row.nil:Row R g xs 0 f:=fun i a=>by omega
def Row.set{k:Nat}(r:Row R g xs k f)(hk:k<xs.length){w:α}(hw:R g w (f k)):Row R g (xs.set k w) (k+1) f:=fun i c=>by
 by_cases e:i=k
 ·subst e;exact ⟨w,by rw [aU hk],hw⟩
 ·obtain ⟨u,a,b⟩:=r i (by omega)
  exact ⟨u,by rw [List.getElem?_set_ne (fun x=>e x.symm)];exact a,b⟩
def Row.upd(r:Row R g xs n f){k:Nat}(hk:k<xs.length){w:α}{y:β}(hw:R g w y):Row R g (xs.set k w) n (fun i=>if i=k then y else f i):=fun i a=>by
 by_cases e:i=k
 ·subst e;exact ⟨w,by rw [aU hk],by show R g w (if i=i then y else f i);rw [iP rfl];exact hw⟩
 ·obtain ⟨u,b,c⟩:=r i a
  exact ⟨u,by rw [List.getElem?_set_ne (fun x=>e x.symm)];exact b,by show R g u (if i=k then y else f i);rw [iN e];exact c⟩
def Row.push(r:Row R g xs xs.length f){w:α}(hw:R g w (f xs.length)):Row R g (xs++[w]) (xs++[w]).length f:=fun i a=>by
 rw [List.length_append] at a
 by_cases e:i=xs.length
 ·subst e;exact ⟨w,by simp,hw⟩
 ·obtain ⟨u,b,c⟩:=r i (by simp at a;omega)
  exact ⟨u,by rw [List.getElem?_append_left (by simp at a;omega)];exact b,c⟩
def Row.congr{f':Nat->β}(r:Row R g xs n f)(h:∀ i,i<n->f i=f' i):Row R g xs n f':=fun i a=>by
 obtain ⟨w,e,b⟩:=r i a
 exact ⟨w,e,by rw [<- h i a];exact b⟩
def Row.get(r:Row R g xs n f){i:Nat}(hi:i<n)(hl:i<xs.length):R g xs[i] (f i):=by
 obtain ⟨w,e,a⟩:=r i hi
 rw [List.getElem?_eq_getElem hl] at e
 cases e;exact a
variable [E:Enc α]
def RowV(R:aE->α->β->Prop)(h:aE)(A:Option aM)(n:Nat)(f:Nat->β):Prop:=∃ xs:List α,SlF h A xs/\xs.length=n/\Row R h xs n f
def RowV.mono(m:Mon R){A:Option aM}(hl:h.le h')(r:RowV R h A n f):RowV R h' A n f:=by
 obtain ⟨a,s,e,r⟩:=r
 exact ⟨a,s.mono hl,e,r.mono m hl⟩
def RowV.nil{A:Option aM}:RowV R h A 0 f:=⟨[],SlF.nil,rfl,Row.nil⟩
def RowV.congr{A:Option aM}{f':Nat->β}(r:RowV R h A n f)(e:∀ i,i<n->f i=f' i):RowV R h A n f':=by
 obtain ⟨a,s,l,r⟩:=r
 exact ⟨a,s,l,r.congr e⟩
def RowV.cut{A:Option aM}(r:RowV R h A n f){c l k:Nat}(hlk:l+k<=n)(hc:n<=c):RowV R h (K5 A c l E.default.size) k (fun i=>f (l+i)):=by
 obtain ⟨a,s,e,r⟩:=r
 refine ⟨(a.drop l).take (l+k-l),s.cut (l:=l) (m:=l+k) (by omega) (by omega) (by omega),by simp;omega,fun i g=>?_⟩
 obtain ⟨w,d,b⟩:=r (l+i) (by omega)
 exact ⟨w,by rw [List.getElem?_take,iP (by omega),List.getElem?_drop];exact d,b⟩
def RowV.at(pos:0<E.default.size){A:Option aM}(r:RowV R h A n f){i:Nat}(hi:i<n):∃ a w,A=some a/\R h w (f i)/\∀ j v,(enc w)[j]? = some v->h.cell? (aC (aC a (i*E.default.size)) j)=some v:=by
 obtain ⟨d,s,e,r⟩:=r
 obtain ⟨a,c,b⟩:=SlF.at pos s (i:=i) (by omega)
 exact ⟨a,d[i],c,r.get hi (by omega),b⟩
structure Own (R:aE->α->β->Prop) (h h':aE) (b n:Nat) (f:Nat->β):Prop where
 ex:∃ g o xs,h.le g/\Sep h' g o/\RowX o b xs/\xs.length=n/\Row R g xs n f
def Own.le{b:Nat}(w:Own R h h' b n f):h.le h':=by
 obtain ⟨g,o,a,l,s,_⟩:=w.ex
 exact B0 l s.le
def Own.vis(m:Mon R){b:Nat}(w:Own R h h' b n f):RowV R h' (some ⟨b,0,none⟩) n f:=by
 obtain ⟨g,o,a,l,s,r,e,q⟩:=w.ex
 exact ⟨a,r.rowB.slF s.ole,e,q.mono m s.le⟩
end
section
variable {h:aE} {A:Option aM} {n:Nat}
def RowV.qat{R:aE->QV->Rat->Prop}{f:Nat->Rat}(r:RowV R h A n f){i:Nat}(hi:i<n):∃ a w,A=some a/\R h w (f i)/\h.cell? (aC (aC a (i*4)) 0)=some (.bool w.s)/\h.cell? (aC (aC a (i*4)) 1)=some (.slice w.A w.n w.c)/\h.cell? (aC (aC a (i*4)) 2)=some (.bool w.s2)/\h.cell? (aC (aC a (i*4)) 3)=some (.slice w.A2 w.n2 w.c2):=by
 obtain ⟨a,w,e,d,b⟩:=r.at (by decide) hi
 exact ⟨a,w,e,d,b 0 _ rfl,b 1 _ rfl,b 2 _ rfl,b 3 _ rfl⟩
def RowV.zat{f:Nat->Int}(r:RowV ZIr h A n f){i:Nat}(hi:i<n):∃ a w,A=some a/\ZIr h w (f i)/\h.cell? (aC (aC a (i*2)) 0)=some (.bool w.s)/\h.cell? (aC (aC a (i*2)) 1)=some (.slice w.A w.n w.c):=by
 obtain ⟨a,w,e,d,b⟩:=r.at (by decide) hi
 exact ⟨a,w,e,d,b 0 _ rfl,b 1 _ rfl⟩
def RowV.sat{f:Nat->List UInt8}(r:RowV SSr h A n f){i:Nat}(hi:i<n):∃ a,A=some a/\h.cell? (aC a (i*1))=some (.string (bs (f i))):=by
 obtain ⟨a,w,e,d,c⟩:=r.at (by decide) hi
 have b:w=f i:=d
 subst b
 refine ⟨a,e,?_⟩
 have:=c 0 _ rfl
 rw [Iz] at this
 exact this
end
