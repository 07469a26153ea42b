/- A part. -/
import Derived.Test.YtmbfcbbkbefgfaaGreatDoorG21
import Derived.Test.YtmbfcbbkbefgfaaGreatDoorG26
import Derived.Test.YtmbfcbbkbefgfaaGreatDoorG25
open Go.Proofs.Tryz
set_option linter.all false
open _root_.Go.Addr renaming add->aC
open Int renaming mul_le_mul_of_nonneg_left->aF,mul_zero->aH,add_zero->aK,pow_pos->aN,toNat_natCast->aO,le_of_lt->aP,eq_ofNat_of_zero_le->aT
open List renaming length_take->aI,take_of_length_le->aJ,take_append_drop->aL,eq_nil_of_length_eq_zero->aQ,getElem?_cons_zero->aR,getElem?_cons_succ->aS,getElem?_set_self->aU
open List.cons renaming injEq->aG
open _root_.Go.Value.slice renaming injEq->aD
open _root_.Go renaming Addr->aM
open _root_.Go.Proofs.YtmbfcbbkbefgfaaGreatDoor renaming Heap->aE
namespace Go.Proofs.YtmbfcbbkbefgfaaGreatDoor
set_option maxRecDepth 20000
open Go
section
variable {h g:aE} {K:VP} {A B:Option aM} {s s':Bool} {an ac bn bc m:Nat} {x y:Int}
end
def B1h(B:Int):∀ {ts:List Int} {k:Nat} (_:k<ts.length) (v:Int),val B (ts.set k v)=val B ts+B^k*(v-ts.getD k 0)
 | [],k,h,v=>by simp at h
 | t::ts,0,h,v=>by simp [val];grind
 | t::ts,k+1,h,v=>by
  have ih:=B1h B (ts:=ts) (k:=k) (by simpa using h) v
  simp only [List.set_cons_succ,val,List.getD_cons_succ,ih,Int.pow_succ]
  grind
section
variable {h g:aE} {K:VP} {A B:Option aM} {s s':Bool} {an ac bn bc m:Nat} {x y:Int}
def A8q{hp:aE}{n c k:Nat}{ts:List Int}{ca:Int}(p:Pw hp g A n c ts)(hn:n=ts.length)(dt:Dig b64 ts)(hk:k<n)(hca:0<=ca/\ca<18446744073709551616){Q:Int->aE->Prop}
 (hQ:∀ h' ts',Pw h' g A n c ts'->n=ts'.length->Dig b64 ts'->val b64 ts'+b64^(k+1)*((ts.getD k 0+ca)/18446744073709551616)=val b64 ts+b64^k*ca->Q ((ts.getD k 0+ca)/18446744073709551616) h'):
 ∃ a,A=some a/\0<=(k:Int)/\(k:Int)<((n:Nat):Int)/\∃ (t:Int),Heap.cell? hp (aC a (((k:Int)).toNat*1))=some (U t)/\ECall prog U5 #[U t,U ca,U (0:Int)] hp (fun r hp1=>∃ (ta tb:Int),r= .tuple #[U ta,U tb]/\∃ a2,A=some a2/\0<=(k:Int)/\(k:Int)<((n:Nat):Int)/\wpH prog (Instr.storeAt C4 (.pointer (some (aC a2 (((k:Int)).toNat*1)))) (U ta)) (fun _ hp2=>Q tb hp2) hp1):=by
 have d:ts≠[]:=by rintro rfl;simp at hn;omega
 obtain ⟨b,l,w,s⟩:=Fj p d
 have y:=O6 dt k
 refine w.sl.load hn (by omega) (by omega) ?_
 simp only [aO]
 refine Dv y hca (by omega) ⟨_,_,rfl,?_⟩
 obtain ⟨a,f,_⟩:=SlV.at w.sl (i:=k) (by simp;omega)
 refine ⟨a,f,by omega,by omega,w.storeN G7 f (by omega) ?_⟩
 intro u j
 simp only [aK] at j ⊢
 have e:=j.priv (m:=n) (c:=c) (by intro o;have:=congrArg List.length o;rw [List.length_set,List.length_nil] at this;exact d (aQ this)) (by simpa using s) (by simp;omega)
 rw [aJ (by simp;omega)] at e
 refine hQ u _ e (by simpa using hn) (dt.set (Eu _)) ?_
 rw [B1h b64 (by omega),Int.pow_succ]
 have:=Int.mul_ediv_add_emod (ts.getD k 0+ca) 18446744073709551616
 show _+b64^k*_+b64^k*18446744073709551616*_=_
 generalize (ts.getD k 0+ca)/18446744073709551616=q at *
 generalize (ts.getD k 0+ca)%18446744073709551616=r at *
 grind
def B4n{Invv1:LP}{muv1:LN}{TA:Option aM}{tn tc i x2n:Nat}{ts:List Int}{ca:Int}{hp8 hp7:aE}(p:Pw hp8 g TA tn tc ts)(hn:tn=ts.length)(dt:Dig b64 ts)(hle:i+x2n<=tn)(hca:0<=ca/\ca<18446744073709551616)(hl:tn<=1000000000)
 (hK:∀ TA' tn' tc' ts' h' g',g.le g'->Pw h' g' TA' tn' tc' ts'->tn'=ts'.length->Dig b64 ts'->val b64 ts'=val b64 ts+b64^(i+x2n)*ca->(tn'=tn\/(tn'=tn+1/\b64^tn<=val b64 ts'))->Invv1 [.slice TA' tn' tc',I (B7 ((i:Int)+1))] h'/\muv1 [.slice TA' tn' tc',I (B7 ((i:Int)+1))] h'<muv1 [.slice TA tn tc,I (i:Int)] hp7):
 Eh prog x2n Invv1 muv1 TA tn tc (i:Int) ca hp8 hp7:=by
 unfold Eh
 have W:B7 ((i:Int)+(x2n:Int))=((i+x2n:Nat):Int):=by rw [C0 (by omega) (by omega)];omega
 rw [W]
 refine ⟨fun L Z=>∃ (k:Nat) (c1:Int) (d:List Int) (A1:Option aM) (b c:Nat) (q:aE),L=[.slice A1 b c,U c1,I k]/\g.le q/\Pw Z q A1 b c d/\b=d.length/\Dig b64 d/\k<=b/\(0<=c1/\c1<18446744073709551616)/\val b64 d+b64^k*c1=val b64 ts+b64^(i+x2n)*ca/\(b=tn\/(b=tn+1/\c1=0/\b64^tn<=val b64 d)),fun L _=>tn+2-(iAt L 2).toNat,⟨i+x2n,ca,ts,TA,tn,tc,g,rfl,B5 _,p,hn,dt,hle,hca,rfl,.inl rfl⟩,?_⟩
 rintro A1 b c c1 k0 E ⟨k,T,d,A1',aa,M,q,J,C,z,l,u,hk,e,w,s⟩
 simp only [aG,aD,Value.int.injEq,and_true,true_and] at J
 obtain ⟨⟨rfl,rfl,rfl⟩,rfl,rfl⟩:=J
 refine I4 (fun G=>?_) (fun G=>?_)
 ·have j:b=tn:=by
   rcases s with m|⟨_,m,_⟩
   ·exact m
   ·exact absurd m G
  have N:B7 ((k:Int)+1)=((k+1:Nat):Int):=by rw [C0 (by omega) (by omega)];omega
  have t:∀ (H O S R:Value),tn+2-(iAt [H,O,I ((k+1:Nat):Int)] 2).toNat<tn+2-(iAt [S,R,I (k:Int)] 2).toNat:=by
   intro H O S R
   simp only [iAt,aR,aS]
   omega
  refine E5 (fun A=>?_) (fun A=>?_)
  ·have r:k=b:=by omega
   refine Ea R4 z rfl rfl (by omega) (by omega) ?_
   intro A2 c2 h2 V X Q
   rw [<- List.map_singleton (f:=Value.int .u64),<- List.map_append] at Q
   have d2:Dig b64 (d++[0]):=u.append (Dig.one (by decide))
   refine A8q Q (by simp;omega) d2 (by omega) e ?_
   intro y o D n F a
   have hz:(d++[0]).getD k 0=0:=by
    rw [r,l,List.getD,List.getElem?_append_right (Nat.le_refl _)];simp
   rw [hz,Int.zero_add,Int.ediv_eq_zero_of_lt e.1 e.2] at a ⊢
   rw [N]
   rw [F7,aH,aK,aH,aK] at a
   refine ⟨⟨k+1,0,o,A2,b+1,c2,V,rfl,B0 C X,D,n,F,by omega,by omega,?_,.inr ⟨by omega,rfl,?_⟩⟩,t _ _ _ _⟩
   ·rw [a,aH,aK];exact w
   ·rw [a,<- j,<- r]
    have h5:=C9 (B:=b64) (by decide) u
    have h6:b64^k*1<=b64^k*c1:=aF (by omega) (aP (aN (by decide)))
    omega
  ·refine A8q z l u (by omega) e ?_
   intro y o D n F a
   rw [N]
   have gt:=O6 u k
   refine ⟨⟨k+1,_,o,A1,b,c,q,rfl,C,D,n,F,by omega,?_,?_,.inl j⟩,t _ _ _ _⟩
   ·constructor
    ·exact Int.ediv_nonneg (by omega) (by decide)
    ·omega
   ·rw [a];exact w
 ·subst G
  rw [aH,aK] at w
  refine hK A1 b c d E q C z l u w ?_
  rcases s with m|⟨m,_,y⟩
  ·exact .inl m
  ·exact .inr ⟨m,y⟩
def B84{XA YA TA:Option aM}{xs ys ts:List Int}{x2n x2c y2n tn tc N:Nat}{hp4:aE}(p:Pw hp4 g TA tn tc ts)(hn:tn=ts.length)(dt:Dig b64 ts)(sx:SlI .u64 g XA xs)(hx:x2n=xs.length)(dx:Dig b64 xs)(sy:SlI .u64 g YA ys)(hy:y2n=ys.length)(dy:Dig b64 ys)(hxy:x2n+y2n<=tn)(hN:tn<=N)(hN2:N<=400000000)(hV:val b64 ts+val b64 xs*val b64 ys<b64^N)
 (hK:∀ TA' tn' tc' ts' h' g',g.le g'->Pw h' g' TA' tn' tc' ts'->tn'=ts'.length->Dig b64 ts'->val b64 ts'=val b64 ts+val b64 xs*val b64 ys->tn'<=N->K (.slice TA' tn' tc') h'):
 Gx prog K XA x2n x2c YA y2n TA tn tc hp4:=by
 unfold Gx
 have X:=C9 (B:=b64) (by decide) dx
 have ae:=C9 (B:=b64) (by decide) dy
 have n:∀ k,val b64 (ys.take k)<=val b64 ys:=by
  intro k
  have J:=H2 b64 (ys.take k) (ys.drop k)
  rw [aL] at J
  have h2:0<=b64^(ys.take k).length*val b64 (ys.drop k):=Int.mul_nonneg (aP (aN (by decide))) (C9 (B:=b64) (by decide) (dy.drop k))
  omega
 refine ⟨fun L hp=>∃ (k:Nat) (a:List Int) (A1:Option aM) (e d:Nat) (z:aE),L=[.slice A1 e d,I k]/\g.le z/\Pw hp z A1 e d a/\e=a.length/\Dig b64 a/\k<=y2n/\val b64 a=val b64 ts+val b64 xs*val b64 (ys.take k)/\x2n+y2n<=e/\e<=N,fun L _=>y2n-(iAt L 1).toNat,⟨0,ts,TA,tn,tc,g,rfl,B5 _,p,hn,dt,by omega,by simp [val],hxy,hN⟩,?_⟩
 rintro A1 e d k0 F ⟨k,a,A1',ad,ab,z,Z,A,M,r,D,hk,O,ac,q⟩
 simp only [aG,aD,Value.int.injEq,and_true,true_and] at Z
 obtain ⟨⟨rfl,rfl,rfl⟩,rfl⟩:=Z
 refine B8 (fun J=>?_) (fun J=>?_)
 ·have gy:=O6 dy k
  have vy:=C7 b64 ys k
  have H:B7 ((k:Int)+(x2n:Int))=((k+x2n:Nat):Int):=by rw [C0 (by omega) (by omega)];omega
  rw [H]
  refine (sy.mono (B0 A M.le)).load hy (by omega) (by omega) ?_
  simp only [aO]
  have y:a≠[]:=by rintro rfl;simp at r;omega
  obtain ⟨b,aa,w,hc⟩:=Fj M y
  refine ⟨⟨by omega,by omega⟩,⟨by omega,by omega⟩,?_⟩
  have f:((a.drop k).take (k+x2n-k)).length=xs.length:=by rw [aI,List.length_drop];omega
  refine Ix (w.sub (l:=k) (m:=k+x2n) (c:=d) (by omega) (by omega) (by omega)) (by rw [f];omega) (sx.mono A) hx ((D.drop k).take _) dx f gy (by omega) ?_
  intro C c h' i u G S w'
  rw [f] at i S
  have w2:=w.whole (l:=k) (m:=k+x2n) (by omega) (by omega) (by omega) w'
  refine ⟨_,rfl,?_⟩
  have j:(a.take k++C++a.drop (k+x2n)).length=a.length:=by
   simp only [List.length_append,aI,List.length_drop];omega
  have t:a.take k++C++a.drop (k+x2n)≠[]:=by
   intro e0
   rw [e0] at j
   exact y (aQ (by simpa using j.symm))
  have p2:=w2.priv (m:=e) (c:=d) t (by rw [j];exact hc) (by omega)
  rw [aJ (by omega)] at p2
  have d2:Dig b64 (a.take k++C++a.drop (k+x2n)):=((D.take k).append u).append (D.drop _)
  have W:a=a.take k++((a.drop k).take (k+x2n-k)++a.drop (k+x2n)):=by
   have H:a.drop (k+x2n)=(a.drop k).drop (k+x2n-k):=by rw [List.drop_drop];congr 1;omega
   rw [H,aL,aL]
  have o:val b64 (a.take k++C++a.drop (k+x2n))+b64^(k+x2n)*c=val b64 a+b64^k*(val b64 xs*ys.getD k 0):=by
   have e2:val b64 a=val b64 (a.take k)+b64^k*(val b64 ((a.drop k).take (k+x2n-k))+b64^xs.length*val b64 (a.drop (k+x2n))):=by
    conv=>lhs;rw [W]
    rw [H2,H2,f,aI,Nat.min_eq_left (by omega)]
   rw [e2,List.append_assoc,H2,H2,aI,Nat.min_eq_left (by omega),i,hx,Int.pow_add]
   generalize b64^k=P at *
   generalize b64^xs.length=R at *
   grind
  refine B4n p2 (by omega) d2 (by omega) G (by omega) ?_
  intro TA' tn' tc' ts' h3 g3 l3 p3 V d3 s Q
  rw [o,O] at s
  have E:val b64 ts'=val b64 ts+val b64 xs*val b64 (ys.take (k+1)):=by
   rw [s,vy];grind
  have T:tn'<=N:=by
   rcases Q with h4|⟨h4,h5⟩
   ·omega
   ·have h6:=aF (n (k+1)) X
    have h7:b64^e<b64^N:=by omega
    have h8:e<N:=by
     by_cases h9:e<N
     ·exact h9
     ·have:=D4 (B:=b64) (by decide) (show N<=e by omega)
      omega
    omega
  have e3:B7 ((k:Int)+1)=((k+1:Nat):Int):=by rw [C0 (by omega) (by omega)];omega
  rw [e3]
  exact ⟨⟨k+1,ts',TA',tn',tc',g3,rfl,B0 A l3,p3,V,d3,by omega,E,by omega,T⟩,by simp only [iAt,aR,aS];omega⟩
 ·obtain rfl:k=y2n:=by omega
  rw [aJ (by omega)] at O
  exact hK A1 e d a F z A M r D O q
def Iz{TA XA YA:Option aM}{ts:List Int}{tn tc xn xc yn yc N:Nat}(p:Pw h g TA tn tc ts)(hn:tn=ts.length)(dt:Dig b64 ts)(ma:Mw g XA xn x)(mb:Mw g YA yn y)(hxc:xn<=xc)(hyc:yn<=yc)(hN:tn<=N)(hxy:xn+yn+1<=N)(hN2:N<=400000000)(hV:val b64 ts+x*y<b64^N)
 (hK:∀ TA' tn' tc' ts' h' g',g.le g'->Pw h' g' TA' tn' tc' ts'->tn'=ts'.length->Dig b64 ts'->val b64 ts'=val b64 ts+x*y->tn'<=N->K (.slice TA' tn' tc') h'):FCall prog Cg #[.slice TA tn tc,.slice XA xn xc,.slice YA yn yc] h K:=by
 have ap:=ma.nonneg (by decide)
 have af:=mb.nonneg (by decide)
 refine Xt _ _ _ _ _ _ _ _ _ ?_
 unfold Ws
 refine ⟨fun L E=>E=h/\∃ (A1 B1:Option aM) (i c1 s c2:Nat) (r c:Int),L=[.slice A1 i c1,.slice B1 s c2]/\Mw g A1 i r/\Mw g B1 s c/\i<=c1/\s<=c2/\i+s=xn+yn/\r*c=x*y,B8 (fun _=>⟨rfl,_,_,_,_,_,_,y,x,rfl,mb,ma,hyc,hxc,by omega,Int.mul_comm _ _⟩) (fun _=>⟨rfl,_,_,_,_,_,_,x,y,rfl,ma,mb,hxc,hyc,rfl,rfl⟩),?_⟩
 rintro A1 i c1 B1 s c2 E ⟨rfl,A1',B1',ae,ag,al,an,r,c,m,D,F,k1,k2,am,j⟩
 simp only [aG,aD,and_true] at m
 obtain ⟨⟨rfl,rfl,rfl⟩,rfl,rfl,rfl⟩:=m
 have aa:=D.nonneg (by decide)
 have Z:=F.nonneg (by decide)
 refine ⟨fun L A=>∃ (A2 B2:Option aM) (a c3 d c4:Nat) (S W:Int) (q:aE),L=[.slice A2 a c3,.slice B2 d c4]/\g.le q/\Pw A q TA tn tc ts/\Mw q A2 a S/\Mw q B2 d W/\a+d<=xn+yn+1/\S*W=x*y,B8 (fun _=>?_) (fun _=>⟨_,_,_,_,_,_,r,c,g,rfl,B5 _,p,D,F,by omega,j⟩),?_⟩
 ·refine p.call ?_
  refine I7 D F k1 k2 (by omega) (by omega) ?_
  intro A3 a c3 O l3 k3 M3 h3 p3
  refine ⟨_,_,_,rfl,?_⟩
  refine Bi R4 rfl ?_
  intro b J
  have B:O b=none:=by
   cases hx1:O b with
   | none=>rfl
   | some o=>rw [p3.le b o hx1] at J;cases J
  refine ⟨_,_,_,rfl,_,_,_,_,_,_,r*c,1,O.put b (.cells #[U 1] C4),rfl,B0 l3 (Heap.le_put _ B),p3.put J _,M3.mono (Heap.le_put _ B),?_,?_,by rw [Int.mul_one];exact j⟩
  ·refine ⟨[1],rfl,SlI.new _ _ _ _ _,?_,?_,?_⟩
   ·intro x hx;simp at hx;subst hx;decide
   ·unfold Norm;simp
   ·simp [val]
  ·have w:=D.lt (by decide)
   have C:=F.lt (by decide)
   have G:r*c<b64^(i+s):=by
    rw [Int.pow_add]
    by_cases h0:c=0
    ·subst h0
     rw [aH]
     exact Int.mul_pos (aN (by decide)) (aN (by decide))
    ·have h1:r*c<b64^i*c:=Int.mul_lt_mul_of_pos_right w (by omega)
     have h2:b64^i*c<=b64^i*b64^s:=aF (aP C) (aP (aN (by decide)))
     omega
   have:=M3.len_le (by decide) G
   omega
 rintro A2 a c3 B2 d c4 A ⟨A2',B2',ad,ab,ac,ak,S,W,q,m,lg,p1,M1,M2,ao,l⟩
 simp only [aG,aD,and_true] at m
 obtain ⟨⟨rfl,rfl,rfl⟩,rfl,rfl,rfl⟩:=m
 obtain ⟨xs,H,sx,dx,nx,rfl⟩:=M1
 obtain ⟨ys,R,sy,dy,ny,rfl⟩:=M2
 unfold Pj
 have e1:B7 ((a:Int)+(d:Int))=((a+d:Nat):Int):=by rw [C0 (by omega) (by omega)];omega
 rw [e1]
 refine ⟨fun L E=>∃ (u:List Int) (A5:Option aM) (k c5:Nat) (V:aE),L=[.slice A5 k c5]/\q.le V/\Pw E V A5 k c5 u/\k=u.length/\Dig b64 u/\val b64 u=val b64 ts/\k<=N,fun L _=>match L with|[.slice _ n _]=>a+d-n|_=>0,⟨ts,TA,tn,tc,q,rfl,B5 _,p1,hn,dt,rfl,hN⟩,?_⟩
 rintro A5 k c5 ai ⟨u,A5',aj,ah,V,m,e,p5,X,du,t,Q⟩
 simp only [aG,aD,and_true] at m
 obtain ⟨rfl,rfl,rfl⟩:=m
 refine B8 (fun h1=>?_) (fun h1=>?_)
 ·refine Ea R4 p5 rfl rfl (by omega) (by omega) ?_
  intro A6 c6 h6 g6 l6 p6
  rw [<- List.map_singleton (f:=Value.int .u64),<- List.map_append] at p6
  refine ⟨⟨u++[0],A6,k+1,c6,g6,rfl,B0 e l6,p6,by simp;omega,du.append (Dig.one (by decide)),by rw [F7,t];simp,by omega⟩,?_⟩
  show a+d-(k+1)<a+d-k
  omega
 ·refine B84 (N:=N) p5 X du (sx.mono e) H dx (sy.mono e) R dy (by omega) Q hN2 (by rw [t,l];exact hV) ?_
  intro TA' tn' tc' ts' h' g' l' p' M d' z T
  rw [t,l] at z
  exact hK TA' tn' tc' ts' h' g' (B0 lg (B0 e l')) p' M d' z T
def SumS(h g:aE)(b:Nat)(e:TypeId)(N:Nat)(M v:Int):Prop:=∃ (PA NA:Option aM) (pn pc nn nc:Nat) (ps ns:List Int) (g1 g2:aE),Pw g1 g PA pn pc ps/\Pw g2 g1 NA nn nc ns/\g2 b=none/\h=g2.put b (.cells #[.slice PA pn pc,.slice NA nn nc] e)/\pn=ps.length/\nn=ns.length/\Dig b64 ps/\Dig b64 ns/\v=val b64 ps-val b64 ns/\pn<=N/\nn<=N/\val b64 ps+val b64 ns<=M
def SumS.le{b:Nat}{e:TypeId}{N:Nat}{M v:Int}(S:SumS h g b e N M v):g.le h:=by
 obtain ⟨PA,NA,f,l,k,j,m,ns,i,n,a,c,d,rfl,_⟩:=S
 exact B0 a.le (B0 c.le (Heap.le_put _ d))
def SumS.zero{b:Nat}{e:TypeId}{N:Nat}(hb:g b=none):SumS (g.put b (.cells #[.slice none 0 0,.slice none 0 0] e)) g b e N 0 0:=
 ⟨none,none,0,0,0,0,[],[],g,g,Priv.nil _ _ _ _,Priv.nil _ _ _ _,hb,rfl,rfl,rfl,Dig.nil,Dig.nil,by simp [val],by omega,by omega,by simp [val]⟩
def Jo:prog.cellsOf Aj=1/\(prog.info? Aj).isSome=true:=by constructor<;>kernel_rfl
def Bk{b:Nat}{e:TypeId}{N:Nat}{M v:Int}{N1:Nat}(S:SumS h g b e N M v)(i:ZI g s A an ac x)(j:ZI g s' B bn bc y)(hab:an+bn+1<=N)(hN2:N<=400000000)(hM:M+(x*y).natAbs<b64^N1)(hN1:N1<=N)
 (hK:∀ h' g',g.le g'->SumS h' g' b e N (M+(x*y).natAbs) (v+x*y)->K (.tuple #[]) h'):FCall prog Y5 #[.pointer (some ⟨b,0,none⟩),.agg #[.bool s,.slice A an ac],.agg #[.bool s',.slice B bn bc]] h K:=by
 have W:=i.zeroIff
 have L:=j.zeroIff
 have c1:=Ay i.sgn
 have c2:=Ay j.sgn
 have D:((x*y).natAbs:Int)=(x.natAbs:Int)*(y.natAbs:Int):=by rw [Int.natAbs_mul,Int.natCast_mul]
 refine Xv _ _ _ _ _ _ _ _ _ ?_
 unfold Wu
 have same:x*y=0->K (.tuple #[]) h:=by
  intro t
  refine hK h g (B5 _) ?_
  rw [t];simpa using S
 refine E5 (fun t=>same (by rw [W.2 (by omega),Int.zero_mul])) (fun _=>E5 (fun t=>same (by rw [L.2 (by omega),aH])) (fun _=>?_))
 obtain ⟨PA,NA,pn,pc,nn,nc,ps,ns,g1,g2,G,p2,X,rfl,z,m,dp,O,hv,E,u,aa⟩:=S
 have ad:=C9 (B:=b64) (by decide) dp
 have ae:=C9 (B:=b64) (by decide) O
 have ab:b64^N1<=b64^N:=D4 (by decide) hN1
 have t:(aC ⟨b,0,none⟩ 0)=⟨b,0,none⟩:=Gw b 0 0
 have Z:(aC ⟨b,0,none⟩ 1)=⟨b,1,none⟩:=Gw b 0 1
 refine Br.of (fun F=>?_) (fun F=>?_)
 ·have w:x*y= -((x.natAbs:Int)*(y.natAbs:Int)):=by
   rcases c1 with ⟨rfl,h1⟩|⟨rfl,h1⟩<;>rcases c2 with ⟨rfl,h2⟩|⟨rfl,h2⟩
   ·simp at F
   ·conv=>lhs;rw [h1,h2]
    rw [Int.neg_mul]
   ·conv=>lhs;rw [h1,h2]
    rw [Int.mul_neg]
   ·simp at F
  refine ⟨_,rfl,_,_,_,by rw [Z,E9];rfl,?_⟩
  refine FCall.frame (K:=fun r Q=>∃ (TA':Option aM) (c d:Nat) (a:List Int) (g':aE),r= .slice TA' c d/\g1.le g'/\Pw Q g' TA' c d a/\c=a.length/\Dig b64 a/\val b64 a=val b64 ns+(x.natAbs:Int)*(y.natAbs:Int)/\c<=N) X (Iz (N:=N) p2 m O (i.mag.mono G.le) (j.mag.mono G.le) i.cap j.cap u hab hN2 (by omega) (fun TA' c d a h' g' o n k q f l=>⟨TA',c,d,a,g',rfl,o,n,k,q,f,l⟩)) ?_
  ·rintro r T p ⟨TA',c,d,a,g',rfl,o,n,k,q,f,l⟩
   refine ⟨_,_,_,rfl,_,rfl,?_⟩
   rw [Z]
   refine Eo Jo.1 Jo.2 rfl rfl (by simp) ?_
   obtain ⟨H,R,J⟩:=G.after o
   refine hK _ H R ⟨PA,TA',pn,pc,c,d,ps,a,g',T,J,n,p,rfl,z,k,dp,q,?_,E,l,?_⟩
   ·rw [f,hv,w];omega
   ·rw [f,D];omega
 ·have C:x*y=(x.natAbs:Int)*(y.natAbs:Int):=by
   rcases c1 with ⟨rfl,h1⟩|⟨rfl,h1⟩<;>rcases c2 with ⟨rfl,h2⟩|⟨rfl,h2⟩
   ·conv=>lhs;rw [h1,h2]
    rw [Int.neg_mul_neg]
   ·simp at F
   ·simp at F
   ·conv=>lhs;rw [h1,h2]
  obtain ⟨g4,p4,V⟩:=p2.swap G
  refine ⟨_,rfl,_,_,_,by rw [t,E9];rfl,?_⟩
  refine FCall.frame (K:=fun r Q=>∃ (TA':Option aM) (c d:Nat) (a:List Int) (g':aE),r= .slice TA' c d/\g4.le g'/\Pw Q g' TA' c d a/\c=a.length/\Dig b64 a/\val b64 a=val b64 ps+(x.natAbs:Int)*(y.natAbs:Int)/\c<=N) X (Iz (N:=N) p4 z dp (i.mag.mono V.le) (j.mag.mono V.le) i.cap j.cap E hab hN2 (by omega) (fun TA' c d a h' g' o n k q f l=>⟨TA',c,d,a,g',rfl,o,n,k,q,f,l⟩)) ?_
  ·rintro r T p ⟨TA',c,d,a,g',rfl,o,n,k,q,f,l⟩
   refine ⟨_,_,_,rfl,_,rfl,?_⟩
   rw [t]
   refine Eo Jo.1 Jo.2 rfl rfl (by simp) ?_
   obtain ⟨H,R,J⟩:=V.after o
   obtain ⟨g6,p6,p7⟩:=n.swap J
   refine hK _ H R ⟨TA',NA,c,d,nn,nc,a,ns,g6,T,p7,p6,p,rfl,k,m,q,O,?_,l,u,?_⟩
   ·rw [f,hv,C];omega
   ·rw [f,D];omega
def Sh{b:Nat}{e:TypeId}{N:Nat}{M v:Int}{N1:Nat}(S:SumS h g b e N M v)(i:ZI g s A an ac x)(j:ZI g s' B bn bc y)(hab:an+bn+1<=N)(hN2:N<=400000000)(hM:M+(x*y).natAbs<b64^N1)(hN1:N1<=N)
 (hK:∀ h' g',g.le g'->SumS h' g' b e N (M+(x*y).natAbs) (v-x*y)->K (.tuple #[]) h'):FCall prog Gi #[.pointer (some ⟨b,0,none⟩),.agg #[.bool s,.slice A an ac],.agg #[.bool s',.slice B bn bc]] h K:=by
 refine Xu _ _ _ _ _ _ _ _ _ ?_
 unfold Wt
 refine Cw (i.mono S.le) ?_
 intro k f
 refine ⟨_,_,_,_,rfl,B5 _,?_⟩
 have c:ZI g k A an ac (-x):=⟨i.cap,by rw [Int.natAbs_neg];exact i.mag,f.sgn⟩
 have a:(-x*y).natAbs=(x*y).natAbs:=by rw [Int.neg_mul,Int.natAbs_neg]
 refine Bk (N1:=N1) S c j hab hN2 (by rw [a];exact hM) hN1 ?_
 intro h' g' d S'
 rw [a,Int.neg_mul,<- Int.sub_eq_add_neg] at S'
 exact ⟨rfl,hK h' g' d S'⟩
def Dj{XA YA:Option aM}{xn xc yn yc:Nat}(ma:Mw h XA xn x)(mb:Mw h YA yn y)(hyx:y<=x)(hl:xn<=1000000000)(hK:∀ A' m c' h',h.le h'->m<=c'->Mw h' A' m (x-y)->K (.slice A' m c') h'):FCall prog T1 #[.slice XA xn xc,.slice YA yn yc] h K:=by
 have k:yn<=xn:=mb.len_le (by decide) (Int.lt_of_le_of_lt hyx (ma.lt (by decide)))
 obtain ⟨s,c,p,l,u,rfl⟩:=ma
 obtain ⟨z,a,r,q,B,rfl⟩:=mb
 refine Ph _ _ _ _ _ _ ?_
 unfold Jc
 refine K8 R4 (by omega) (by omega) (by omega) ?_
 intro b i
 rw [aO]
 refine ⟨_,_,_,rfl,?_⟩
 have w:=Win.blk .u64 C4 i (List.replicate xn 0)
 refine Gu R4 w (by simp) (p.mono w.le) c (by simp;omega) ?_
 intro t g
 refine ⟨_,rfl,?_⟩
 rw [List.drop_of_length_le (by simp;omega),List.append_nil] at g
 refine En g c r a l q (by omega) hyx (by omega) ?_
 intro zs A o d e f
 refine ⟨rfl,?_⟩
 refine Bz f.sl d (by omega) e (Nat.le_refl _) (by omega) ?_
 intro m n j
 exact ⟨_,_,_,rfl,hK _ _ _ _ f.le n j⟩
def Ng{b:Nat}{e:TypeId}{N:Nat}{M v:Int}(S:SumS h g b e N M v)(hN2:N<=400000000)(hK:∀ s A n c h',h.le h'->ZI h' s A n c v->K (.agg #[.bool s,.slice A n c]) h'):FCall prog Tg #[.pointer (some ⟨b,0,none⟩)] h K:=by
 obtain ⟨PA,NA,m,p,l,k,i,ns,g1,z,B,u,F,rfl,q,r,dp,X,R,aa,T,D⟩:=S
 have E:(aC ⟨b,0,none⟩ 0)=⟨b,0,none⟩:=Gw b 0 0
 have J:(aC ⟨b,0,none⟩ 1)=⟨b,1,none⟩:=Gw b 0 1
 have C:=Heap.le_put (.cells #[.slice PA m p,.slice NA l k] e) F
 refine B55 _ ?_
 unfold C03
 refine ⟨_,rfl,_,_,_,by rw [E,E9];rfl,_,rfl,_,_,_,by rw [J,E9];rfl,?_⟩
 have G:SlI .u64 (z.put b (.cells #[.slice PA m p,.slice NA l k] e)) PA i:=SlI.mono C (SlI.mono u.le B.slV)
 have Z:SlI .u64 (z.put b (.cells #[.slice PA m p,.slice NA l k] e)) NA ns:=SlI.mono C u.slV
 refine Bz G dp q rfl B.2.1 (by omega) ?_
 intro m1 W M1
 refine ⟨_,_,_,rfl,B5 _,?_⟩
 refine Bz Z X r rfl u.2.1 (by omega) ?_
 intro m2 V M2
 refine ⟨_,_,_,rfl,B5 _,?_⟩
 refine J7 M1 M2 (by omega) ⟨_,rfl,?_⟩
 refine B8 (fun f=>?_) (fun f=>?_)
 ·have a:val b64 ns<=val b64 i:=by unfold Xd at f;split at f<;>omega
  refine Dj M1 M2 a (by omega) ?_
  intro A3 Q c3 L t y M3
  obtain ⟨d,j⟩:=aT (show 0<=val b64 i-val b64 ns by omega)
  rw [j] at M3
  refine ⟨_,_,_,rfl,Q0 (v:=d) M3 y ?_⟩
  intro H w
  refine ⟨_,_,_,_,rfl,hK _ _ _ _ _ t ?_⟩
  rw [R,j];exact w
 ·have a:val b64 i<=val b64 ns:=by
   unfold Xd at f
   by_cases O:val b64 i<val b64 ns
   ·omega
   ·rw [iN O] at f;split at f<;>omega
  refine Dj M2 M1 a (by omega) ?_
  intro A3 Q c3 L t y M3
  obtain ⟨d,j⟩:=aT (show 0<=val b64 ns-val b64 i by omega)
  rw [j] at M3
  refine ⟨_,_,_,rfl,Q0 (v:=d) M3 y ?_⟩
  intro H w
  refine ⟨_,_,_,_,rfl,hK _ _ _ _ _ t ?_⟩
  have o:v= -(d:Int):=by omega
  rw [o];exact w
def A2l(gl:Gtz h)(i:ZI h s A an ac x)(j:ZI h s' B bn bc y)(hx:ZB m x)(hy:ZB m y)(hm:m<=6400000000)(hK:∀ A' n' c' h',h.le h'->ZI h' false A' n' c' (Int.lcm x y:Int)->K (.agg #[.bool false,.slice A' n' c']) h'):FCall prog A88 #[.agg #[.bool s,.slice A an ac],.agg #[.bool s',.slice B bn bc]] h K:=by
 have c:=i.zeroIff
 have b:=j.zeroIff
 have f:=i.len hx hm
 have a:=j.len hy hm
 refine C24 _ _ _ _ _ _ _ _ ?_
 unfold C72
 refine E5 (fun k=>?_) (fun n=>E5 (fun k=>?_) (fun t=>?_))
 ·refine hK none 0 0 h (B5 _) ?_
  rw [c.2 (by omega),Int.lcm_zero_left];exact ZI.zero
 ·refine hK none 0 0 h (B5 _) ?_
  rw [b.2 (by omega),Int.lcm_zero_right];exact ZI.zero
 ·have z:x≠0:=fun e=>n (by have:=c.1 e;omega)
  have E:y≠0:=fun e=>t (by have:=b.1 e;omega)
  refine Ny gl i.mag j.mag i.cap j.cap f a ?_
  intro A3 q c3 H d F M3
  refine ⟨_,_,_,rfl,d,?_⟩
  rw [Int.gcd_natCast_natCast] at M3
  have G:Nat.gcd x.natAbs y.natAbs≠0:=fun e=>by
   have:=Nat.eq_zero_of_gcd_eq_zero_left e
   omega
  have r:q<=100000000:=by
   refine Nat.le_trans (M3.len_le (by decide) (j:=bn) ?_) a
   have o:=j.mag.lt (by decide)
   have w:Nat.gcd x.natAbs y.natAbs<=y.natAbs:=Nat.gcd_le_right _ (by omega)
   omega
  refine U6 (j.mag.mono d) M3 j.cap F (by omega) (by omega) (by omega) ?_
  intro A4 l c4 A5 J c5 O g p L M4 M5
  refine ⟨_,_,_,_,_,_,rfl,g,?_⟩
  rw [<- Int.natCast_ediv] at M4
  have u:l<=100000000:=by
   refine Nat.le_trans (M4.len_le (by decide) (j:=bn) ?_) a
   have o:=j.mag.lt (by decide)
   have w:=Nat.div_le_self y.natAbs (Nat.gcd x.natAbs y.natAbs)
   omega
  refine I7 (i.mag.mono (B0 d g)) M4 i.cap p (by omega) (by omega) ?_
  intro A6 N c6 M C D M6
  refine ⟨_,_,_,rfl,hK _ _ _ _ (B0 d (B0 g C)) ⟨D,?_,?_⟩⟩
  ·rw [Int.natAbs_natCast]
   rw [<- Int.natCast_mul] at M6
   have:Int.lcm x y=x.natAbs*(y.natAbs/Nat.gcd x.natAbs y.natAbs):=by
    show Nat.lcm x.natAbs y.natAbs=_
    rw [Nat.lcm,Nat.mul_div_assoc _ (Nat.gcd_dvd_right _ _)]
   rw [this];exact M6
  ·symm;rw [decide_eq_false_iff_not];omega
end
abbrev RQr:aE->QV->Rat->Prop:=fun h w q=>RQ h w q
abbrev NQr:aE->QV->Rat->Prop:=fun h w q=>NQ h w q
abbrev ZIr:aE->IV->Int->Prop:=fun h w z=>ZI h w.s w.A w.n w.c z
abbrev SSr:aE->List UInt8->List UInt8->Prop:=fun _ w s=>w=s
def Mon{α β:Type}(R:aE->α->β->Prop):Prop:=∀ (h h':aE) (w:α) (x:β),h.le h'->R h w x->R h' w x
def I8:Mon RQr:=fun _ _ _ _ a i=>⟨i.num.mono a,i.den.mono a⟩
def V8:Mon NQr:=fun _ _ _ _ a i=>NQ.mono a i
def Fz:Mon ZIr:=fun _ _ _ _ a i=>i.mono a
def O3:Mon SSr:=fun _ _ _ _ _ i=>i
instance:Enc QV:=⟨⟨fun w=>[.bool w.s,.slice w.A w.n w.c,.bool w.s2,.slice w.A2 w.n2 w.c2],4,fun _=>rfl,fun w v hv=>by simp at hv;rcases hv with rfl|rfl|rfl|rfl<;>rfl⟩⟩
section
variable {α β:Type}
def Row(R:aE->α->β->Prop)(g:aE)(xs:List α)(n:Nat)(f:Nat->β):Prop:=∀ i,i<n->∃ w,xs[i]? = some w/\R g w (f i)
variable {R:aE->α->β->Prop} {g g' h h':aE} {xs:List α} {n:Nat} {f:Nat->β}
def Row.mono(m:Mon R)(hl:g.le g')(r:Row R g xs n f):Row R g' xs n f:=fun i a=>by
 obtain ⟨w,e,b⟩:=r i a
 exact ⟨w,e,m _ _ _ _ hl b⟩
def Row.nil:Row R g xs 0 f:=fun i a=>by omega
def Row.set{k:Nat}(r:Row R g xs k f)(hk:k<xs.length){w:α}(hw:R g w (f k)):Row R g (xs.set k w) (k+1) f:=fun i c=>by
 by_cases e:i=k
 ·subst e;exact ⟨w,by rw [aU hk],hw⟩
 ·obtain ⟨u,a,b⟩:=r i (by omega)
  exact ⟨u,by rw [List.getElem?_set_ne (fun x=>e x.symm)];exact a,b⟩
def Row.upd(r:Row R g xs n f){k:Nat}(hk:k<xs.length){w:α}{y:β}(hw:R g w y):Row R g (xs.set k w) n (fun i=>if i=k then y else f i):=fun i b=>by
 by_cases e:i=k
 ·subst e;exact ⟨w,by rw [aU hk],by show R g w (if i=i then y else f i);rw [iP rfl];exact hw⟩
 ·obtain ⟨u,a,c⟩:=r i b
  exact ⟨u,by rw [List.getElem?_set_ne (fun x=>e x.symm)];exact a,by show R g u (if i=k then y else f i);rw [iN e];exact c⟩
def Row.push(r:Row R g xs xs.length f){w:α}(hw:R g w (f xs.length)):Row R g (xs++[w]) (xs++[w]).length f:=fun i a=>by
 rw [List.length_append] at a
 by_cases e:i=xs.length
 ·subst e;exact ⟨w,by simp,hw⟩
 ·obtain ⟨u,b,c⟩:=r i (by simp at a;omega)
  exact ⟨u,by rw [List.getElem?_append_left (by simp at a;omega)];exact b,c⟩
def Row.congr{f':Nat->β}(r:Row R g xs n f)(h:∀ i,i<n->f i=f' i):Row R g xs n f':=fun i a=>by
 obtain ⟨w,e,b⟩:=r i a
 exact ⟨w,e,by rw [<- h i a];exact b⟩
def Row.get(r:Row R g xs n f){i:Nat}(hi:i<n)(hl:i<xs.length):R g xs[i] (f i):=by
 obtain ⟨w,e,a⟩:=r i hi
 rw [List.getElem?_eq_getElem hl] at e
 cases e;exact a
variable [E:Enc α]
def RowV(R:aE->α->β->Prop)(h:aE)(A:Option aM)(n:Nat)(f:Nat->β):Prop:=∃ xs:List α,SlF h A xs/\xs.length=n/\Row R h xs n f
def RowV.mono(m:Mon R){A:Option aM}(hl:h.le h')(r:RowV R h A n f):RowV R h' A n f:=by
 obtain ⟨a,s,e,r⟩:=r
 exact ⟨a,s.mono hl,e,r.mono m hl⟩
def RowV.nil{A:Option aM}:RowV R h A 0 f:=⟨[],SlF.nil,rfl,Row.nil⟩
def RowV.congr{A:Option aM}{f':Nat->β}(r:RowV R h A n f)(e:∀ i,i<n->f i=f' i):RowV R h A n f':=by
 obtain ⟨a,s,l,r⟩:=r
 exact ⟨a,s,l,r.congr e⟩
def RowV.cut{A:Option aM}(r:RowV R h A n f){c l k:Nat}(hlk:l+k<=n)(hc:n<=c):RowV R h (H9 A c l E.default.size) k (fun i=>f (l+i)):=by
 obtain ⟨a,s,e,r⟩:=r
 refine ⟨(a.drop l).take (l+k-l),s.cut (l:=l) (m:=l+k) (by omega) (by omega) (by omega),by simp;omega,fun i g=>?_⟩
 obtain ⟨w,b,d⟩:=r (l+i) (by omega)
 exact ⟨w,by rw [List.getElem?_take,iP (by omega),List.getElem?_drop];exact b,d⟩
def RowV.at(pos:0<E.default.size){A:Option aM}(r:RowV R h A n f){i:Nat}(hi:i<n):∃ a w,A=some a/\R h w (f i)/\∀ j v,(enc w)[j]? = some v->h.cell? (aC (aC a (i*E.default.size)) j)=some v:=by
 obtain ⟨b,s,e,r⟩:=r
 obtain ⟨a,d,c⟩:=SlF.at pos s (i:=i) (by omega)
 exact ⟨a,b[i],d,r.get hi (by omega),c⟩
structure Own (R:aE->α->β->Prop) (h h':aE) (b n:Nat) (f:Nat->β):Prop where
 ex:∃ g o xs,h.le g/\Sep h' g o/\RowX o b xs/\xs.length=n/\Row R g xs n f
def Own.le{b:Nat}(w:Own R h h' b n f):h.le h':=by
 obtain ⟨g,o,a,l,s,_⟩:=w.ex
 exact B0 l s.le
def Own.vis(m:Mon R){b:Nat}(w:Own R h h' b n f):RowV R h' (some ⟨b,0,none⟩) n f:=by
 obtain ⟨g,o,a,l,s,r,e,q⟩:=w.ex
 exact ⟨a,r.rowB.slF s.ole,e,q.mono m s.le⟩
end
section
variable {h:aE} {A:Option aM} {n:Nat}
def RowV.qat{R:aE->QV->Rat->Prop}{f:Nat->Rat}(r:RowV R h A n f){i:Nat}(hi:i<n):∃ a w,A=some a/\R h w (f i)/\h.cell? (aC (aC a (i*4)) 0)=some (.bool w.s)/\h.cell? (aC (aC a (i*4)) 1)=some (.slice w.A w.n w.c)/\h.cell? (aC (aC a (i*4)) 2)=some (.bool w.s2)/\h.cell? (aC (aC a (i*4)) 3)=some (.slice w.A2 w.n2 w.c2):=by
 obtain ⟨a,w,e,d,b⟩:=r.at (by decide) hi
 exact ⟨a,w,e,d,b 0 _ rfl,b 1 _ rfl,b 2 _ rfl,b 3 _ rfl⟩
def RowV.zat{f:Nat->Int}(r:RowV ZIr h A n f){i:Nat}(hi:i<n):∃ a w,A=some a/\ZIr h w (f i)/\h.cell? (aC (aC a (i*2)) 0)=some (.bool w.s)/\h.cell? (aC (aC a (i*2)) 1)=some (.slice w.A w.n w.c):=by
 obtain ⟨a,w,e,d,b⟩:=r.at (by decide) hi
 exact ⟨a,w,e,d,b 0 _ rfl,b 1 _ rfl⟩
def RowV.sat{f:Nat->List UInt8}(r:RowV SSr h A n f){i:Nat}(hi:i<n):∃ a,A=some a/\h.cell? (aC a (i*1))=some (.string (bs (f i))):=by
 obtain ⟨a,w,e,d,c⟩:=r.at (by decide) hi
 have b:w=f i:=d
 subst b
 refine ⟨a,e,?_⟩
 have:=c 0 _ rfl
 rw [Wg] at this
 exact this
end
