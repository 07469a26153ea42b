/- A part. -/
import Derived.Test.YtmbfcbbkbefgfaaGreatDoorG21
import Derived.Test.YtmbfcbbkbefgfaaGreatDoorG26
import Derived.Test.YtmbfcbbkbefgfaaGreatDoorG25
open Go.Proofs.Tryz
set_option linter.all false
open _root_.Go.Addr renaming add->aC
open Int renaming mul_le_mul_of_nonneg_left->aF,mul_zero->aH,add_zero->aK,pow_pos->aN,toNat_natCast->aO,le_of_lt->aP,eq_ofNat_of_zero_le->aT
open List renaming length_take->aI,take_of_length_le->aJ,take_append_drop->aL,eq_nil_of_length_eq_zero->aQ,getElem?_cons_zero->aR,getElem?_cons_succ->aS,getElem?_set_self->aU
open List.cons renaming injEq->aG
open _root_.Go.Value.slice renaming injEq->aD
open _root_.Go renaming Addr->aM
open _root_.Go.Proofs.YtmbfcbbkbefgfaaGreatDoor renaming Heap->aE
namespace Go.Proofs.YtmbfcbbkbefgfaaGreatDoor
set_option maxRecDepth 20000
open Go
section
variable {h g:aE} {K:VP} {A B:Option aM} {s s':Bool} {an ac bn bc m:Nat} {x y:Int}
end
def B1w(B:Int):∀ {ts:List Int} {k:Nat} (_:k<ts.length) (v:Int),val B (ts.set k v)=val B ts+B^k*(v-ts.getD k 0)
 | [],k,h,v=>by simp at h
 | t::ts,0,h,v=>by simp [val];grind
 | t::ts,k+1,h,v=>by
  have ih:=B1w B (ts:=ts) (k:=k) (by simpa using h) v
  simp only [List.set_cons_succ,val,List.getD_cons_succ,ih,Int.pow_succ]
  grind
section
variable {h g:aE} {K:VP} {A B:Option aM} {s s':Bool} {an ac bn bc m:Nat} {x y:Int}
def A9e{hp:aE}{n c k:Nat}{ts:List Int}{ca:Int}(p:Pw hp g A n c ts)(hn:n=ts.length)(dt:Dig b64 ts)(hk:k<n)(hca:0<=ca/\ca<18446744073709551616){Q:Int->aE->Prop}
 (hQ:∀ h' ts',Pw h' g A n c ts'->n=ts'.length->Dig b64 ts'->val b64 ts'+b64^(k+1)*((ts.getD k 0+ca)/18446744073709551616)=val b64 ts+b64^k*ca->Q ((ts.getD k 0+ca)/18446744073709551616) h'):
 ∃ a,A=some a/\0<=(k:Int)/\(k:Int)<((n:Nat):Int)/\∃ (t:Int),Heap.cell? hp (aC a (((k:Int)).toNat*1))=some (U t)/\ECall prog T2 #[U t,U ca,U (0:Int)] hp (fun r hp1=>∃ (ta tb:Int),r= .tuple #[U ta,U tb]/\∃ a2,A=some a2/\0<=(k:Int)/\(k:Int)<((n:Nat):Int)/\wpH prog (Instr.storeAt C1 (.pointer (some (aC a2 (((k:Int)).toNat*1)))) (U ta)) (fun _ hp2=>Q tb hp2) hp1):=by
 have d:ts≠[]:=by rintro rfl;simp at hn;omega
 obtain ⟨b,e,w,u⟩:=Fp p d
 have o:=O2 dt k
 refine w.sl.load hn (by omega) (by omega) ?_
 simp only [aO]
 refine Dw o hca (by omega) ⟨_,_,rfl,?_⟩
 obtain ⟨a,l,_⟩:=SlV.at w.sl (i:=k) (by simp;omega)
 refine ⟨a,l,by omega,by omega,w.storeN F5 l (by omega) ?_⟩
 intro s j
 simp only [aK] at j ⊢
 have f:=j.priv (m:=n) (c:=c) (by intro x;have:=congrArg List.length x;rw [List.length_set,List.length_nil] at this;exact d (aQ this)) (by simpa using u) (by simp;omega)
 rw [aJ (by simp;omega)] at f
 refine hQ s _ f (by simpa using hn) (dt.set (Ew _)) ?_
 rw [B1w b64 (by omega),Int.pow_succ]
 have:=Int.mul_ediv_add_emod (ts.getD k 0+ca) 18446744073709551616
 show _+b64^k*_+b64^k*18446744073709551616*_=_
 generalize (ts.getD k 0+ca)/18446744073709551616=q at *
 generalize (ts.getD k 0+ca)%18446744073709551616=r at *
 grind
def B59{Invv1:LP}{muv1:LN}{TA:Option aM}{tn tc i x2n:Nat}{ts:List Int}{ca:Int}{hp8 hp7:aE}(p:Pw hp8 g TA tn tc ts)(hn:tn=ts.length)(dt:Dig b64 ts)(hle:i+x2n<=tn)(hca:0<=ca/\ca<18446744073709551616)(hl:tn<=1000000000)
 (hK:∀ TA' tn' tc' ts' h' g',g.le g'->Pw h' g' TA' tn' tc' ts'->tn'=ts'.length->Dig b64 ts'->val b64 ts'=val b64 ts+b64^(i+x2n)*ca->(tn'=tn\/(tn'=tn+1/\b64^tn<=val b64 ts'))->Invv1 [.slice TA' tn' tc',I (B5 ((i:Int)+1))] h'/\muv1 [.slice TA' tn' tc',I (B5 ((i:Int)+1))] h'<muv1 [.slice TA tn tc,I (i:Int)] hp7):
 Ei prog x2n Invv1 muv1 TA tn tc (i:Int) ca hp8 hp7:=by
 unfold Ei
 have S:B5 ((i:Int)+(x2n:Int))=((i+x2n:Nat):Int):=by rw [B7 (by omega) (by omega)];omega
 rw [S]
 refine ⟨fun L hp=>∃ (k:Nat) (c1:Int) (e:List Int) (A1:Option aM) (b c:Nat) (t:aE),L=[.slice A1 b c,U c1,I k]/\g.le t/\Pw hp t A1 b c e/\b=e.length/\Dig b64 e/\k<=b/\(0<=c1/\c1<18446744073709551616)/\val b64 e+b64^k*c1=val b64 ts+b64^(i+x2n)*ca/\(b=tn\/(b=tn+1/\c1=0/\b64^tn<=val b64 e)),fun L _=>tn+2-(iAt L 2).toNat,⟨i+x2n,ca,ts,TA,tn,tc,g,rfl,B4 _,p,hn,dt,hle,hca,rfl,.inl rfl⟩,?_⟩
 rintro A1 b c c1 k0 D ⟨k,W,e,A1',V,M,t,G,F,x,n,r,hk,d,w,u⟩
 simp only [aG,aD,Value.int.injEq,and_true,true_and] at G
 obtain ⟨⟨rfl,rfl,rfl⟩,rfl,rfl⟩:=G
 refine I8 (fun z=>?_) (fun z=>?_)
 ·have j:b=tn:=by
   rcases u with m|⟨_,m,_⟩
   ·exact m
   ·exact absurd m z
  have J:B5 ((k:Int)+1)=((k+1:Nat):Int):=by rw [B7 (by omega) (by omega)];omega
  have q:∀ (N H R Q:Value),tn+2-(iAt [N,H,I ((k+1:Nat):Int)] 2).toNat<tn+2-(iAt [R,Q,I (k:Int)] 2).toNat:=by
   intro N H R Q
   simp only [iAt,aR,aS]
   omega
  refine D9 (fun y=>?_) (fun y=>?_)
  ·have s:k=b:=by omega
   refine Ea Q4 x rfl rfl (by omega) (by omega) ?_
   intro A2 c2 h2 Z l2 O
   rw [<- List.map_singleton (f:=Value.int .u64),<- List.map_append] at O
   have T:Dig b64 (e++[0]):=r.append (Dig.one (by decide))
   refine A9e O (by simp;omega) T (by omega) d ?_
   intro A l C o E a
   have X:(e++[0]).getD k 0=0:=by
    rw [s,n,List.getD,List.getElem?_append_right (Nat.le_refl _)];simp
   rw [X,Int.zero_add,Int.ediv_eq_zero_of_lt d.1 d.2] at a ⊢
   rw [J]
   rw [F0,aH,aK,aH,aK] at a
   refine ⟨⟨k+1,0,l,A2,b+1,c2,Z,rfl,B0 F l2,C,o,E,by omega,by omega,?_,.inr ⟨by omega,rfl,?_⟩⟩,q _ _ _ _⟩
   ·rw [a,aH,aK];exact w
   ·rw [a,<- j,<- s]
    have h5:=C7 (B:=b64) (by decide) r
    have h6:b64^k*1<=b64^k*c1:=aF (by omega) (aP (aN (by decide)))
    omega
  ·refine A9e x n r (by omega) d ?_
   intro A l C o E a
   rw [J]
   have gt:=O2 r k
   refine ⟨⟨k+1,_,l,A1,b,c,t,rfl,F,C,o,E,by omega,?_,?_,.inl j⟩,q _ _ _ _⟩
   ·constructor
    ·exact Int.ediv_nonneg (by omega) (by decide)
    ·omega
   ·rw [a];exact w
 ·subst z
  rw [aH,aK] at w
  refine hK A1 b c e D t F x n r w ?_
  rcases u with m|⟨m,_,A⟩
  ·exact .inl m
  ·exact .inr ⟨m,A⟩
def B8m{XA YA TA:Option aM}{xs ys ts:List Int}{x2n x2c y2n tn tc N:Nat}{hp4:aE}(p:Pw hp4 g TA tn tc ts)(hn:tn=ts.length)(dt:Dig b64 ts)(sx:SlI .u64 g XA xs)(hx:x2n=xs.length)(dx:Dig b64 xs)(sy:SlI .u64 g YA ys)(hy:y2n=ys.length)(dy:Dig b64 ys)(hxy:x2n+y2n<=tn)(hN:tn<=N)(hN2:N<=400000000)(hV:val b64 ts+val b64 xs*val b64 ys<b64^N)
 (hK:∀ TA' tn' tc' ts' h' g',g.le g'->Pw h' g' TA' tn' tc' ts'->tn'=ts'.length->Dig b64 ts'->val b64 ts'=val b64 ts+val b64 xs*val b64 ys->tn'<=N->K (.slice TA' tn' tc') h'):
 He prog K XA x2n x2c YA y2n TA tn tc hp4:=by
 unfold He
 have W:=C7 (B:=b64) (by decide) dx
 have ae:=C7 (B:=b64) (by decide) dy
 have o:∀ k,val b64 (ys.take k)<=val b64 ys:=by
  intro k
  have M:=G2 b64 (ys.take k) (ys.drop k)
  rw [aL] at M
  have h2:0<=b64^(ys.take k).length*val b64 (ys.drop k):=Int.mul_nonneg (aP (aN (by decide))) (C7 (B:=b64) (by decide) (dy.drop k))
  omega
 refine ⟨fun L hp=>∃ (k:Nat) (a:List Int) (A1:Option aM) (e d:Nat) (A:aE),L=[.slice A1 e d,I k]/\g.le A/\Pw hp A A1 e d a/\e=a.length/\Dig b64 a/\k<=y2n/\val b64 a=val b64 ts+val b64 xs*val b64 (ys.take k)/\x2n+y2n<=e/\e<=N,fun L _=>y2n-(iAt L 1).toNat,⟨0,ts,TA,tn,tc,g,rfl,B4 _,p,hn,dt,by omega,by simp [val],hxy,hN⟩,?_⟩
 rintro A1 e d k0 F ⟨k,a,A1',ac,Z,A,X,C,D,t,y,hk,J,ad,u⟩
 simp only [aG,aD,Value.int.injEq,and_true,true_and] at X
 obtain ⟨⟨rfl,rfl,rfl⟩,rfl⟩:=X
 refine B6 (fun M=>?_) (fun M=>?_)
 ·have gy:=O2 dy k
  have vy:=C5 b64 ys k
  have E:B5 ((k:Int)+(x2n:Int))=((k+x2n:Nat):Int):=by rw [B7 (by omega) (by omega)];omega
  rw [E]
  refine (sy.mono (B0 C D.le)).load hy (by omega) (by omega) ?_
  simp only [aO]
  have r:a≠[]:=by rintro rfl;simp at t;omega
  obtain ⟨b,aa,w,hc⟩:=Fp D r
  refine ⟨⟨by omega,by omega⟩,⟨by omega,by omega⟩,?_⟩
  have f:((a.drop k).take (k+x2n-k)).length=xs.length:=by rw [aI,List.length_drop];omega
  refine Jh (w.sub (l:=k) (m:=k+x2n) (c:=d) (by omega) (by omega) (by omega)) (by rw [f];omega) (sx.mono C) hx ((y.drop k).take _) dx f gy (by omega) ?_
  intro z c h' i q Q G w'
  rw [f] at i G
  have w2:=w.whole (l:=k) (m:=k+x2n) (by omega) (by omega) (by omega) w'
  refine ⟨_,rfl,?_⟩
  have n:(a.take k++z++a.drop (k+x2n)).length=a.length:=by
   simp only [List.length_append,aI,List.length_drop];omega
  have x:a.take k++z++a.drop (k+x2n)≠[]:=by
   intro e0
   rw [e0] at n
   exact r (aQ (by simpa using n.symm))
  have p2:=w2.priv (m:=e) (c:=d) x (by rw [n];exact hc) (by omega)
  rw [aJ (by omega)] at p2
  have d2:Dig b64 (a.take k++z++a.drop (k+x2n)):=((y.take k).append q).append (y.drop _)
  have V:a=a.take k++((a.drop k).take (k+x2n-k)++a.drop (k+x2n)):=by
   have E:a.drop (k+x2n)=(a.drop k).drop (k+x2n-k):=by rw [List.drop_drop];congr 1;omega
   rw [E,aL,aL]
  have j:val b64 (a.take k++z++a.drop (k+x2n))+b64^(k+x2n)*c=val b64 a+b64^k*(val b64 xs*ys.getD k 0):=by
   have e2:val b64 a=val b64 (a.take k)+b64^k*(val b64 ((a.drop k).take (k+x2n-k))+b64^xs.length*val b64 (a.drop (k+x2n))):=by
    conv=>lhs;rw [V]
    rw [G2,G2,f,aI,Nat.min_eq_left (by omega)]
   rw [e2,List.append_assoc,G2,G2,aI,Nat.min_eq_left (by omega),i,hx,Int.pow_add]
   generalize b64^k=P at *
   generalize b64^xs.length=R at *
   grind
  refine B59 p2 (by omega) d2 (by omega) Q (by omega) ?_
  intro TA' tn' tc' ts' h3 g3 l3 p3 S d3 s T
  rw [j,J] at s
  have H:val b64 ts'=val b64 ts+val b64 xs*val b64 (ys.take (k+1)):=by
   rw [s,vy];grind
  have O:tn'<=N:=by
   rcases T with h4|⟨h4,h5⟩
   ·omega
   ·have h6:=aF (o (k+1)) W
    have h7:b64^e<b64^N:=by omega
    have h8:e<N:=by
     by_cases h9:e<N
     ·exact h9
     ·have:=D0 (B:=b64) (by decide) (show N<=e by omega)
      omega
    omega
  have e3:B5 ((k:Int)+1)=((k+1:Nat):Int):=by rw [B7 (by omega) (by omega)];omega
  rw [e3]
  exact ⟨⟨k+1,ts',TA',tn',tc',g3,rfl,B0 C l3,p3,S,d3,by omega,H,by omega,O⟩,by simp only [iAt,aR,aS];omega⟩
 ·obtain rfl:k=y2n:=by omega
  rw [aJ (by omega)] at J
  exact hK A1 e d a F A C D t y J u
def Jj{TA XA YA:Option aM}{ts:List Int}{tn tc xn xc yn yc N:Nat}(p:Pw h g TA tn tc ts)(hn:tn=ts.length)(dt:Dig b64 ts)(ma:Mw g XA xn x)(mb:Mw g YA yn y)(hxc:xn<=xc)(hyc:yn<=yc)(hN:tn<=N)(hxy:xn+yn+1<=N)(hN2:N<=400000000)(hV:val b64 ts+x*y<b64^N)
 (hK:∀ TA' tn' tc' ts' h' g',g.le g'->Pw h' g' TA' tn' tc' ts'->tn'=ts'.length->Dig b64 ts'->val b64 ts'=val b64 ts+x*y->tn'<=N->K (.slice TA' tn' tc') h'):FCall prog Bz #[.slice TA tn tc,.slice XA xn xc,.slice YA yn yc] h K:=by
 have ak:=ma.nonneg (by decide)
 have ar:=mb.nonneg (by decide)
 refine Xr _ _ _ _ _ _ _ _ _ ?_
 unfold Wn
 refine ⟨fun L F=>F=h/\∃ (A1 B1:Option aM) (d c1 q c2:Nat) (t c:Int),L=[.slice A1 d c1,.slice B1 q c2]/\Mw g A1 d t/\Mw g B1 q c/\d<=c1/\q<=c2/\d+q=xn+yn/\t*c=x*y,B6 (fun _=>⟨rfl,_,_,_,_,_,_,y,x,rfl,mb,ma,hyc,hxc,by omega,Int.mul_comm _ _⟩) (fun _=>⟨rfl,_,_,_,_,_,_,x,y,rfl,ma,mb,hxc,hyc,rfl,rfl⟩),?_⟩
 rintro A1 d c1 B1 q c2 F ⟨rfl,A1',B1',ap,aq,aj,af,t,c,l,E,D,k1,k2,al,k⟩
 simp only [aG,aD,and_true] at l
 obtain ⟨⟨rfl,rfl,rfl⟩,rfl,rfl,rfl⟩:=l
 have ad:=E.nonneg (by decide)
 have ac:=D.nonneg (by decide)
 refine ⟨fun L A=>∃ (A2 B2:Option aM) (a J i c4:Nat) (G R:Int) (s:aE),L=[.slice A2 a J,.slice B2 i c4]/\g.le s/\Pw A s TA tn tc ts/\Mw s A2 a G/\Mw s B2 i R/\a+i<=xn+yn+1/\G*R=x*y,B6 (fun _=>?_) (fun _=>⟨_,_,_,_,_,_,t,c,g,rfl,B4 _,p,E,D,by omega,k⟩),?_⟩
 ·refine p.call ?_
  refine H8 E D k1 k2 (by omega) (by omega) ?_
  intro A3 a J V l3 k3 M3 h3 p3
  refine ⟨_,_,_,rfl,?_⟩
  refine Ba Q4 rfl ?_
  intro b X
  have C:V b=none:=by
   cases hx1:V b with
   | none=>rfl
   | some o=>rw [p3.le b o hx1] at X;cases X
  refine ⟨_,_,_,rfl,_,_,_,_,_,_,t*c,1,V.put b (.cells #[U 1] C1),rfl,B0 l3 (Heap.le_put _ C),p3.put X _,M3.mono (Heap.le_put _ C),?_,?_,by rw [Int.mul_one];exact k⟩
  ·refine ⟨[1],rfl,SlI.new _ _ _ _ _,?_,?_,?_⟩
   ·intro x hx;simp at hx;subst hx;decide
   ·unfold Norm;simp
   ·simp [val]
  ·have B:=E.lt (by decide)
   have w:=D.lt (by decide)
   have S:t*c<b64^(d+q):=by
    rw [Int.pow_add]
    by_cases h0:c=0
    ·subst h0
     rw [aH]
     exact Int.mul_pos (aN (by decide)) (aN (by decide))
    ·have h1:t*c<b64^d*c:=Int.mul_lt_mul_of_pos_right B (by omega)
     have h2:b64^d*c<=b64^d*b64^q:=aF (aP w) (aP (aN (by decide)))
     omega
   have:=M3.len_le (by decide) S
   omega
 rintro A2 a J B2 i c4 A ⟨A2',B2',ah,am,ai,an,G,R,s,l,lg,p1,M1,M2,ae,m⟩
 simp only [aG,aD,and_true] at l
 obtain ⟨⟨rfl,rfl,rfl⟩,rfl,rfl,rfl⟩:=l
 obtain ⟨xs,H,sx,dx,nx,rfl⟩:=M1
 obtain ⟨ys,O,sy,dy,ny,rfl⟩:=M2
 unfold Pp
 have e1:B5 ((a:Int)+(i:Int))=((a+i:Nat):Int):=by rw [B7 (by omega) (by omega)];omega
 rw [e1]
 refine ⟨fun L F=>∃ (u:List Int) (A5:Option aM) (j M:Nat) (W:aE),L=[.slice A5 j M]/\s.le W/\Pw F W A5 j M u/\j=u.length/\Dig b64 u/\val b64 u=val b64 ts/\j<=N,fun L _=>match L with|[.slice _ n _]=>a+i-n|_=>0,⟨ts,TA,tn,tc,s,rfl,B4 _,p1,hn,dt,rfl,hN⟩,?_⟩
 rintro A5 j M ao ⟨u,A5',ag,au,W,l,e,p5,Z,du,r,aa⟩
 simp only [aG,aD,and_true] at l
 obtain ⟨rfl,rfl,rfl⟩:=l
 refine B6 (fun h1=>?_) (fun h1=>?_)
 ·refine Ea Q4 p5 rfl rfl (by omega) (by omega) ?_
  intro A6 c6 h6 g6 l6 p6
  rw [<- List.map_singleton (f:=Value.int .u64),<- List.map_append] at p6
  refine ⟨⟨u++[0],A6,j+1,c6,g6,rfl,B0 e l6,p6,by simp;omega,du.append (Dig.one (by decide)),by rw [F0,r];simp,by omega⟩,?_⟩
  show a+i-(j+1)<a+i-j
  omega
 ·refine B8m (N:=N) p5 Z du (sx.mono e) H dx (sy.mono e) O dy (by omega) aa hN2 (by rw [r,m];exact hV) ?_
  intro TA' tn' tc' ts' h' g' l' p' Q d' z T
  rw [r,m] at z
  exact hK TA' tn' tc' ts' h' g' (B0 lg (B0 e l')) p' Q d' z T
def SumS(h g:aE)(b:Nat)(e:TypeId)(N:Nat)(M v:Int):Prop:=∃ (PA NA:Option aM) (pn pc nn nc:Nat) (ps ns:List Int) (g1 g2:aE),Pw g1 g PA pn pc ps/\Pw g2 g1 NA nn nc ns/\g2 b=none/\h=g2.put b (.cells #[.slice PA pn pc,.slice NA nn nc] e)/\pn=ps.length/\nn=ns.length/\Dig b64 ps/\Dig b64 ns/\v=val b64 ps-val b64 ns/\pn<=N/\nn<=N/\val b64 ps+val b64 ns<=M
def SumS.le{b:Nat}{e:TypeId}{N:Nat}{M v:Int}(S:SumS h g b e N M v):g.le h:=by
 obtain ⟨PA,NA,n,l,k,m,f,o,i,j,a,c,d,rfl,_⟩:=S
 exact B0 a.le (B0 c.le (Heap.le_put _ d))
def SumS.zero{b:Nat}{e:TypeId}{N:Nat}(hb:g b=none):SumS (g.put b (.cells #[.slice none 0 0,.slice none 0 0] e)) g b e N 0 0:=
 ⟨none,none,0,0,0,0,[],[],g,g,Priv.nil _ _ _ _,Priv.nil _ _ _ _,hb,rfl,rfl,rfl,Dig.nil,Dig.nil,by simp [val],by omega,by omega,by simp [val]⟩
def Kc:prog.cellsOf Z7=1/\(prog.info? Z7).isSome=true:=by constructor<;>kernel_rfl
def Bc{b:Nat}{e:TypeId}{N:Nat}{M v:Int}{N1:Nat}(S:SumS h g b e N M v)(i:ZI g s A an ac x)(j:ZI g s' B bn bc y)(hab:an+bn+1<=N)(hN2:N<=400000000)(hM:M+(x*y).natAbs<b64^N1)(hN1:N1<=N)
 (hK:∀ h' g',g.le g'->SumS h' g' b e N (M+(x*y).natAbs) (v+x*y)->K (.tuple #[]) h'):FCall prog V9 #[.pointer (some ⟨b,0,none⟩),.agg #[.bool s,.slice A an ac],.agg #[.bool s',.slice B bn bc]] h K:=by
 have H:=i.zeroIff
 have T:=j.zeroIff
 have c1:=Aj i.sgn
 have c2:=Aj j.sgn
 have E:((x*y).natAbs:Int)=(x.natAbs:Int)*(y.natAbs:Int):=by rw [Int.natAbs_mul,Int.natCast_mul]
 refine Xt _ _ _ _ _ _ _ _ _ ?_
 unfold Wp
 have same:x*y=0->K (.tuple #[]) h:=by
  intro t
  refine hK h g (B4 _) ?_
  rw [t];simpa using S
 refine D9 (fun t=>same (by rw [H.2 (by omega),Int.zero_mul])) (fun _=>D9 (fun t=>same (by rw [T.2 (by omega),aH])) (fun _=>?_))
 obtain ⟨PA,NA,pn,pc,nn,nc,ps,ns,g1,g2,G,p2,hb,rfl,F,m,dp,J,hv,w,C,Z⟩:=S
 have aa:=C7 (B:=b64) (by decide) dp
 have ae:=C7 (B:=b64) (by decide) J
 have ad:b64^N1<=b64^N:=D0 (by decide) hN1
 have t:(aC ⟨b,0,none⟩ 0)=⟨b,0,none⟩:=Hc b 0 0
 have X:(aC ⟨b,0,none⟩ 1)=⟨b,1,none⟩:=Hc b 0 1
 refine Br.of (fun D=>?_) (fun D=>?_)
 ·have u:x*y= -((x.natAbs:Int)*(y.natAbs:Int)):=by
   rcases c1 with ⟨rfl,h1⟩|⟨rfl,h1⟩<;>rcases c2 with ⟨rfl,h2⟩|⟨rfl,h2⟩
   ·simp at D
   ·conv=>lhs;rw [h1,h2]
    rw [Int.neg_mul]
   ·conv=>lhs;rw [h1,h2]
    rw [Int.mul_neg]
   ·simp at D
  refine ⟨_,rfl,_,_,_,by rw [X,E4];rfl,?_⟩
  refine FCall.frame (K:=fun r W=>∃ (TA':Option aM) (a d:Nat) (c:List Int) (g':aE),r= .slice TA' a d/\g1.le g'/\Pw W g' TA' a d c/\a=c.length/\Dig b64 c/\val b64 c=val b64 ns+(x.natAbs:Int)*(y.natAbs:Int)/\a<=N) hb (Jj (N:=N) p2 m J (i.mag.mono G.le) (j.mag.mono G.le) i.cap j.cap C hab hN2 (by omega) (fun TA' a d c h' g' o p k n f l=>⟨TA',a,d,c,g',rfl,o,p,k,n,f,l⟩)) ?_
  ·rintro r L q ⟨TA',a,d,c,g',rfl,o,p,k,n,f,l⟩
   refine ⟨_,_,_,rfl,_,rfl,?_⟩
   rw [X]
   refine Er Kc.1 Kc.2 rfl rfl (by simp) ?_
   obtain ⟨V,O,R⟩:=G.after o
   refine hK _ V O ⟨PA,TA',pn,pc,a,d,ps,c,g',L,R,p,q,rfl,F,k,dp,n,?_,w,l,?_⟩
   ·rw [f,hv,u];omega
   ·rw [f,E];omega
 ·have z:x*y=(x.natAbs:Int)*(y.natAbs:Int):=by
   rcases c1 with ⟨rfl,h1⟩|⟨rfl,h1⟩<;>rcases c2 with ⟨rfl,h2⟩|⟨rfl,h2⟩
   ·conv=>lhs;rw [h1,h2]
    rw [Int.neg_mul_neg]
   ·simp at D
   ·simp at D
   ·conv=>lhs;rw [h1,h2]
  obtain ⟨g4,p4,Q⟩:=p2.swap G
  refine ⟨_,rfl,_,_,_,by rw [t,E4];rfl,?_⟩
  refine FCall.frame (K:=fun r W=>∃ (TA':Option aM) (a d:Nat) (c:List Int) (g':aE),r= .slice TA' a d/\g4.le g'/\Pw W g' TA' a d c/\a=c.length/\Dig b64 c/\val b64 c=val b64 ps+(x.natAbs:Int)*(y.natAbs:Int)/\a<=N) hb (Jj (N:=N) p4 F dp (i.mag.mono Q.le) (j.mag.mono Q.le) i.cap j.cap w hab hN2 (by omega) (fun TA' a d c h' g' o p k n f l=>⟨TA',a,d,c,g',rfl,o,p,k,n,f,l⟩)) ?_
  ·rintro r L q ⟨TA',a,d,c,g',rfl,o,p,k,n,f,l⟩
   refine ⟨_,_,_,rfl,_,rfl,?_⟩
   rw [t]
   refine Er Kc.1 Kc.2 rfl rfl (by simp) ?_
   obtain ⟨V,O,R⟩:=Q.after o
   obtain ⟨g6,p6,p7⟩:=p.swap R
   refine hK _ V O ⟨TA',NA,a,d,nn,nc,c,ns,g6,L,p7,p6,q,rfl,k,m,n,J,?_,l,C,?_⟩
   ·rw [f,hv,z];omega
   ·rw [f,E];omega
def Si{b:Nat}{e:TypeId}{N:Nat}{M v:Int}{N1:Nat}(S:SumS h g b e N M v)(i:ZI g s A an ac x)(j:ZI g s' B bn bc y)(hab:an+bn+1<=N)(hN2:N<=400000000)(hM:M+(x*y).natAbs<b64^N1)(hN1:N1<=N)
 (hK:∀ h' g',g.le g'->SumS h' g' b e N (M+(x*y).natAbs) (v-x*y)->K (.tuple #[]) h'):FCall prog Gr #[.pointer (some ⟨b,0,none⟩),.agg #[.bool s,.slice A an ac],.agg #[.bool s',.slice B bn bc]] h K:=by
 refine Xs _ _ _ _ _ _ _ _ _ ?_
 unfold Wo
 refine U6 (i.mono S.le) ?_
 intro k f
 refine ⟨_,_,_,_,rfl,B4 _,?_⟩
 have d:ZI g k A an ac (-x):=⟨i.cap,by rw [Int.natAbs_neg];exact i.mag,f.sgn⟩
 have a:(-x*y).natAbs=(x*y).natAbs:=by rw [Int.neg_mul,Int.natAbs_neg]
 refine Bc (N1:=N1) S d j hab hN2 (by rw [a];exact hM) hN1 ?_
 intro h' g' c S'
 rw [a,Int.neg_mul,<- Int.sub_eq_add_neg] at S'
 exact ⟨rfl,hK h' g' c S'⟩
def De{XA YA:Option aM}{xn xc yn yc:Nat}(ma:Mw h XA xn x)(mb:Mw h YA yn y)(hyx:y<=x)(hl:xn<=1000000000)(hK:∀ A' m c' h',h.le h'->m<=c'->Mw h' A' m (x-y)->K (.slice A' m c') h'):FCall prog S1 #[.slice XA xn xc,.slice YA yn yc] h K:=by
 have p:yn<=xn:=mb.len_le (by decide) (Int.lt_of_le_of_lt hyx (ma.lt (by decide)))
 obtain ⟨z,a,o,j,s,rfl⟩:=ma
 obtain ⟨u,c,n,l,B,rfl⟩:=mb
 refine Pn _ _ _ _ _ _ ?_
 unfold Jm
 refine J6 Q4 (by omega) (by omega) (by omega) ?_
 intro b q
 rw [aO]
 refine ⟨_,_,_,rfl,?_⟩
 have w:=Win.blk .u64 C1 q (List.replicate xn 0)
 refine Hb Q4 w (by simp) (o.mono w.le) a (by simp;omega) ?_
 intro t g
 refine ⟨_,rfl,?_⟩
 rw [List.drop_of_length_le (by simp;omega),List.append_nil] at g
 refine Ep g a n c j l (by omega) hyx (by omega) ?_
 intro zs A k d e f
 refine ⟨rfl,?_⟩
 refine Bs f.sl d (by omega) e (Nat.le_refl _) (by omega) ?_
 intro m r i
 exact ⟨_,_,_,rfl,hK _ _ _ _ f.le r i⟩
def Np{b:Nat}{e:TypeId}{N:Nat}{M v:Int}(S:SumS h g b e N M v)(hN2:N<=400000000)(hK:∀ s A n c h',h.le h'->ZI h' s A n c v->K (.agg #[.bool s,.slice A n c]) h'):FCall prog Tj #[.pointer (some ⟨b,0,none⟩)] h K:=by
 obtain ⟨PA,NA,u,l,t,m,f,i,g1,D,z,q,V,rfl,x,r,dp,L,T,H,W,B⟩:=S
 have J:(aC ⟨b,0,none⟩ 0)=⟨b,0,none⟩:=Hc b 0 0
 have F:(aC ⟨b,0,none⟩ 1)=⟨b,1,none⟩:=Hc b 0 1
 have C:=Heap.le_put (.cells #[.slice PA u l,.slice NA t m] e) V
 refine B5v _ ?_
 unfold C0k
 refine ⟨_,rfl,_,_,_,by rw [J,E4];rfl,_,rfl,_,_,_,by rw [F,E4];rfl,?_⟩
 have Q:SlI .u64 (D.put b (.cells #[.slice PA u l,.slice NA t m] e)) PA f:=SlI.mono C (SlI.mono q.le z.slV)
 have E:SlI .u64 (D.put b (.cells #[.slice PA u l,.slice NA t m] e)) NA i:=SlI.mono C q.slV
 refine Bs Q dp x rfl z.2.1 (by omega) ?_
 intro m1 G M1
 refine ⟨_,_,_,rfl,B4 _,?_⟩
 refine Bs E L r rfl q.2.1 (by omega) ?_
 intro m2 R M2
 refine ⟨_,_,_,rfl,B4 _,?_⟩
 refine F8 M1 M2 (by omega) ⟨_,rfl,?_⟩
 refine B6 (fun j=>?_) (fun j=>?_)
 ·have a:val b64 i<=val b64 f:=by unfold Fg at j;split at j<;>omega
  refine De M1 M2 a (by omega) ?_
  intro A3 n3 c3 Z o y M3
  obtain ⟨d,k⟩:=aT (show 0<=val b64 f-val b64 i by omega)
  rw [k] at M3
  refine ⟨_,_,_,rfl,O7 (v:=d) M3 y ?_⟩
  intro O p
  refine ⟨_,_,_,_,rfl,hK _ _ _ _ _ o ?_⟩
  rw [T,k];exact p
 ·have a:val b64 f<=val b64 i:=by
   unfold Fg at j
   by_cases X:val b64 f<val b64 i
   ·omega
   ·rw [iN X] at j;split at j<;>omega
  refine De M2 M1 a (by omega) ?_
  intro A3 n3 c3 Z o y M3
  obtain ⟨d,k⟩:=aT (show 0<=val b64 i-val b64 f by omega)
  rw [k] at M3
  refine ⟨_,_,_,rfl,O7 (v:=d) M3 y ?_⟩
  intro O p
  refine ⟨_,_,_,_,rfl,hK _ _ _ _ _ o ?_⟩
  have w:v= -(d:Int):=by omega
  rw [w];exact p
def B1q(gl:Gtz h)(i:ZI h s A an ac x)(j:ZI h s' B bn bc y)(hx:ZB m x)(hy:ZB m y)(hm:m<=6400000000)(hK:∀ A' n' c' h',h.le h'->ZI h' false A' n' c' (Int.lcm x y:Int)->K (.agg #[.bool false,.slice A' n' c']) h'):FCall prog B4a #[.agg #[.bool s,.slice A an ac],.agg #[.bool s',.slice B bn bc]] h K:=by
 have b:=i.zeroIff
 have c:=j.zeroIff
 have g:=i.len hx hm
 have a:=j.len hy hm
 refine C2r _ _ _ _ _ _ _ _ ?_
 unfold C7c
 refine D9 (fun o=>?_) (fun n=>D9 (fun o=>?_) (fun z=>?_))
 ·refine hK none 0 0 h (B4 _) ?_
  rw [b.2 (by omega),Int.lcm_zero_left];exact ZI.zero
 ·refine hK none 0 0 h (B4 _) ?_
  rw [c.2 (by omega),Int.lcm_zero_right];exact ZI.zero
 ·have F:x≠0:=fun e=>n (by have:=b.1 e;omega)
  have C:y≠0:=fun e=>z (by have:=c.1 e;omega)
  refine Oh gl i.mag j.mag i.cap j.cap g a ?_
  intro A3 D R N d E M3
  refine ⟨_,_,_,rfl,d,?_⟩
  rw [Int.gcd_natCast_natCast] at M3
  have L:Nat.gcd x.natAbs y.natAbs≠0:=fun e=>by
   have:=Nat.eq_zero_of_gcd_eq_zero_left e
   omega
  have q:D<=100000000:=by
   refine Nat.le_trans (M3.len_le (by decide) (j:=bn) ?_) a
   have r:=j.mag.lt (by decide)
   have w:Nat.gcd x.natAbs y.natAbs<=y.natAbs:=Nat.gcd_le_right _ (by omega)
   omega
  refine T3 (j.mag.mono d) M3 j.cap E (by omega) (by omega) (by omega) ?_
  intro A4 t M A5 J H G f p O M4 M5
  refine ⟨_,_,_,_,_,_,rfl,f,?_⟩
  rw [<- Int.natCast_ediv] at M4
  have k:t<=100000000:=by
   refine Nat.le_trans (M4.len_le (by decide) (j:=bn) ?_) a
   have r:=j.mag.lt (by decide)
   have w:=Nat.div_le_self y.natAbs (Nat.gcd x.natAbs y.natAbs)
   omega
  refine H8 (i.mag.mono (B0 d f)) M4 i.cap p (by omega) (by omega) ?_
  intro A6 Q T S l u M6
  refine ⟨_,_,_,rfl,hK _ _ _ _ (B0 d (B0 f l)) ⟨u,?_,?_⟩⟩
  ·rw [Int.natAbs_natCast]
   rw [<- Int.natCast_mul] at M6
   have:Int.lcm x y=x.natAbs*(y.natAbs/Nat.gcd x.natAbs y.natAbs):=by
    show Nat.lcm x.natAbs y.natAbs=_
    rw [Nat.lcm,Nat.mul_div_assoc _ (Nat.gcd_dvd_right _ _)]
   rw [this];exact M6
  ·symm;rw [decide_eq_false_iff_not];omega
end
abbrev RQr:aE->QV->Rat->Prop:=fun h w q=>RQ h w q
abbrev NQr:aE->QV->Rat->Prop:=fun h w q=>NQ h w q
abbrev ZIr:aE->IV->Int->Prop:=fun h w z=>ZI h w.s w.A w.n w.c z
abbrev SSr:aE->List UInt8->List UInt8->Prop:=fun _ w s=>w=s
def Mon{α β:Type}(R:aE->α->β->Prop):Prop:=∀ (h h':aE) (w:α) (x:β),h.le h'->R h w x->R h' w x
def K5:Mon RQr:=fun _ _ _ _ a i=>⟨i.num.mono a,i.den.mono a⟩
def Q5:Mon NQr:=fun _ _ _ _ a i=>NQ.mono a i
def Kw:Mon ZIr:=fun _ _ _ _ a i=>i.mono a
def I9:Mon SSr:=fun _ _ _ _ _ i=>i
instance:Enc QV:=⟨⟨fun w=>[.bool w.s,.slice w.A w.n w.c,.bool w.s2,.slice w.A2 w.n2 w.c2],4,fun _=>rfl,fun w v hv=>by simp at hv;rcases hv with rfl|rfl|rfl|rfl<;>rfl⟩⟩
section
variable {α β:Type}
def Row(R:aE->α->β->Prop)(g:aE)(xs:List α)(n:Nat)(f:Nat->β):Prop:=∀ i,i<n->∃ w,xs[i]? = some w/\R g w (f i)
variable {R:aE->α->β->Prop} {g g' h h':aE} {xs:List α} {n:Nat} {f:Nat->β}
def Row.mono(m:Mon R)(hl:g.le g')(r:Row R g xs n f):Row R g' xs n f:=fun i a=>by
 obtain ⟨w,e,b⟩:=r i a
 exact ⟨w,e,m _ _ _ _ hl b⟩
def Row.nil:Row R g xs 0 f:=fun i a=>by omega
def Row.set{k:Nat}(r:Row R g xs k f)(hk:k<xs.length){w:α}(hw:R g w (f k)):Row R g (xs.set k w) (k+1) f:=fun i c=>by
 by_cases e:i=k
 ·subst e;exact ⟨w,by rw [aU hk],hw⟩
 ·obtain ⟨u,a,b⟩:=r i (by omega)
  exact ⟨u,by rw [List.getElem?_set_ne (fun x=>e x.symm)];exact a,b⟩
def Row.upd(r:Row R g xs n f){k:Nat}(hk:k<xs.length){w:α}{y:β}(hw:R g w y):Row R g (xs.set k w) n (fun i=>if i=k then y else f i):=fun i a=>by
 by_cases e:i=k
 ·subst e;exact ⟨w,by rw [aU hk],by show R g w (if i=i then y else f i);rw [iP rfl];exact hw⟩
 ·obtain ⟨u,b,c⟩:=r i a
  exact ⟨u,by rw [List.getElem?_set_ne (fun x=>e x.symm)];exact b,by show R g u (if i=k then y else f i);rw [iN e];exact c⟩
def Row.push(r:Row R g xs xs.length f){w:α}(hw:R g w (f xs.length)):Row R g (xs++[w]) (xs++[w]).length f:=fun i a=>by
 rw [List.length_append] at a
 by_cases e:i=xs.length
 ·subst e;exact ⟨w,by simp,hw⟩
 ·obtain ⟨u,b,c⟩:=r i (by simp at a;omega)
  exact ⟨u,by rw [List.getElem?_append_left (by simp at a;omega)];exact b,c⟩
def Row.congr{f':Nat->β}(r:Row R g xs n f)(h:∀ i,i<n->f i=f' i):Row R g xs n f':=fun i a=>by
 obtain ⟨w,e,b⟩:=r i a
 exact ⟨w,e,by rw [<- h i a];exact b⟩
def Row.get(r:Row R g xs n f){i:Nat}(hi:i<n)(hl:i<xs.length):R g xs[i] (f i):=by
 obtain ⟨w,e,a⟩:=r i hi
 rw [List.getElem?_eq_getElem hl] at e
 cases e;exact a
variable [E:Enc α]
def RowV(R:aE->α->β->Prop)(h:aE)(A:Option aM)(n:Nat)(f:Nat->β):Prop:=∃ xs:List α,SlF h A xs/\xs.length=n/\Row R h xs n f
def RowV.mono(m:Mon R){A:Option aM}(hl:h.le h')(r:RowV R h A n f):RowV R h' A n f:=by
 obtain ⟨a,s,e,r⟩:=r
 exact ⟨a,s.mono hl,e,r.mono m hl⟩
def RowV.nil{A:Option aM}:RowV R h A 0 f:=⟨[],SlF.nil,rfl,Row.nil⟩
def RowV.congr{A:Option aM}{f':Nat->β}(r:RowV R h A n f)(e:∀ i,i<n->f i=f' i):RowV R h A n f':=by
 obtain ⟨a,s,l,r⟩:=r
 exact ⟨a,s,l,r.congr e⟩
def RowV.cut{A:Option aM}(r:RowV R h A n f){c l k:Nat}(hlk:l+k<=n)(hc:n<=c):RowV R h (J9 A c l E.default.size) k (fun i=>f (l+i)):=by
 obtain ⟨a,s,e,r⟩:=r
 refine ⟨(a.drop l).take (l+k-l),s.cut (l:=l) (m:=l+k) (by omega) (by omega) (by omega),by simp;omega,fun i g=>?_⟩
 obtain ⟨w,d,b⟩:=r (l+i) (by omega)
 exact ⟨w,by rw [List.getElem?_take,iP (by omega),List.getElem?_drop];exact d,b⟩
def RowV.at(pos:0<E.default.size){A:Option aM}(r:RowV R h A n f){i:Nat}(hi:i<n):∃ a w,A=some a/\R h w (f i)/\∀ j v,(enc w)[j]? = some v->h.cell? (aC (aC a (i*E.default.size)) j)=some v:=by
 obtain ⟨b,s,e,r⟩:=r
 obtain ⟨a,d,c⟩:=SlF.at pos s (i:=i) (by omega)
 exact ⟨a,b[i],d,r.get hi (by omega),c⟩
structure Own (R:aE->α->β->Prop) (h h':aE) (b n:Nat) (f:Nat->β):Prop where
 ex:∃ g o xs,h.le g/\Sep h' g o/\RowX o b xs/\xs.length=n/\Row R g xs n f
def Own.le{b:Nat}(w:Own R h h' b n f):h.le h':=by
 obtain ⟨g,o,a,l,s,_⟩:=w.ex
 exact B0 l s.le
def Own.vis(m:Mon R){b:Nat}(w:Own R h h' b n f):RowV R h' (some ⟨b,0,none⟩) n f:=by
 obtain ⟨g,o,a,l,s,r,e,q⟩:=w.ex
 exact ⟨a,r.rowB.slF s.ole,e,q.mono m s.le⟩
end
section
variable {h:aE} {A:Option aM} {n:Nat}
def RowV.qat{R:aE->QV->Rat->Prop}{f:Nat->Rat}(r:RowV R h A n f){i:Nat}(hi:i<n):∃ a w,A=some a/\R h w (f i)/\h.cell? (aC (aC a (i*4)) 0)=some (.bool w.s)/\h.cell? (aC (aC a (i*4)) 1)=some (.slice w.A w.n w.c)/\h.cell? (aC (aC a (i*4)) 2)=some (.bool w.s2)/\h.cell? (aC (aC a (i*4)) 3)=some (.slice w.A2 w.n2 w.c2):=by
 obtain ⟨a,w,e,d,b⟩:=r.at (by decide) hi
 exact ⟨a,w,e,d,b 0 _ rfl,b 1 _ rfl,b 2 _ rfl,b 3 _ rfl⟩
def RowV.zat{f:Nat->Int}(r:RowV ZIr h A n f){i:Nat}(hi:i<n):∃ a w,A=some a/\ZIr h w (f i)/\h.cell? (aC (aC a (i*2)) 0)=some (.bool w.s)/\h.cell? (aC (aC a (i*2)) 1)=some (.slice w.A w.n w.c):=by
 obtain ⟨a,w,e,d,b⟩:=r.at (by decide) hi
 exact ⟨a,w,e,d,b 0 _ rfl,b 1 _ rfl⟩
def RowV.sat{f:Nat->List UInt8}(r:RowV SSr h A n f){i:Nat}(hi:i<n):∃ a,A=some a/\h.cell? (aC a (i*1))=some (.string (bs (f i))):=by
 obtain ⟨a,w,e,d,c⟩:=r.at (by decide) hi
 have b:w=f i:=d
 subst b
 refine ⟨a,e,?_⟩
 have:=c 0 _ rfl
 rw [Jg] at this
 exact this
end
