/- A part. -/
import Derived.Test.YtmbfcbbkbefgfaaGreatDoorG34
import Derived.Test.YtmbfcbbkbefgfaaGreatDoorG26
import Derived.Test.YtmbfcbbkbefgfaaGreatDoorG33
open Go.Proofs.Tryz
set_option linter.all false
open _root_.Go.Addr renaming add->aC
open Int renaming toNat_natCast->aI,mul_le_mul_of_nonneg_left->aK,mul_zero->aL,natAbs_natCast->aN,pow_pos->aP,add_zero->aS,le_of_lt->aW,eq_ofNat_of_zero_le->aZ
open List renaming eq_nil_of_length_eq_zero->aE,take_append_drop->aJ,length_append->aM,length_take->aQ,take_of_length_le->aR,replicate->aU,getElem?_cons_zero->aX,getElem?_cons_succ->aY,toArray->bC,getElem?_set_self->bD
open List.cons renaming injEq->aF
open Nat renaming le_trans->bA,lcm->bB
open _root_.Go.Value.int renaming injEq->aT
open _root_.Go.Value.slice renaming injEq->aG
open _root_.Go renaming Addr->aH,TypeId->aO
open _root_.Go.Proofs.YtmbfcbbkbefgfaaGreatDoor renaming Heap->aD,FCall->aV
namespace Go.Proofs.YtmbfcbbkbefgfaaGreatDoor
set_option maxRecDepth 20000
open Go
def A6d(B:Int):∀ {ts:List Int} {k:Nat} (_:k<ts.length) (v:Int),val B (ts.set k v)=val B ts+B^k*(v-ts.getD k 0)
 | [],k,h,v=>by simp at h
 | t::ts,0,h,v=>by simp [val];grind
 | t::ts,k+1,h,v=>by
  have ih:=A6d B (ts:=ts) (k:=k) (by simpa using h) v
  simp only [List.set_cons_succ,val,List.getD_cons_succ,ih,Int.pow_succ]
  grind
section
variable {h g:aD} {K:VP} {A B:Option aH} {s s':Bool} {an ac bn bc m:Nat} {x y:Int}
def A42{hp:aD}{n c k:Nat}{ts:List Int}{ca:Int}(p:Pw hp g A n c ts)(hn:n=ts.length)(dt:Dig b64 ts)(hk:k<n)(hca:0<=ca/\ca<18446744073709551616){Q:Int->aD->Prop}
 (hQ:∀ h' ts',Pw h' g A n c ts'->n=ts'.length->Dig b64 ts'->val b64 ts'+b64^(k+1)*((ts.getD k 0+ca)/18446744073709551616)=val b64 ts+b64^k*ca->Q ((ts.getD k 0+ca)/18446744073709551616) h'):
 ∃ a,A=some a/\0<=(k:Int)/\(k:Int)<((n:Nat):Int)/\∃ (t:Int),Heap.cell? hp (aC a (((k:Int)).toNat*1))=some (U t)/\ECall prog Q6 #[U t,U ca,U (0:Int)] hp (fun r hp1=>∃ (ta tb:Int),r= .tuple #[U ta,U tb]/\∃ a2,A=some a2/\0<=(k:Int)/\(k:Int)<((n:Nat):Int)/\wpH prog (Instr.storeAt B7 (.pointer (some (aC a2 (((k:Int)).toNat*1)))) (U ta)) (fun _ hp2=>Q tb hp2) hp1):=by
 have d:ts≠[]:=by rintro rfl;simp at hn;omega
 obtain ⟨b,l,w,y⟩:=Dg p d
 have s:=J5 dt k
 refine w.sl.load hn (by omega) (by omega) ?_
 simp only [aI]
 refine Bv s hca (by omega) ⟨_,_,rfl,?_⟩
 obtain ⟨a,o,_⟩:=SlV.at w.sl (i:=k) (by simp;omega)
 refine ⟨a,o,by omega,by omega,w.storeN E2 o (by omega) ?_⟩
 intro x j
 simp only [aS] at j ⊢
 have e:=j.priv (m:=n) (c:=c) (by intro u;have:=congrArg List.length u;rw [List.length_set,List.length_nil] at this;exact d (aE this)) (by simpa using y) (by simp;omega)
 rw [aR (by simp;omega)] at e
 refine hQ x _ e (by simpa using hn) (dt.set (Cs _)) ?_
 rw [A6d b64 (by omega),Int.pow_succ]
 have:=Int.mul_ediv_add_emod (ts.getD k 0+ca) 18446744073709551616
 show _+b64^k*_+b64^k*18446744073709551616*_=_
 generalize (ts.getD k 0+ca)/18446744073709551616=q at *
 generalize (ts.getD k 0+ca)%18446744073709551616=r at *
 grind
def A93{Invv1:LP}{muv1:LN}{TA:Option aH}{tn tc i x2n:Nat}{ts:List Int}{ca:Int}{hp8 hp7:aD}(p:Pw hp8 g TA tn tc ts)(hn:tn=ts.length)(dt:Dig b64 ts)(hle:i+x2n<=tn)(hca:0<=ca/\ca<18446744073709551616)(hl:tn<=1000000000)
 (hK:∀ TA' tn' tc' ts' h' g',g.le g'->Pw h' g' TA' tn' tc' ts'->tn'=ts'.length->Dig b64 ts'->val b64 ts'=val b64 ts+b64^(i+x2n)*ca->(tn'=tn\/(tn'=tn+1/\b64^tn<=val b64 ts'))->Invv1 [.slice TA' tn' tc',I (B4 ((i:Int)+1))] h'/\muv1 [.slice TA' tn' tc',I (B4 ((i:Int)+1))] h'<muv1 [.slice TA tn tc,I (i:Int)] hp7):
 Cf prog x2n Invv1 muv1 TA tn tc (i:Int) ca hp8 hp7:=by
 unfold Cf
 have Z:B4 ((i:Int)+(x2n:Int))=((i+x2n:Nat):Int):=by rw [B5 (by omega) (by omega)];omega
 rw [Z]
 refine ⟨fun L hp=>∃ (k:Nat) (c1:Int) (e:List Int) (A1:Option aH) (b c:Nat) (w:aD),L=[.slice A1 b c,U c1,I k]/\g.le w/\Pw hp w A1 b c e/\b=e.length/\Dig b64 e/\k<=b/\(0<=c1/\c1<18446744073709551616)/\val b64 e+b64^k*c1=val b64 ts+b64^(i+x2n)*ca/\(b=tn\/(b=tn+1/\c1=0/\b64^tn<=val b64 e)),fun L _=>tn+2-(iAt L 2).toNat,⟨i+x2n,ca,ts,TA,tn,tc,g,rfl,B0 _,p,hn,dt,hle,hca,rfl,.inl rfl⟩,?_⟩
 rintro A1 b c c1 k0 A ⟨k,X,e,A1',aa,H,w,Q,y,E,m,u,hk,d,x,r⟩
 simp only [aF,aG,aT,and_true,true_and] at Q
 obtain ⟨⟨rfl,rfl,rfl⟩,rfl,rfl⟩:=Q
 refine J9 (fun z=>?_) (fun z=>?_)
 ·have j:b=tn:=by
   rcases r with n|⟨_,n,_⟩
   ·exact n
   ·exact absurd n z
  have R:B4 ((k:Int)+1)=((k+1:Nat):Int):=by rw [B5 (by omega) (by omega)];omega
  have s:∀ (J N S O:Value),tn+2-(iAt [J,N,I ((k+1:Nat):Int)] 2).toNat<tn+2-(iAt [S,O,I (k:Int)] 2).toNat:=by
   intro J N S O
   simp only [iAt,aX,aY]
   omega
  refine E7 (fun F=>?_) (fun F=>?_)
  ·have q:k=b:=by omega
   refine Fg K9 E rfl rfl (by omega) (by omega) ?_
   intro A2 c2 h2 g2 V M
   rw [<- List.map_singleton (f:=Value.int .u64),<- List.map_append] at M
   have T:Dig b64 (e++[0]):=u.append (Dig.one (by decide))
   refine A42 M (by simp;omega) T (by omega) d ?_
   intro D o G l C a
   have W:(e++[0]).getD k 0=0:=by
    rw [q,m,List.getD,List.getElem?_append_right (Nat.le_refl _)];simp
   rw [W,Int.zero_add,Int.ediv_eq_zero_of_lt d.1 d.2] at a ⊢
   rw [R]
   rw [G2,aL,aS,aL,aS] at a
   refine ⟨⟨k+1,0,o,A2,b+1,c2,g2,rfl,Heap.le_trans y V,G,l,C,by omega,by omega,?_,.inr ⟨by omega,rfl,?_⟩⟩,s _ _ _ _⟩
   ·rw [a,aL,aS];exact x
   ·rw [a,<- j,<- q]
    have h5:=C1 (B:=b64) (by decide) u
    have h6:b64^k*1<=b64^k*c1:=aK (by omega) (aW (aP (by decide)))
    omega
  ·refine A42 E m u (by omega) d ?_
   intro D o G l C a
   rw [R]
   have gt:=J5 u k
   refine ⟨⟨k+1,_,o,A1,b,c,w,rfl,y,G,l,C,by omega,?_,?_,.inl j⟩,s _ _ _ _⟩
   ·constructor
    ·exact Int.ediv_nonneg (by omega) (by decide)
    ·omega
   ·rw [a];exact x
 ·subst z
  rw [aL,aS] at x
  refine hK A1 b c e A w y E m u x ?_
  rcases r with n|⟨n,_,D⟩
  ·exact .inl n
  ·exact .inr ⟨n,D⟩
def B2f{XA YA TA:Option aH}{xs ys ts:List Int}{x2n x2c y2n tn tc N:Nat}{hp4:aD}(p:Pw hp4 g TA tn tc ts)(hn:tn=ts.length)(dt:Dig b64 ts)(sx:SlI .u64 g XA xs)(hx:x2n=xs.length)(dx:Dig b64 xs)(sy:SlI .u64 g YA ys)(hy:y2n=ys.length)(dy:Dig b64 ys)(hxy:x2n+y2n<=tn)(hN:tn<=N)(hN2:N<=400000000)(hV:val b64 ts+val b64 xs*val b64 ys<b64^N)
 (hK:∀ TA' tn' tc' ts' h' g',g.le g'->Pw h' g' TA' tn' tc' ts'->tn'=ts'.length->Dig b64 ts'->val b64 ts'=val b64 ts+val b64 xs*val b64 ys->tn'<=N->K (.slice TA' tn' tc') h'):
 Eh prog K XA x2n x2c YA y2n TA tn tc hp4:=by
 unfold Eh
 have W:=C1 (B:=b64) (by decide) dx
 have ac:=C1 (B:=b64) (by decide) dy
 have q:∀ k,val b64 (ys.take k)<=val b64 ys:=by
  intro k
  have O:=E8 b64 (ys.take k) (ys.drop k)
  rw [aJ] at O
  have h2:0<=b64^(ys.take k).length*val b64 (ys.drop k):=Int.mul_nonneg (aW (aP (by decide))) (C1 (B:=b64) (by decide) (dy.drop k))
  omega
 refine ⟨fun L hp=>∃ (k:Nat) (a:List Int) (A1:Option aH) (e d:Nat) (E:aD),L=[.slice A1 e d,I k]/\g.le E/\Pw hp E A1 e d a/\e=a.length/\Dig b64 a/\k<=y2n/\val b64 a=val b64 ts+val b64 xs*val b64 (ys.take k)/\x2n+y2n<=e/\e<=N,fun L _=>y2n-(iAt L 1).toNat,⟨0,ts,TA,tn,tc,g,rfl,B0 _,p,hn,dt,by omega,by simp [val],hxy,hN⟩,?_⟩
 rintro A1 e d k0 S ⟨k,a,A1',ad,aa,E,hL,A,Q,y,C,hk,Z,ae,s⟩
 simp only [aF,aG,aT,and_true,true_and] at hL
 obtain ⟨⟨rfl,rfl,rfl⟩,rfl⟩:=hL
 refine B3 (fun O=>?_) (fun O=>?_)
 ·have gy:=J5 dy k
  have vy:=C6 b64 ys k
  have T:B4 ((k:Int)+(x2n:Int))=((k+x2n:Nat):Int):=by rw [B5 (by omega) (by omega)];omega
  rw [T]
  refine (sy.mono (Heap.le_trans A Q.le)).load hy (by omega) (by omega) ?_
  simp only [aI]
  have u:a≠[]:=by rintro rfl;simp at y;omega
  obtain ⟨b,ab,w,hc⟩:=Dg Q u
  refine ⟨⟨by omega,by omega⟩,⟨by omega,by omega⟩,?_⟩
  have i:((a.drop k).take (k+x2n-k)).length=xs.length:=by rw [aQ,List.length_drop];omega
  refine Fy (w.sub (l:=k) (m:=k+x2n) (c:=d) (by omega) (by omega) (by omega)) (by rw [i];omega) (sx.mono A) hx ((C.drop k).take _) dx i gy (by omega) ?_
  intro D c h' j z V M w'
  rw [i] at j M
  have w2:=w.whole (l:=k) (m:=k+x2n) (by omega) (by omega) (by omega) w'
  refine ⟨_,rfl,?_⟩
  have n:(a.take k++D++a.drop (k+x2n)).length=a.length:=by
   simp only [aM,aQ,List.length_drop];omega
  have r:a.take k++D++a.drop (k+x2n)≠[]:=by
   intro e0
   rw [e0] at n
   exact u (aE (by simpa using n.symm))
  have p2:=w2.priv (m:=e) (c:=d) r (by rw [n];exact hc) (by omega)
  rw [aR (by omega)] at p2
  have d2:Dig b64 (a.take k++D++a.drop (k+x2n)):=((C.take k).append z).append (C.drop _)
  have F:a=a.take k++((a.drop k).take (k+x2n-k)++a.drop (k+x2n)):=by
   have T:a.drop (k+x2n)=(a.drop k).drop (k+x2n-k):=by rw [List.drop_drop];congr 1;omega
   rw [T,aJ,aJ]
  have o:val b64 (a.take k++D++a.drop (k+x2n))+b64^(k+x2n)*c=val b64 a+b64^k*(val b64 xs*ys.getD k 0):=by
   have e2:val b64 a=val b64 (a.take k)+b64^k*(val b64 ((a.drop k).take (k+x2n-k))+b64^xs.length*val b64 (a.drop (k+x2n))):=by
    conv=>lhs;rw [F]
    rw [E8,E8,i,aQ,Nat.min_eq_left (by omega)]
   rw [e2,List.append_assoc,E8,E8,aQ,Nat.min_eq_left (by omega),j,hx,Int.pow_add]
   generalize b64^k=P at *
   generalize b64^xs.length=R at *
   grind
  refine A93 p2 (by omega) d2 (by omega) V (by omega) ?_
  intro TA' tn' tc' ts' h3 g3 l3 p3 H d3 x J
  rw [o,Z] at x
  have X:val b64 ts'=val b64 ts+val b64 xs*val b64 (ys.take (k+1)):=by
   rw [x,vy];grind
  have G:tn'<=N:=by
   rcases J with h4|⟨h4,h5⟩
   ·omega
   ·have h6:=aK (q (k+1)) W
    have h7:b64^e<b64^N:=by omega
    have h8:e<N:=by
     by_cases h9:e<N
     ·exact h9
     ·have:=D3 (B:=b64) (by decide) (show N<=e by omega)
      omega
    omega
  have e3:B4 ((k:Int)+1)=((k+1:Nat):Int):=by rw [B5 (by omega) (by omega)];omega
  rw [e3]
  exact ⟨⟨k+1,ts',TA',tn',tc',g3,rfl,Heap.le_trans A l3,p3,H,d3,by omega,X,by omega,G⟩,by simp only [iAt,aX,aY];omega⟩
 ·obtain rfl:k=y2n:=by omega
  rw [aR (by omega)] at Z
  exact hK A1 e d a S E A Q y C Z s
def Ga{TA XA YA:Option aH}{ts:List Int}{tn tc xn xc yn yc N:Nat}(p:Pw h g TA tn tc ts)(hn:tn=ts.length)(dt:Dig b64 ts)(ma:Mw g XA xn x)(mb:Mw g YA yn y)(hxc:xn<=xc)(hyc:yn<=yc)(hN:tn<=N)(hxy:xn+yn+1<=N)(hN2:N<=400000000)(hV:val b64 ts+x*y<b64^N)
 (hK:∀ TA' tn' tc' ts' h' g',g.le g'->Pw h' g' TA' tn' tc' ts'->tn'=ts'.length->Dig b64 ts'->val b64 ts'=val b64 ts+x*y->tn'<=N->K (.slice TA' tn' tc') h'):aV prog Ad #[.slice TA tn tc,.slice XA xn xc,.slice YA yn yc] h K:=by
 have ar:=ma.nonneg (by decide)
 have ad:=mb.nonneg (by decide)
 refine Th _ _ _ _ _ _ _ _ _ ?_
 unfold Sc
 refine ⟨fun L E=>E=h/\∃ (A1 B1:Option aH) (d c1 r c2:Nat) (q c:Int),L=[.slice A1 d c1,.slice B1 r c2]/\Mw g A1 d q/\Mw g B1 r c/\d<=c1/\r<=c2/\d+r=xn+yn/\q*c=x*y,B3 (fun _=>⟨rfl,_,_,_,_,_,_,y,x,rfl,mb,ma,hyc,hxc,by omega,Int.mul_comm _ _⟩) (fun _=>⟨rfl,_,_,_,_,_,_,x,y,rfl,ma,mb,hxc,hyc,rfl,rfl⟩),?_⟩
 rintro A1 d c1 B1 r c2 E ⟨rfl,A1',B1',aq,ap,ao,ae,q,c,j,F,G,k1,k2,af,l⟩
 simp only [aF,aG,and_true] at j
 obtain ⟨⟨rfl,rfl,rfl⟩,rfl,rfl,rfl⟩:=j
 have ab:=F.nonneg (by decide)
 have ac:=G.nonneg (by decide)
 refine ⟨fun L C=>∃ (A2 B2:Option aH) (a Z i c4:Nat) (W V:Int) (u:aD),L=[.slice A2 a Z,.slice B2 i c4]/\g.le u/\Pw C u TA tn tc ts/\Mw u A2 a W/\Mw u B2 i V/\a+i<=xn+yn+1/\W*V=x*y,B3 (fun _=>?_) (fun _=>⟨_,_,_,_,_,_,q,c,g,rfl,B0 _,p,F,G,by omega,l⟩),?_⟩
 ·refine p.call ?_
  refine D9 F G k1 k2 (by omega) (by omega) ?_
  intro A3 a Z M l3 k3 M3 h3 p3
  refine ⟨_,_,_,rfl,?_⟩
  refine Ao K9 rfl ?_
  intro b J
  have z:M b=none:=by
   cases hx1:M b with
   | none=>rfl
   | some o=>rw [p3.le b o hx1] at J;cases J
  refine ⟨_,_,_,rfl,_,_,_,_,_,_,q*c,1,M.put b (.cells #[U 1] B7),rfl,Heap.le_trans l3 (Heap.le_put _ z),p3.put J _,M3.mono (Heap.le_put _ z),?_,?_,by rw [Int.mul_one];exact l⟩
  ·refine ⟨[1],rfl,SlI.new _ _ _ _ _,?_,?_,?_⟩
   ·intro x hx;simp at hx;subst hx;decide
   ·unfold Norm;simp
   ·simp [val]
  ·have A:=F.lt (by decide)
   have D:=G.lt (by decide)
   have X:q*c<b64^(d+r):=by
    rw [Int.pow_add]
    by_cases h0:c=0
    ·subst h0
     rw [aL]
     exact Int.mul_pos (aP (by decide)) (aP (by decide))
    ·have h1:q*c<b64^d*c:=Int.mul_lt_mul_of_pos_right A (by omega)
     have h2:b64^d*c<=b64^d*b64^r:=aK (aW D) (aW (aP (by decide)))
     omega
   have:=M3.len_le (by decide) X
   omega
 rintro A2 a Z B2 i c4 C ⟨A2',B2',al,ag,an,aj,W,V,u,j,lg,p1,M1,M2,ak,k⟩
 simp only [aF,aG,and_true] at j
 obtain ⟨⟨rfl,rfl,rfl⟩,rfl,rfl,rfl⟩:=j
 obtain ⟨xs,S,sx,dx,nx,rfl⟩:=M1
 obtain ⟨ys,Q,sy,dy,ny,rfl⟩:=M2
 unfold Lb
 have e1:B4 ((a:Int)+(i:Int))=((a+i:Nat):Int):=by rw [B5 (by omega) (by omega)];omega
 rw [e1]
 refine ⟨fun L E=>∃ (w:List Int) (A5:Option aH) (m c5:Nat) (O:aD),L=[.slice A5 m c5]/\u.le O/\Pw E O A5 m c5 w/\m=w.length/\Dig b64 w/\val b64 w=val b64 ts/\m<=N,fun L _=>match L with|[.slice _ n _]=>a+i-n|_=>0,⟨ts,TA,tn,tc,u,rfl,B0 _,p1,hn,dt,rfl,hN⟩,?_⟩
 rintro A5 m c5 ai ⟨w,A5',ah,am,O,j,e,p5,T,du,s,H⟩
 simp only [aF,aG,and_true] at j
 obtain ⟨rfl,rfl,rfl⟩:=j
 refine B3 (fun h1=>?_) (fun h1=>?_)
 ·refine Fg K9 p5 rfl rfl (by omega) (by omega) ?_
  intro A6 c6 h6 g6 l6 p6
  rw [<- List.map_singleton (f:=Value.int .u64),<- List.map_append] at p6
  refine ⟨⟨w++[0],A6,m+1,c6,g6,rfl,Heap.le_trans e l6,p6,by simp;omega,du.append (Dig.one (by decide)),by rw [G2,s];simp,by omega⟩,?_⟩
  show a+i-(m+1)<a+i-m
  omega
 ·refine B2f (N:=N) p5 T du (sx.mono e) S dx (sy.mono e) Q dy (by omega) H hN2 (by rw [s,k];exact hV) ?_
  intro TA' tn' tc' ts' h' g' l' p' aa d' B R
  rw [s,k] at B
  exact hK TA' tn' tc' ts' h' g' (Heap.le_trans lg (Heap.le_trans e l')) p' aa d' B R
def SumS(h g:aD)(b:Nat)(e:aO)(N:Nat)(M v:Int):Prop:=∃ (PA NA:Option aH) (pn pc nn nc:Nat) (ps ns:List Int) (g1 g2:aD),Pw g1 g PA pn pc ps/\Pw g2 g1 NA nn nc ns/\g2 b=none/\h=g2.put b (.cells #[.slice PA pn pc,.slice NA nn nc] e)/\pn=ps.length/\nn=ns.length/\Dig b64 ps/\Dig b64 ns/\v=val b64 ps-val b64 ns/\pn<=N/\nn<=N/\val b64 ps+val b64 ns<=M
def SumS.le{b:Nat}{e:aO}{N:Nat}{M v:Int}(S:SumS h g b e N M v):g.le h:=by
 obtain ⟨PA,NA,i,j,l,k,o,m,n,p,a,d,c,rfl,_⟩:=S
 exact Heap.le_trans a.le (Heap.le_trans d.le (Heap.le_put _ c))
def SumS.zero{b:Nat}{e:aO}{N:Nat}(hb:g b=none):SumS (g.put b (.cells #[.slice none 0 0,.slice none 0 0] e)) g b e N 0 0:=
 ⟨none,none,0,0,0,0,[],[],g,g,Priv.nil _ _ _ _,Priv.nil _ _ _ _,hb,rfl,rfl,rfl,Dig.nil,Dig.nil,by simp [val],by omega,by omega,by simp [val]⟩
def Gu:prog.cellsOf V3=1/\(prog.info? V3).isSome=true:=by constructor<;>kernel_rfl
def Ol{b:Nat}{e:aO}{N:Nat}{M v:Int}{N1:Nat}(S:SumS h g b e N M v)(i:ZI g s A an ac x)(j:ZI g s' B bn bc y)(hab:an+bn+1<=N)(hN2:N<=400000000)(hM:M+(x*y).natAbs<b64^N1)(hN1:N1<=N)
 (hK:∀ h' g',g.le g'->SumS h' g' b e N (M+(x*y).natAbs) (v+x*y)->K (.tuple #[]) h'):aV prog Dz #[.pointer (some ⟨b,0,none⟩),.agg #[.bool s,.slice A an ac],.agg #[.bool s',.slice B bn bc]] h K:=by
 have Q:=i.zeroIff
 have W:=j.zeroIff
 have c1:=S2 i.sgn
 have c2:=S2 j.sgn
 have C:((x*y).natAbs:Int)=(x.natAbs:Int)*(y.natAbs:Int):=by rw [Int.natAbs_mul,Int.natCast_mul]
 refine Ti _ _ _ _ _ _ _ _ _ ?_
 unfold Sd
 have n:x*y=0->K (.tuple #[]) h:=by
  intro z
  refine hK h g (B0 _) ?_
  rw [z];simpa using S
 refine E7 (fun z=>n (by rw [Q.2 (by omega),Int.zero_mul])) (fun _=>E7 (fun z=>n (by rw [W.2 (by omega),aL])) (fun _=>?_))
 obtain ⟨PA,NA,pn,pc,nn,nc,ps,ns,g1,g2,L,p2,hb,rfl,E,o,dp,Z,hv,D,F,aa⟩:=S
 have ad:=C1 (B:=b64) (by decide) dp
 have ae:=C1 (B:=b64) (by decide) Z
 have ab:b64^N1<=b64^N:=D3 (by decide) hN1
 have z:(aC ⟨b,0,none⟩ 0)=⟨b,0,none⟩:=T4 b 0 0
 have e1:(aC ⟨b,0,none⟩ 1)=⟨b,1,none⟩:=T4 b 0 1
 refine Br.of (fun G=>?_) (fun G=>?_)
 ·have H:x*y= -((x.natAbs:Int)*(y.natAbs:Int)):=by
   rcases c1 with ⟨rfl,h1⟩|⟨rfl,h1⟩<;>rcases c2 with ⟨rfl,h2⟩|⟨rfl,h2⟩
   ·simp at G
   ·conv=>lhs;rw [h1,h2]
    rw [Int.neg_mul]
   ·conv=>lhs;rw [h1,h2]
    rw [Int.mul_neg]
   ·simp at G
  refine ⟨_,rfl,_,_,_,by rw [e1,D7];rfl,?_⟩
  refine FCall.frame (K:=fun r hp=>∃ (TA':Option aH) (c d:Nat) (a:List Int) (g':aD),r= .slice TA' c d/\g1.le g'/\Pw hp g' TA' c d a/\c=a.length/\Dig b64 a/\val b64 a=val b64 ns+(x.natAbs:Int)*(y.natAbs:Int)/\c<=N) hb (Ga (N:=N) p2 o Z (i.mag.mono L.le) (j.mag.mono L.le) i.cap j.cap F hab hN2 (by omega) (fun TA' c d a h' g' u p m w k l=>⟨TA',c,d,a,g',rfl,u,p,m,w,k,l⟩)) ?_
  ·rintro r O q ⟨TA',c,d,a,g',rfl,u,p,m,w,k,l⟩
   refine ⟨_,_,_,rfl,_,rfl,?_⟩
   rw [e1]
   refine Jm Gu.1 Gu.2 rfl rfl (by simp) ?_
   obtain ⟨T,V,X⟩:=L.after u
   refine hK _ T V ⟨PA,TA',pn,pc,c,d,ps,a,g',O,X,p,q,rfl,E,m,dp,w,?_,D,l,?_⟩
   ·rw [k,hv,H];omega
   ·rw [k,C];omega
 ·have J:x*y=(x.natAbs:Int)*(y.natAbs:Int):=by
   rcases c1 with ⟨rfl,h1⟩|⟨rfl,h1⟩<;>rcases c2 with ⟨rfl,h2⟩|⟨rfl,h2⟩
   ·conv=>lhs;rw [h1,h2]
    rw [Int.neg_mul_neg]
   ·simp at G
   ·simp at G
   ·conv=>lhs;rw [h1,h2]
  obtain ⟨g4,p4,R⟩:=p2.swap L
  refine ⟨_,rfl,_,_,_,by rw [z,D7];rfl,?_⟩
  refine FCall.frame (K:=fun r hp=>∃ (TA':Option aH) (c d:Nat) (a:List Int) (g':aD),r= .slice TA' c d/\g4.le g'/\Pw hp g' TA' c d a/\c=a.length/\Dig b64 a/\val b64 a=val b64 ps+(x.natAbs:Int)*(y.natAbs:Int)/\c<=N) hb (Ga (N:=N) p4 E dp (i.mag.mono R.le) (j.mag.mono R.le) i.cap j.cap D hab hN2 (by omega) (fun TA' c d a h' g' u p m w k l=>⟨TA',c,d,a,g',rfl,u,p,m,w,k,l⟩)) ?_
  ·rintro r O q ⟨TA',c,d,a,g',rfl,u,p,m,w,k,l⟩
   refine ⟨_,_,_,rfl,_,rfl,?_⟩
   rw [z]
   refine Jm Gu.1 Gu.2 rfl rfl (by simp) ?_
   obtain ⟨T,V,X⟩:=R.after u
   obtain ⟨g6,p6,p7⟩:=p.swap X
   refine hK _ T V ⟨TA',NA,c,d,nn,nc,a,ns,g6,O,p7,p6,q,rfl,m,o,w,Z,?_,l,F,?_⟩
   ·rw [k,hv,J];omega
   ·rw [k,C];omega
def Az{XA YA:Option aH}{xn xc yn yc:Nat}(ma:Mw h XA xn x)(mb:Mw h YA yn y)(hyx:y<=x)(hl:xn<=1000000000)(hK:∀ A' m c' h',h.le h'->m<=c'->Mw h' A' m (x-y)->K (.slice A' m c') h'):aV prog O7 #[.slice XA xn xc,.slice YA yn yc] h K:=by
 have j:yn<=xn:=mb.len_le (by decide) (Int.lt_of_le_of_lt hyx (ma.lt (by decide)))
 obtain ⟨xs,c,s,k,C,rfl⟩:=ma
 obtain ⟨z,a,q,l,A,rfl⟩:=mb
 refine Kz _ _ _ _ _ _ ?_
 unfold Gd
 refine P2 K9 (by omega) (by omega) (by omega) ?_
 intro b n
 rw [aI]
 refine ⟨_,_,_,rfl,?_⟩
 have w:=Win.blk .u64 B7 n (aU xn 0)
 refine Ay K9 w (by simp) (s.mono w.le) c (by simp;omega) ?_
 intro B g
 refine ⟨_,rfl,?_⟩
 rw [List.drop_of_length_le (by simp;omega),List.append_nil] at g
 refine Co g c q a k l (by omega) hyx (by omega) ?_
 intro zs u o e d i
 refine ⟨rfl,?_⟩
 refine Z4 i.sl e (by omega) d (Nat.le_refl _) (by omega) ?_
 intro m p r
 exact ⟨_,_,_,rfl,hK _ _ _ _ i.le p r⟩
def Vw{b:Nat}{e:aO}{N:Nat}{M v:Int}(S:SumS h g b e N M v)(hN2:N<=400000000)(hK:∀ s A n c h',h.le h'->ZI h' s A n c v->K (.agg #[.bool s,.slice A n c]) h'):aV prog Xb #[.pointer (some ⟨b,0,none⟩)] h K:=by
 obtain ⟨PA,NA,z,m,w,B,k,i,g1,F,E,u,T,rfl,q,p,dp,dn,hv,Q,R,D⟩:=S
 have J:(aC ⟨b,0,none⟩ 0)=⟨b,0,none⟩:=T4 b 0 0
 have Z:(aC ⟨b,0,none⟩ 1)=⟨b,1,none⟩:=T4 b 0 1
 have C:=Heap.le_put (.cells #[.slice PA z m,.slice NA w B] e) T
 refine A9n _ ?_
 unfold B3y
 refine ⟨_,rfl,_,_,_,by rw [J,D7];rfl,_,rfl,_,_,_,by rw [Z,D7];rfl,?_⟩
 have sp:SlI .u64 (F.put b (.cells #[.slice PA z m,.slice NA w B] e)) PA k:=SlI.mono C (SlI.mono u.le E.slV)
 have O:SlI .u64 (F.put b (.cells #[.slice PA z m,.slice NA w B] e)) NA i:=SlI.mono C u.slV
 refine Z4 sp dp q rfl E.2.1 (by omega) ?_
 intro m1 H M1
 refine ⟨_,_,_,rfl,B0 _,?_⟩
 refine Z4 O dn p rfl u.2.1 (by omega) ?_
 intro m2 aa M2
 refine ⟨_,_,_,rfl,B0 _,?_⟩
 refine E6 M1 M2 (by omega) ⟨_,rfl,?_⟩
 refine B3 (fun j=>?_) (fun j=>?_)
 ·have a:val b64 i<=val b64 k:=by unfold Cc at j;split at j<;>omega
  refine Az M1 M2 a (by omega) ?_
  intro A3 X L V x r M3
  obtain ⟨d,l⟩:=aZ (show 0<=val b64 k-val b64 i by omega)
  rw [l] at M3
  refine ⟨_,_,_,rfl,H5 (v:=d) M3 r ?_⟩
  intro G y
  refine ⟨_,_,_,_,rfl,hK _ _ _ _ _ x ?_⟩
  rw [hv,l];exact y
 ·have a:val b64 k<=val b64 i:=by
   unfold Cc at j
   by_cases W:val b64 k<val b64 i
   ·omega
   ·rw [iN W] at j;split at j<;>omega
  refine Az M2 M1 a (by omega) ?_
  intro A3 X L V x r M3
  obtain ⟨d,l⟩:=aZ (show 0<=val b64 i-val b64 k by omega)
  rw [l] at M3
  refine ⟨_,_,_,rfl,H5 (v:=d) M3 r ?_⟩
  intro G y
  refine ⟨_,_,_,_,rfl,hK _ _ _ _ _ x ?_⟩
  have o:v= -(d:Int):=by omega
  rw [o];exact y
def A65(gl:Gtz h)(i:ZI h s A an ac x)(j:ZI h s' B bn bc y)(hx:ZB m x)(hy:ZB m y)(hm:m<=6400000000)(hK:∀ A' n' c' h',h.le h'->ZI h' false A' n' c' (Int.lcm x y:Int)->K (.agg #[.bool false,.slice A' n' c']) h'):aV prog A83 #[.agg #[.bool s,.slice A an ac],.agg #[.bool s',.slice B bn bc]] h K:=by
 have b:=i.zeroIff
 have c:=j.zeroIff
 have g:=i.len hx hm
 have a:=j.len hy hm
 refine B5z _ _ _ _ _ _ _ _ ?_
 unfold C25
 refine E7 (fun o=>?_) (fun D=>E7 (fun o=>?_) (fun p=>?_))
 ·refine hK none 0 0 h (B0 _) ?_
  rw [b.2 (by omega),Int.lcm_zero_left];exact ZI.zero
 ·refine hK none 0 0 h (B0 _) ?_
  rw [c.2 (by omega),Int.lcm_zero_right];exact ZI.zero
 ·have F:x≠0:=fun e=>D (by have:=b.1 e;omega)
  have n:y≠0:=fun e=>p (by have:=c.1 e;omega)
  refine Kc gl i.mag j.mag i.cap j.cap g a ?_
  intro A3 C L T d u M3
  refine ⟨_,_,_,rfl,d,?_⟩
  rw [Int.gcd_natCast_natCast] at M3
  have J:Nat.gcd x.natAbs y.natAbs≠0:=fun e=>by
   have:=Nat.eq_zero_of_gcd_eq_zero_left e
   omega
  have r:C<=100000000:=by
   refine bA (M3.len_le (by decide) (j:=bn) ?_) a
   have z:=j.mag.lt (by decide)
   have l:Nat.gcd x.natAbs y.natAbs<=y.natAbs:=Nat.gcd_le_right _ (by omega)
   omega
  refine Q7 (j.mag.mono d) M3 j.cap u (by omega) (by omega) (by omega) ?_
  intro A4 G O A5 V S W k E M M4 M5
  refine ⟨_,_,_,_,_,_,rfl,k,?_⟩
  rw [<- Int.natCast_ediv] at M4
  have H:G<=100000000:=by
   refine bA (M4.len_le (by decide) (j:=bn) ?_) a
   have z:=j.mag.lt (by decide)
   have l:=Nat.div_le_self y.natAbs (Nat.gcd x.natAbs y.natAbs)
   omega
  refine D9 (i.mag.mono (Heap.le_trans d k)) M4 i.cap E (by omega) (by omega) ?_
  intro A6 N Q R w q M6
  refine ⟨_,_,_,rfl,hK _ _ _ _ (Heap.le_trans d (Heap.le_trans k w)) ⟨q,?_,?_⟩⟩
  ·rw [aN]
   rw [<- Int.natCast_mul] at M6
   have:Int.lcm x y=x.natAbs*(y.natAbs/Nat.gcd x.natAbs y.natAbs):=by
    show bB x.natAbs y.natAbs=_
    rw [bB,Nat.mul_div_assoc _ (Nat.gcd_dvd_right _ _)]
   rw [this];exact M6
  ·symm;rw [decide_eq_false_iff_not];omega
end
abbrev RQr:aD->QV->Rat->Prop:=fun h w q=>RQ h w q
abbrev NQr:aD->QV->Rat->Prop:=fun h w q=>NQ h w q
abbrev ZIr:aD->IV->Int->Prop:=fun h w z=>ZI h w.s w.A w.n w.c z
abbrev SSr:aD->List UInt8->List UInt8->Prop:=fun _ w s=>w=s
def Mon{α β:Type}(R:aD->α->β->Prop):Prop:=∀ (h h':aD) (w:α) (x:β),h.le h'->R h w x->R h' w x
def A4y:Mon RQr:=fun _ _ _ _ a i=>⟨i.num.mono a,i.den.mono a⟩
def Qf:Mon ZIr:=fun _ _ _ _ a i=>i.mono a
def A4x:Mon SSr:=fun _ _ _ _ _ i=>i
instance:Enc QV:=⟨⟨fun w=>[.bool w.s,.slice w.A w.n w.c,.bool w.s2,.slice w.A2 w.n2 w.c2],4,fun _=>rfl,fun w v hv=>by simp at hv;rcases hv with rfl|rfl|rfl|rfl<;>rfl⟩⟩
section
variable {α β:Type}
def Row(R:aD->α->β->Prop)(g:aD)(xs:List α)(n:Nat)(f:Nat->β):Prop:=∀ i,i<n->∃ w,xs[i]? = some w/\R g w (f i)
variable {R:aD->α->β->Prop} {g g' h h':aD} {xs:List α} {n:Nat} {f:Nat->β}
def Row.mono(m:Mon R)(hl:g.le g')(r:Row R g xs n f):Row R g' xs n f:=fun i a=>by
 obtain ⟨w,e,b⟩:=r i a
 exact ⟨w,e,m _ _ _ _ hl b⟩
def Row.nil:Row R g xs 0 f:=fun i a=>by omega
def Row.set{k:Nat}(r:Row R g xs k f)(hk:k<xs.length){w:α}(hw:R g w (f k)):Row R g (xs.set k w) (k+1) f:=fun i c=>by
 by_cases e:i=k
 ·subst e;exact ⟨w,by rw [bD hk],hw⟩
 ·obtain ⟨u,a,b⟩:=r i (by omega)
  exact ⟨u,by rw [List.getElem?_set_ne (fun x=>e x.symm)];exact a,b⟩
def Row.upd(r:Row R g xs n f){k:Nat}(hk:k<xs.length){w:α}{y:β}(hw:R g w y):Row R g (xs.set k w) n (fun i=>if i=k then y else f i):=fun i b=>by
 by_cases e:i=k
 ·subst e;exact ⟨w,by rw [bD hk],by show R g w (if i=i then y else f i);rw [iP rfl];exact hw⟩
 ·obtain ⟨u,a,c⟩:=r i b
  exact ⟨u,by rw [List.getElem?_set_ne (fun x=>e x.symm)];exact a,by show R g u (if i=k then y else f i);rw [iN e];exact c⟩
def Row.push(r:Row R g xs xs.length f){w:α}(hw:R g w (f xs.length)):Row R g (xs++[w]) (xs++[w]).length f:=fun i a=>by
 rw [aM] at a
 by_cases e:i=xs.length
 ·subst e;exact ⟨w,by simp,hw⟩
 ·obtain ⟨u,b,c⟩:=r i (by simp at a;omega)
  exact ⟨u,by rw [List.getElem?_append_left (by simp at a;omega)];exact b,c⟩
def Row.congr{f':Nat->β}(r:Row R g xs n f)(h:∀ i,i<n->f i=f' i):Row R g xs n f':=fun i a=>by
 obtain ⟨w,e,b⟩:=r i a
 exact ⟨w,e,by rw [<- h i a];exact b⟩
def Row.get(r:Row R g xs n f){i:Nat}(hi:i<n)(hl:i<xs.length):R g xs[i] (f i):=by
 obtain ⟨w,e,a⟩:=r i hi
 rw [List.getElem?_eq_getElem hl] at e
 cases e;exact a
variable [E:Enc α]
def RowV(R:aD->α->β->Prop)(h:aD)(A:Option aH)(n:Nat)(f:Nat->β):Prop:=∃ xs:List α,SlF h A xs/\xs.length=n/\Row R h xs n f
def RowV.mono(m:Mon R){A:Option aH}(hl:h.le h')(r:RowV R h A n f):RowV R h' A n f:=by
 obtain ⟨xs,s,e,r⟩:=r
 exact ⟨xs,s.mono hl,e,r.mono m hl⟩
def RowV.nil{A:Option aH}:RowV R h A 0 f:=⟨[],SlF.nil,rfl,Row.nil⟩
def RowV.at(pos:0<E.default.size){A:Option aH}(r:RowV R h A n f){i:Nat}(hi:i<n):∃ a w,A=some a/\R h w (f i)/\∀ j v,(enc w)[j]? = some v->h.cell? (aC (aC a (i*E.default.size)) j)=some v:=by
 obtain ⟨xs,s,e,r⟩:=r
 obtain ⟨a,b,c⟩:=SlF.at pos s (i:=i) (by omega)
 exact ⟨a,xs[i],b,r.get hi (by omega),c⟩
structure Own (R:aD->α->β->Prop) (h h':aD) (b n:Nat) (f:Nat->β):Prop where
 ex:∃ g o xs,h.le g/\Sep h' g o/\RowX o b xs/\xs.length=n/\Row R g xs n f
def Own.le{b:Nat}(w:Own R h h' b n f):h.le h':=by
 obtain ⟨g,o,xs,l,s,_⟩:=w.ex
 exact Heap.le_trans l s.le
def Own.vis(m:Mon R){b:Nat}(w:Own R h h' b n f):RowV R h' (some ⟨b,0,none⟩) n f:=by
 obtain ⟨g,o,xs,l,s,r,e,q⟩:=w.ex
 exact ⟨xs,r.rowB.slF s.ole,e,q.mono m s.le⟩
end
section
variable {h:aD} {A:Option aH} {n:Nat}
def RowV.qat{R:aD->QV->Rat->Prop}{f:Nat->Rat}(r:RowV R h A n f){i:Nat}(hi:i<n):∃ a w,A=some a/\R h w (f i)/\h.cell? (aC (aC a (i*4)) 0)=some (.bool w.s)/\h.cell? (aC (aC a (i*4)) 1)=some (.slice w.A w.n w.c)/\h.cell? (aC (aC a (i*4)) 2)=some (.bool w.s2)/\h.cell? (aC (aC a (i*4)) 3)=some (.slice w.A2 w.n2 w.c2):=by
 obtain ⟨a,w,e,d,b⟩:=r.at (by decide) hi
 exact ⟨a,w,e,d,b 0 _ rfl,b 1 _ rfl,b 2 _ rfl,b 3 _ rfl⟩
def RowV.zat{f:Nat->Int}(r:RowV ZIr h A n f){i:Nat}(hi:i<n):∃ a w,A=some a/\ZIr h w (f i)/\h.cell? (aC (aC a (i*2)) 0)=some (.bool w.s)/\h.cell? (aC (aC a (i*2)) 1)=some (.slice w.A w.n w.c):=by
 obtain ⟨a,w,e,d,b⟩:=r.at (by decide) hi
 exact ⟨a,w,e,d,b 0 _ rfl,b 1 _ rfl⟩
def RowV.sat{f:Nat->List UInt8}(r:RowV SSr h A n f){i:Nat}(hi:i<n):∃ a,A=some a/\h.cell? (aC a (i*1))=some (.string (bs (f i))):=by
 obtain ⟨a,w,e,c,d⟩:=r.at (by decide) hi
 have b:w=f i:=c
 subst b
 refine ⟨a,e,?_⟩
 have:=d 0 _ rfl
 rw [Rr] at this
 exact this
end
end Go.Proofs.YtmbfcbbkbefgfaaGreatDoor
namespace Go.Proofs.YtmbfcbbkbefgfaaGreatDoor
set_option maxRecDepth 20000
def sm:Nat->(Nat->Rat)->Rat
 | 0,_=>0
 | n+1,f=>sm n f+f n
def rhx(l i:Nat):Nat:=if i<l then i else i+1
def sg(n:Nat):Rat:=if n%2=0 then 1 else -1
def dt:Nat->(Nat->Nat->Rat)->Rat
 | 0,_=>1
 | k+1,X=>sm (k+1) fun l=>sg (k+l)*X k l*dt k (fun c r=>X c (rhx l r))
def rc(X:Nat->Nat->Rat)(m:Nat)(y:Nat->Rat):Nat->Nat->Rat:=fun c r=>if c=m then y r else X c r
def Wh(q:Rat):Prop:=∃ z:Int,q=(z:Rat)
structure Elim (n w:Nat) (B R:Nat->Nat->Rat) (cs:Nat->Nat) (k:Nat):Prop where
 kn:k<=n
 cw:∀ m,m<k->cs m<w
 piv:∀ l m,l<k->m<k->R l (cs m)=if l=m then 1 else 0
 low:∀ i m,i<n->k<=i->m<k->R i (cs m)=0
 top:∀ l j,l<k->j<w->B l j=sm k fun m=>B l (cs m)*R m j
 bot:∀ i j,i<n->k<=i->j<w->B i j=R i j+sm k fun m=>B i (cs m)*R m j
def dp(B:Nat->Nat->Rat)(cs:Nat->Nat)(k:Nat):Rat:=dt k fun c r=>B r (cs c)
section
variable {n w:Nat} {B R:Nat->Nat->Rat} {cs:Nat->Nat} {k:Nat}
end
end Go.Proofs.YtmbfcbbkbefgfaaGreatDoor
namespace Go.Proofs.YtmbfcbbkbefgfaaGreatDoor
set_option maxRecDepth 20000
structure ES where
 R:Nat->Nat->Rat
 cs:List Nat
 det:Rat
structure PS where
 M:Nat->Nat->Int
 S:Nat->Rat
 cs:List Nat
 last:Int
 sgn:Int
def pr:Nat->(Nat->Rat)->Rat
 | 0,_=>1
 | n+1,f=>pr n f*f n
structure ERel (n w c:Nat) (A:Nat->Nat->Rat) (s:ES) (t:PS):Prop where
 cs:s.cs=t.cs
 elim:∃ B,(∀ i j,i<n->j<w->Wh (B i j))/\Elim n w B (fun i j=>if i<s.cs.length then s.R i j else t.S i*s.R i j) (fun m=>s.cs.getD m 0) s.cs.length/\(t.last:Rat)=dp B (fun m=>s.cs.getD m 0) s.cs.length
 last:t.last≠0
 val:∀ i j,i<n->j<w->(t.M i j:Rat)=t.last*(if i<s.cs.length then s.R i j else t.S i*s.R i j)
 scale:∀ i,i<n->t.S i≠0
 zero:∀ i j,i<n->s.cs.length<=i->j<c->s.R i j=0
 asc:s.cs.length<=c
 det:s.cs.length=c->s.det*pr s.cs.length t.S=t.sgn*t.last
 miss:s.cs.length<c->s.cs.length<n->s.det=0
 sgn:t.sgn=1\/t.sgn= -1
def Tw{z:Int}(h:z≠0):(z:Rat)≠0:=by
 intro e
 exact h (by exact_mod_cast e)
end Go.Proofs.YtmbfcbbkbefgfaaGreatDoor
namespace Go.Proofs.YtmbfcbbkbefgfaaGreatDoor
set_option maxRecDepth 20000
structure SzE (n w m:Nat) (s:ES):Prop where
 R:∀ a b,a<n->b<w->Sz (7^s.cs.length*m) (s.R a b)
 det:Sz (7^s.cs.length*m) s.det
 len:s.cs.length<=n
structure ZbP (n w m l:Nat) (s:PS):Prop where
 M:∀ a b,a<n->b<w->ZB (3^s.cs.length*m) (s.M a b)
 last:ZB (3^s.cs.length*m) s.last
 S:∀ a,a<n->Sz l (s.S a)
 len:s.cs.length<=n
structure Asc (l:List Nat) (c:Nat):Prop where
 lt:∀ x∈l,x<c
 asc:l.Pairwise (· < ·)
def B0k(z:Int)(l:List Value):iAt (I z::l) 0=z:=rfl
def Yy:prog.cellsOf Fa=4/\(prog.info? Fa).isSome=true:=B11
section
variable {α β:Type} [E:Enc α] {R:aD->α->β->Prop}
def OwnK(R:aD->α->β->Prop)(h h':aD)(b n k:Nat)(f:Nat->β):Prop:=∃ g o xs,h.le g/\Sep h' g o/\RowX o b xs/\xs.length=n/\Row R g xs k f
def OwnK.zero{h:aD}{b n:Nat}{f:Nat->β}{e:aO}{z:α}(hb:h b=none):OwnK R h (B29 e h b (aU n z)) b n 0 f:=
 ⟨h,Qc.put b (.cells ((aU n z).flatMap enc).toArray e),aU n z,B0 _,Hi hb,RowX.mk,by simp,Row.nil⟩
def OwnK.store(m:Mon R){P:Program}{t:aO}(one:P.cellsOf t=E.default.size/\(P.info? t).isSome=true){h h' g g' o:aD}{b n k:Nat}{f:Nat->β}{xs:List α}(lg:h.le g)(lg':g.le g')(s:Sep h' g' o)(rb:RowX o b xs)(hn:xs.length=n)(r:Row R g xs k f)(hk:k<n){v:Value}{y:α}(hv:v.cells=(enc y).toArray)(hy:R g' y (f k)){K:Unit->aD->Prop}
 (x:∀ h2,OwnK R h h2 b n (k+1) f->K () h2):wpH P (Instr.storeAt t (.pointer (some (aC ⟨b,0,none⟩ (k*E.default.size)))) v) K h':=by
 refine Ak one hv s rb (by omega) ?_
 intro h2 c i e d a
 exact x h2 ⟨g',c,_,Heap.le_trans lg lg',d,a,by simpa using hn,(r.mono m lg').set (by omega) hy⟩
end
def B6y:QV:=⟨false,none,0,0,false,none,0,0⟩
section
variable {h:aD} {K:VP} {A:Option aH} {n c m:Nat} {ls:Nat->List UInt8} {f:Nat->Rat} {a w:QV} {q:Rat}
def Nl(gl:Gl h)(r:RowV SSr h A n ls)(hn:n<=1000000)(hl:LL n ls)
 (hK1:(∀ i,i<n->IsNum (ls i))->∀ b h',Own RQr h h' b n (fun i=>rv (ls i))->K (.tuple #[.slice (some ⟨b,0,none⟩) n n,.bool true]) h')
 (hK0:¬ (∀ i,i<n->IsNum (ls i))->∀ h',h.le h'->K (.tuple #[.slice none 0 0,.bool false]) h'):aV prog Md #[.slice A n c] h K:=by
 refine A2u _ _ _ ?_
 unfold A48
 refine Bj C1l (zx:=B6y) rfl (by omega) (by omega) (by omega) (by omega) ?_
 intro b N
 refine ⟨_,_,_,rfl,fun L B=>∃ k:Nat,k<=n/\L=[I k]/\(∀ i,i<k->IsNum (ls i))/\OwnK RQr h B b n k (fun i=>rv (ls i)),fun L _=>n-(iAt L 0).toNat,⟨0,by omega,rfl,fun i Q=>by omega,OwnK.zero N⟩,?_⟩
 rintro t B ⟨k,V,H,j,g,o,xs,l,s,E,F,D⟩
 obtain rfl:=sI1 H
 refine B3 (fun x=>?_) (fun J=>?_)
 ·have d:k<n:=by omega
  obtain ⟨a,rfl,R⟩:=(r.mono A4x (Heap.le_trans l s.le)).sat d
  refine ⟨a,rfl,by omega,by omega,_,R,?_⟩
  refine s.call (Gx (gl.mono l).tz (hl k d) ?_ ?_)
  ·intro q e w G z M C u
   refine ⟨_,_,_,_,_,_,_,_,_,rfl,_,rfl,by omega,by simpa using x,?_⟩
   refine OwnK.store A4y Yy (y:=w) l z u E F D d rfl (by show RQ G w (rv (ls k));rw [e,C3];exact M) ?_
   intro T S
   rw [wiS k (by omega)]
   refine ⟨⟨k+1,by omega,rfl,fun i Q=>?_,S⟩,?_⟩
   ·by_cases O:i=k
    ·subst O;exact ⟨q,e⟩
    ·exact j i (by omega)
   ·simp only [B0k];omega
  ·intro p w G z _ C u
   exact ⟨_,_,_,_,_,_,_,_,_,rfl,hK0 (fun m=>p (m k d)) C (Heap.le_trans l (Heap.le_trans z u.le))⟩
 ·have:k=n:=by omega
  subst this
  exact hK1 j b B ⟨g,o,xs,l,s,E,F,D⟩
def Zp(f:Nat->Rat):Nat->Nat
 | 0=>1
 | n+1=>bB (Zp f n) (f n).den
def B1n(f:Nat->Rat):∀ n,0<Zp f n:=by
 intro n
 induction n with
 | zero=>exact Nat.one_pos
 | succ n ih=>exact Nat.lcm_pos ih (f n).den_pos
def B1o(f:Nat->Rat):∀ n i,i<n->(f i).den∣Zp f n:=by
 intro n
 induction n with
 | zero=>intro i h;omega
 | succ n ih=>
  intro i a
  by_cases e:i=n
  ·subst e;exact Nat.dvd_lcm_right _ _
  ·exact Nat.dvd_trans (ih i (by omega)) (Nat.dvd_lcm_left _ _)
def ZB.lcm{k j:Nat}{x y:Nat}(hx:ZB k (x:Int))(hy:ZB j (y:Int)):ZB (k+j) ((bB x y:Nat):Int):=by
 have:=hx.mul hy
 unfold ZB at *
 rw [aN]
 rw [Int.natAbs_mul,aN,aN] at this
 refine Nat.lt_of_le_of_lt ?_ this
 unfold bB
 exact Nat.div_le_self _ _
def A7s{f:Nat->Rat}{m:Nat}: ∀ n,(∀ i,i<n->Sz m (f i))->ZB (1+n*m) (Zp f n:Int):=by
 intro n
 induction n with
 | zero=>intro _;exact ZB.one (by omega)
 | succ n ih=>
  intro h
  have:=(ih fun i a=>h i (by omega)).lcm (h n (by omega)).den
  exact this.mono (by rw [Nat.add_mul,Nat.one_mul];omega)
def Sy(gl:Gl h)(r:RowV RQr h A n f)(hn:n<=1000000)(hs:∀ i,i<n->Sz m (f i))(hm:1+n*m+m<=6400000000)
 (hK:∀ s A' n' c' h',h.le h'->ZI h' s A' n' c' (Zp f n:Int)->K (.agg #[.bool s,.slice A' n' c']) h'):aV prog P7 #[.slice A n c] h K:=by
 refine Gi _ _ _ ?_
 unfold Bw
 refine Pl (by omega) (by omega) ?_
 intro s1 A1 n1 c1 z Z T
 refine ⟨_,_,_,_,rfl,fun L q=>∃ (k:Nat) (s:Bool) (B:Option aH) (p u:Nat),k<=n/\L=[I k,.bool s,.slice B p u]/\h.le q/\ZI q s B p u (Zp f k:Int),fun L _=>n-(iAt L 0).toNat,⟨0,_,_,_,_,by omega,rfl,Z,T⟩,?_⟩
 rintro t s B p u q ⟨k,C,B',o,j,hk,F,l,i⟩
 simp only [aF,aT,Value.bool.injEq,aG,true_and,and_true] at F
 obtain ⟨rfl,rfl,rfl,rfl,rfl⟩:=F
 have H:B4 ((k:Int)+1)=((k+1:Nat):Int):=by rw [B5]<;>omega
 refine B3 (fun V=>?_) (fun R=>?_)
 ·have x:k<n:=by omega
  obtain ⟨a,w,rfl,G,X,O,N,S⟩:=(r.mono A4y l).qat x
  have aa:1+k*m<=6400000000:=by
   have:k*m<=n*m:=Nat.mul_le_mul_right _ (by omega)
   omega
  have g:1+k*m+m<=6400000000:=by
   have:k*m<=n*m:=Nat.mul_le_mul_right _ (by omega)
   omega
  have bz:=(A7s k fun i hi=>hs i (by omega)).mono (show 1+k*m<=1+k*m+m by omega)
  have M:=(hs k x).den.mono (show m<=1+k*m+m by omega)
  refine ⟨_,rfl,by omega,by omega,_,_,_,_,_,_,_,_,X,O,N,S,?_⟩
  refine I3 G.den ⟨_,rfl,?_⟩
  have y:((if (f k).den=1 then 0 else ((f k).den:Int))=0)↔(f k).den=1:=by
   have:=(f k).den_pos
   split<;>omega
  have d:Zp f (k+1)=Zp f k->(∃ (k':Nat) (C:Bool) (B':Option aH) (o j:Nat),k'<=n/\[I (B4 ((k:Int)+1)),.bool s,.slice B p u]=[I k',.bool C,.slice B' o j]/\h.le q/\ZI q C B' o j (Zp f k':Int))/\n-(iAt [I (B4 ((k:Int)+1)),.bool s,.slice B p u] 0).toNat<n-(iAt [I (k:Int),.bool s,.slice B p u] 0).toNat:=by
   intro e
   rw [H]
   exact ⟨⟨k+1,_,_,_,_,by omega,rfl,l,by rw [e];exact i⟩,by simp only [B0k];omega⟩
  refine T6 (B3 (fun z=>?_) (fun z=>?_))
  ·have D:=y.1 z
   exact d (by rw [Zp,D];exact Nat.lcm_one_right _)
  ·have D:(if (f k).den=1 then 0 else ((f k).den:Int))=((f k).den:Int):=iN fun e=>z (y.2 e)
   have b:=G.den
   rw [D] at b
   refine A18 b i M g ⟨_,rfl,?_⟩
   refine T6 (B3 (fun E=>?_) (fun E=>?_))
   ·have Q:(f k).den=Zp f k:=by exact_mod_cast E
    exact d (by rw [Zp,Q];exact Nat.lcm_self _)
   ·refine A65 (gl.mono l).tz i b bz M g ?_
    intro A' n' c' h' W J
    refine ⟨_,_,_,_,rfl,?_⟩
    rw [H]
    refine ⟨⟨k+1,_,_,_,_,by omega,rfl,Heap.le_trans l W,?_⟩,by simp only [B0k];omega⟩
    have:Int.lcm (Zp f k:Int) ((f k).den:Int)=Zp f (k+1):=by simp [Int.lcm,Zp]
    rw [this] at J;exact J
 ·have:k=n:=by omega
  subst this
  exact hK _ _ _ _ q l i
def scl(q:Rat)(d:Int):Int:=q.num*d.tdiv q.den
def A7k(q:Rat):q*(q.den:Rat)=(q.num:Rat):=by
 have h:=Rat.num_divInt_den q
 rw [Rat.divInt_eq_div] at h
 have a:((q.den:Int):Rat)≠0:=Tw (den_ne q)
 have e:((q.den:Int):Rat)=(q.den:Rat):=rfl
 rw [<- e]
 calc q*((q.den:Int):Rat)=(q.num:Rat)/((q.den:Int):Rat)*((q.den:Int):Rat):=by rw [h]
  _=q.num:=Rat.div_mul_cancel a
def B7i{q:Rat}{d:Int}(h:(q.den:Int)∣d):(scl q d:Rat)=q*d:=by
 obtain ⟨e,rfl⟩:=h
 unfold scl
 rw [Int.mul_tdiv_cancel_left _ (den_ne q),Rat.intCast_mul,Rat.intCast_mul]
 have b:q*(q.den:Rat)=(q.num:Rat):=A7k q
 have a:(((q.den:Nat):Int):Rat)=(q.den:Rat):=rfl
 rw [a,<- b,Rat.mul_assoc]
def B7h{q:Rat}{d:Int}{k:Nat}(hq:Sz m q)(hd:ZB k d):ZB (m+k) (scl q d):=hq.num.mul hd.tdiv
def A1o{s:Bool}{B:Option aH}{bn bc:Nat}{d:Int}(i:RQ h w q)(j:ZI h s B bn bc d)(hq:Sz m q)(hd:ZB m d)(hm:m<=6400000000)
 (hK:∀ s A' n' c' h',h.le h'->ZI h' s A' n' c' (scl q d)->K (.agg #[.bool s,.slice A' n' c']) h'):aV prog Qw #[w.v,.agg #[.bool s,.slice B bn bc]] h K:=by
 refine A5p _ _ _ _ _ _ _ _ _ _ _ _ ?_
 unfold A9p
 refine I3 i.den ⟨_,rfl,?_⟩
 have b:((if q.den=1 then 0 else (q.den:Int))=0)↔q.den=1:=by
  have:=q.den_pos
  split<;>omega
 refine B3 (fun k=>?_) (fun k=>?_)
 ·have g:=b.1 k
  refine G9 i.num j hq.num hd hm ?_
  intro p A' n' c' h' r o
  refine ⟨_,_,_,_,rfl,hK _ _ _ _ _ r ?_⟩
  have:scl q d=q.num*d:=by unfold scl;rw [g];simp
  rw [this];exact o
 ·have g:(if q.den=1 then 0 else (q.den:Int))=(q.den:Int):=iN fun e=>k (b.2 e)
  have a:=i.den
  rw [g] at a
  refine R9 j a hd hq.den hm (den_ne q) ?_
  intro p A1 y c1 u c n
  refine ⟨_,_,_,_,rfl,c,?_⟩
  refine G9 (i.num.mono c) n hq.num hd.tdiv hm ?_
  intro A A2 C c2 z l x
  exact ⟨_,_,_,_,rfl,l,hK _ _ _ _ _ (Heap.le_trans c l) x⟩
end
instance:Enc Int:=⟨⟨fun z=>[I z],1,fun _=>rfl,fun z v hv=>by rw [List.mem_singleton.1 hv];rfl⟩⟩
abbrev IIr:aD->Int->Int->Prop:=fun _ w z=>w=z
section
variable {α:Type} [E:Enc α]
def OwnSl(o:aD)(e:aO)(A:Option aH)(c:Nat)(xs:List α):Prop:=
 xs.length<=c/\((c=0/\A=none)\/∃ b arr,A=some ⟨b,0,none⟩/\o b=some (.cells (bC arr) e)/\arr.length=c*E.default.size/\arr.take (xs.length*E.default.size)=xs.flatMap enc)
def OwnSl.rowB{o:aD}{e:aO}{A:Option aH}{c:Nat}{xs:List α}(w:OwnSl o e A c xs)(hne:xs≠[]):∃ b,A=some ⟨b,0,none⟩/\RowB o b xs:=by
 rcases w.2 with g|⟨b,a,i,j,k,d⟩
 ·exfalso
  have:=w.1
  have:=g.1
  have:xs.length≠0:=fun h=>hne (aE h)
  omega
 ·exact ⟨b,i,e,a.drop (xs.length*E.default.size),by rw [j,<- d,aJ]⟩
def OwnSl.slF{o h:aD}{e:aO}{A:Option aH}{c:Nat}{xs:List α}(w:OwnSl o e A c xs)(hl:o.le h):SlF h A xs:=by
 by_cases a:xs=[]
 ·rw [a];exact SlF.nil
 ·obtain ⟨b,rfl,r⟩:=w.rowB a
  exact r.slF hl
def OwnSl.priv{h g o:aD}{e:aO}{A:Option aH}{c:Nat}{xs:List α}(s:Sep h g o)(w:OwnSl o e A c xs):∃ gb,PrivF h gb e A c xs/\∀ k x,h k=some x->A≠some ⟨k,0,none⟩->gb k=some x:=by
 rcases w.2 with ⟨l,m⟩|⟨b,d,i,n,q,j⟩
 ·subst l
  have p:xs=[]:=aE (by have:=w.1;omega)
  subst p
  exact ⟨h,PrivF.nil h e A,fun k x e _=>e⟩
 ·refine ⟨h.without b,⟨O6 xs,w.1,.inr ⟨b,d,i,G1 _ _,(Q8 (s.own b _ n)).symm,q,j⟩⟩,fun k x e a=>?_⟩
  unfold Heap.without
  rw [iN]
  ·exact e
  ·rintro rfl;exact a i
def OwnSl.push{P:Program}{t e ty:aO}{z:Value}{bytes:Nat}(st:SliceT P t e z E.default.size bytes){h g o:aD}{A:Option aH}{c:Nat}{xs:List α}(s:Sep h g o)(w:OwnSl o e A c xs){v:Value}{y:α}(hv:v.cells=(enc y).toArray)(hsz:E.default.size<=1000)
 (hb:(2*(xs.length+1)+192)*bytes<=281474976710656) (hn:xs.length+1<=9223372036854775807) {K1:aD->Prop} {K:Option aH->Nat->Nat->aD->Prop}
 (x0:∀ h1,h.le h1->K1 h1)
 (x:∀ A' c' h' g' o',g.le g'->Sep h' g' o'->OwnSl o' e A' c' (xs++[y])->(∀ k u,o k=some u->A≠some ⟨k,0,none⟩->o' k=some u/\A'≠some ⟨k,0,none⟩)->K A' (xs.length+1) c' h'):
 wpH P (Instr.buildSlice t 1 #[(0,v)]) (fun v' hp=>∃ (B:Option aH) (m d:Nat),v'= .slice B m d/\K1 hp/\wpH P (Builtin.append_ #[t,t] ty #[.slice A xs.length c,.slice B m d]) (fun v1 hp1=>∃ (A':Option aH) (n' c':Nat),v1= .slice A' n' c'/\K A' n' c' hp1) hp) h:=by
 obtain ⟨gb,p,H⟩:=w.priv s
 refine Qi st (vs:=[v]) (fun u hu=>by rw [List.mem_singleton.1 hu,hv];simp [E.default.len]) rfl (by simp;omega) rfl ?_
 intro b j
 have S:[v].flatMap (fun v=>v.cells.toList)=[y].flatMap enc:=by simp [hv]
 rw [S]
 refine ⟨_,_,_,rfl,x0 _ (Heap.le_put _ j),?_⟩
 have p':PrivF (h.put b (.cells ([y].flatMap enc).toArray e)) (gb.put b (.cells ([y].flatMap enc).toArray e)) e A c xs:=Priv.put p j _
 refine Mt st p' (ys:=[y]) rfl (A8v e h b [y]) hb hn ?_
 intro A' c' h' g' hg hp
 refine ⟨_,_,_,rfl,?_⟩
 rw [aM]
 have J:∀ k u,h k=some u->A≠some ⟨k,0,none⟩->g' k=some u:=by
  intro k u a N
  have i:k≠b:=by rintro rfl;rw [j] at a;cases a
  exact hg k u (by rw [B6 _ _ i];exact H k u a N)
 have T:∀ k u,g k=some u->A≠some ⟨k,0,none⟩:=by
  intro k u a r
  rcases w.2 with ⟨_,W⟩|⟨l,q,n,C,_⟩
  ·rw [r] at W;cases W
  ·rw [r] at n
   simp only [Option.some.injEq,Addr.mk.injEq,and_true] at n
   subst n
   rw [s.dis k _ C] at a;cases a
 rcases hp.2.2 with ⟨aa,_⟩|⟨l,q,n,C,M,ha,ht⟩
 ·exfalso
  have:=hp.2.1
  rw [aM] at this
  simp at this
  omega
 ·subst n
  let o':aD:=fun k=>if k=l then some (.cells (bC q) e) else if A=some ⟨k,0,none⟩ then none else o k
  have Z:o' l=some (.cells (bC q) e):=by show (if l=l then _ else _)=_;rw [iP rfl]
  have Q:∀ k,k≠l->A≠some ⟨k,0,none⟩->o' k=o k:=fun k h1 F=>by show (if k=l then _ else if _ then _ else _)=_;rw [iN h1,iN F]
  have O:∀ k,k≠l->A=some ⟨k,0,none⟩->o' k=none:=fun k h1 F=>by show (if k=l then _ else if _ then _ else _)=_;rw [iN h1,iP F]
  let g2:aD:=fun k=>match o' k with|some _=>none|none=>h' k
  have gs:∀ k u,o' k=some u->g2 k=none:=fun k u a=>by show (match o' k with|some _=>none|none=>h' k)=_;rw [a]
  have gn:∀ k,o' k=none->g2 k=h' k:=fun k a=>by show (match o' k with|some _=>none|none=>h' k)=_;rw [a]
  have G:∀ k u,k≠l->g' k=some u->h' k=some u:=fun k u h1 a=>by rw [M,B6 _ _ h1];exact a
  have L:∀ k u,o k=some u->A≠some ⟨k,0,none⟩->k≠l:=by
   rintro k u a F rfl
   have:=J k u (s.own k u a) F
   rw [C] at this;cases this
  refine x _ c' h' g2 o' (fun k u a=>?_) ⟨fun k u a=>?_,fun k a=>(gn k a).symm,gs⟩ ⟨hp.2.1,.inr ⟨l,q,rfl,Z,ha,ht⟩⟩ (fun k u a F=>?_)
  ·have R:o k=none:=by
    cases ho:o k with
    | none=>rfl
    | some y=>rw [s.dis k y ho] at a;cases a
   have r:=T k u a
   have V:=J k u (s.le k u a) r
   have D:k≠l:=by rintro rfl;rw [C] at V;cases V
   rw [gn k (by rw [Q k D r];exact R)]
   exact G k u D V
  ·by_cases i:k=l
   ·subst i
    rw [Z] at a;cases a
    rw [M,B8]
   ·by_cases r:A=some ⟨k,0,none⟩
    ·rw [O k i r] at a;cases a
    ·rw [Q k i r] at a
     exact G k u i (J k u (s.own k u a) r)
  ·have i:=L k u a F
   refine ⟨by rw [Q k i F];exact a,fun X=>i ?_⟩
   simp only [Option.some.injEq,Addr.mk.injEq,and_true] at X
   exact X.symm
end
structure Tb where
 bt:Nat
 bE:Nat
 bS:Nat
 rows:Nat
 cols:Nat
 cE:Nat
 cS:Nat
structure Tab (h g o:aD) (T:Tb) (M:Nat->Nat->Int) (S:Nat->Rat):Prop where
 sep:Sep h g o
 n1:T.bt≠T.bE
 n2:T.bt≠T.bS
 n3:T.bE≠T.bS
 head:∃ e,o T.bt=some (.cells #[I T.cols,.slice (some ⟨T.bE,0,none⟩) (T.rows*T.cols) T.cE,.slice (some ⟨T.bS,0,none⟩) T.rows T.cS] e)
 elems:∃ ws:List IV,RowB o T.bE ws/\ws.length=T.rows*T.cols/\∀ i j,i<T.rows->j<T.cols->∃ w,ws[i*T.cols+j]? = some w/\ZIr g w (M i j)
 scales:∃ ss:List QV,RowB o T.bS ss/\ss.length=T.rows/\Row RQr g ss T.rows S
 cE:T.rows*T.cols<=T.cE
 cS:T.rows<=T.cS
 small:T.rows<=10000/\T.cols<=10000
 pos:0<T.cols
section
variable {h g o:aD} {T:Tb} {M:Nat->Nat->Int} {S:Nat->Rat} {K:VP} {m:Nat}
def Sep.le_le{h' g':aD}(s:Sep h g o)(s':Sep h' g' o)(l:g.le g'):h.le h':=fun k x e=>by
 cases ho:o k with
 | some y=>rw [s.own k y ho] at e;rw [s'.own k y ho];exact e
 | none=>rw [s.rest k ho] at e;rw [s'.rest k ho];exact l k x e
end
def B4y{m k:Nat}(hm:1<=m)(hk:k<4611686018427387904):(k:Int)*2^(2*m)<b64^m:=by
 have e:b64^m=(2:Int)^(2*m)*2^(62*m):=by
  have:b64=(2:Int)^64:=by decide
  rw [this,<- Int.pow_mul,<- Int.pow_add]
  congr 1;omega
 have c:(2:Int)^62<=2^(62*m):=D3 (by decide) (by omega)
 have b:(k:Int)<2^62:=by
  have:(2:Int)^62=4611686018427387904:=by decide
  rw [this];omega
 have a:(0:Int)<2^(2*m):=aP (by decide)
 rw [e,Int.mul_comm]
 exact Int.mul_lt_mul_of_pos_left (Int.lt_of_lt_of_le b c) a
section
variable {h g o:aD} {T:Tb} {M:Nat->Nat->Int} {S:Nat->Rat} {K:VP} {m:Nat}
def B13:(prog.info? Po).map (·.zero)=some (some (.agg #[.slice none 0 0,.slice none 0 0])):=by kernel_rfl
def A30{α:Type}[E:Enc α]{P:Program}{t e ty:aO}{z:Value}{bytes:Nat}(st:SliceT P t e z E.default.size bytes){h g o:aD}{A:Option aH}{c n:Nat}{xs:List α}(s:Sep h g o)(w:OwnSl o e A c xs)(hxn:n=xs.length){v:Value}{y:α}(hv:v.cells=(enc y).toArray)(hsz:E.default.size<=1000)
 (hb:(2*(xs.length+1)+192)*bytes<=281474976710656) (hn:xs.length+1<=9223372036854775807) {K:Option aH->Nat->Nat->aD->Prop}
 (x:∀ A' c' h' g' o',g.le g'->Sep h' g' o'->OwnSl o' e A' c' (xs++[y])->(∀ k u,o k=some u->A≠some ⟨k,0,none⟩->o' k=some u/\A'≠some ⟨k,0,none⟩)->K A' (xs.length+1) c' h'):
 wpH P (Instr.buildSlice t 1 #[(0,v)]) (fun v' hp=>∃ (B:Option aH) (m d:Nat),v'= .slice B m d/\wpH P (Builtin.append_ #[t,t] ty #[.slice A n c,.slice B m d]) (fun v1 hp1=>∃ (A':Option aH) (n' c':Nat),v1= .slice A' n' c'/\K A' n' c' hp1) hp) h:=by
 subst hxn
 refine Gn _ (OwnSl.push (ty:=ty) st s w hv hsz hb hn (K1:=fun _=>True) (K:=K) (fun _ _=>trivial) x) ?_
 rintro v' hp ⟨B,m,d,e,_,a⟩
 exact ⟨B,m,d,e,a⟩
abbrev zs(l:List Nat):List Int:=l.map fun (n:Nat)=>(n:Int)
end
abbrev Ivl:=List UInt8 × List UInt8
def By{X Y:Prop}(y:Y):Br (!true) X Y:=y
def Dh{X Y:Prop}(x:X):Br (!false) X Y:=x
def Wr(z:Int)(l:List Value):iAt (I z::l) 0=z:=rfl
section
variable {h:aD} {K:VP} {A B:Option aH} {ts:List J8} {vars:Int} {c:Nat}
def Al{i:Nat}(h:i<=9223372036854775806):B4 ((i:Int)+1)=((i+1:Nat):Int):=by rw [B5]<;>omega
def Qj(pa:PolyAt h A ts)(hK1:ts.length<=5->(∀ i,i<ts.length->(tm ts i).1.length<=8/\(tm ts i).2.length<=12)->K (.bool true) h)(hK0:¬ (ts.length<=5/\∀ i,i<ts.length->(tm ts i).1.length<=8/\(tm ts i).2.length<=12)->K (.bool false) h):aV prog Eb #[.agg #[I vars,.slice A ts.length c],I 5,I 8] h K:=by
 refine Tl _ _ _ _ _ _ ?_
 unfold Sk
 refine B3 (fun e=>hK0 fun x=>by omega) (fun e=>?_)
 refine ⟨fun L g=>∃ i:Nat,i<=ts.length/\L=[I (i:Int)]/\g=h/\∀ j,j<i->(tm ts j).1.length<=8/\(tm ts j).2.length<=12,fun L _=>ts.length-(iAt L 0).toNat,⟨0,by omega,rfl,rfl,fun j l=>by omega⟩,?_⟩
 rintro z g ⟨i,u,q,rfl,m⟩
 obtain rfl:=sI1 q
 refine B3 (fun n=>?_) (fun s=>hK1 (by omega) fun j l=>m j (by omega))
 have b:i<ts.length:=by omega
 obtain ⟨a,D,d,k,p,o,y⟩:=pa i b
 refine ⟨a,k,by omega,by omega,_,p,?_⟩
 rw [L7]
 refine B3 (fun e=>hK0 fun x=>by have:=(x.2 i b).1;omega) (fun B=>⟨a,k,by omega,by omega,_,_,_,o,B3 (fun e=>hK0 fun x=>by have:=(x.2 i b).2;omega) (fun w=>?_)⟩)
 rw [Al (by omega)]
 refine ⟨⟨i+1,by omega,rfl,rfl,fun j l=>?_⟩,by simp only [Wr];omega⟩
 by_cases r:j=i
 ·rw [r];exact ⟨by omega,by omega⟩
 ·exact m j (by omega)
def A7u{dg:Int}(pa:PolyAt h A ts)(hts:ts.length<=1000000)(hex:∀ i,i<ts.length->(tm ts i).2.length<=1000000)(hK1:vars<=6->(∀ i,i<ts.length->∀ j,j<(tm ts i).2.length->(tm ts i).2.getD j 0<=dg)->K (.bool true) h)(hK0:¬ (vars<=6/\∀ i,i<ts.length->∀ j,j<(tm ts i).2.length->(tm ts i).2.getD j 0<=dg)->K (.bool false) h):aV prog A2f #[.agg #[I vars,.slice A ts.length c],I 6,I dg] h K:=by
 refine B2s _ _ _ _ _ _ ?_
 unfold B93
 refine B3 (fun e=>hK0 fun x=>by omega) (fun e=>?_)
 refine ⟨fun L q=>∃ i:Nat,i<=ts.length/\L=[I (i:Int)]/\q=h/\∀ g,g<i->∀ j,j<(tm ts g).2.length->(tm ts g).2.getD j 0<=dg,fun L _=>ts.length-(iAt L 0).toNat,⟨0,by omega,rfl,rfl,fun j l=>by omega⟩,?_⟩
 rintro z q ⟨i,Q,C,rfl,u⟩
 obtain rfl:=sI1 C
 refine B3 (fun H=>?_) (fun E=>hK1 (by omega) fun j l=>u j (by omega))
 have b:i<ts.length:=by omega
 obtain ⟨a,D,d,w,M,y,J⟩:=pa i b
 have F:=hex i b
 refine ⟨fun L n=>∃ k:Nat,k<=(tm ts i).2.length/\L=[I (k:Int)]/\n=q/\∀ j,j<k->(tm ts i).2.getD j 0<=dg,fun L _=>(tm ts i).2.length-(iAt L 0).toNat,⟨0,by omega,rfl,rfl,fun j l=>by omega⟩,?_⟩
 rintro O G ⟨k,R,o,rfl,m⟩
 obtain rfl:=sI1 o
 refine ⟨a,w,by omega,by omega,_,_,_,y,B3 (fun s=>?_) (fun r=>?_)⟩
 ·refine ⟨a,w,by omega,by omega,_,_,_,y,?_⟩
  refine J.load rfl (by omega) (by omega) ?_
  rw [aI]
  refine B3 (fun e=>hK0 fun x=>by have:=x.2 i b k (by omega);omega) (fun N=>?_)
  rw [Al (by omega)]
  refine ⟨⟨k+1,by omega,rfl,rfl,fun j l=>?_⟩,by simp only [Wr];omega⟩
  by_cases p:j=k
  ·rw [p];omega
  ·exact m j (by omega)
 ·rw [Al (by omega)]
  refine ⟨⟨i+1,by omega,rfl,rfl,fun g B j l=>?_⟩,by simp only [Wr];omega⟩
  by_cases p:g=i
  ·subst p;exact m j (by omega)
  ·exact u g (by omega) j l
def Ho(l:List Ivl):Prop:=∀ x∈l,A0x x.1 x.2
def Hq{l:List Ivl}{n:Nat}(gl:Gl h)(x:SlV h A (l.flatMap G5))(hn:n=l.length)(hl:l.length<=1000000)(ht:∀ x∈l,x.1.length<=20/\x.2.length<=20)(hK1:Ho l->K (.bool true) h)(hK0:¬ Ho l->K (.bool false) h):aV prog Bn #[.slice A n c] h K:=by
 subst hn
 refine Yd _ _ _ ?_
 unfold Ve
 refine ⟨fun L o=>∃ i:Nat,i<=l.length/\L=[I (i:Int)]/\o=h/\∀ j (b:j<l.length),j<i->A0x l[j].1 l[j].2,fun L _=>l.length-(iAt L 0).toNat,⟨0,by omega,rfl,rfl,fun j _ b=>by omega⟩,?_⟩
 rintro z o ⟨i,M,E,rfl,r⟩
 obtain rfl:=sI1 E
 refine B3 (fun u=>?_) (fun J=>hK1 fun y s=>?_)
 ·have g:i<l.length:=by omega
  obtain ⟨a,w,c0,c1⟩:=Qm x g
  obtain ⟨F,G⟩:=ht _ (List.getElem_mem g)
  refine ⟨a,w,by omega,by omega,_,_,c0,c1,?_⟩
  refine N9 (m:=80) gl (W4 (k:=20) F (by omega) (by omega)) (W4 (k:=20) G (by omega) (by omega)) (by omega) (fun p q D C e=>⟨_,rfl,By ?_⟩) (fun d=>⟨_,rfl,Dh (hK0 fun x=>d (x _ (List.getElem_mem g)))⟩)
  rw [Al (by omega)]
  refine ⟨⟨i+1,by omega,rfl,rfl,fun j b H=>?_⟩,by simp only [Wr];omega⟩
  by_cases B:j=i
  ·subst B;exact ⟨p,q,D,C,e⟩
  ·exact r j b (by omega)
 ·obtain ⟨j,b,rfl⟩:=List.getElem_of_mem s
  exact r j b (by omega)
def Zy{i:Nat}(pa:PolyAt h A ts)(hts:ts.length<=1000000)(hi:∀ t,t<ts.length->i<(tm ts t).2.length)(hK:∀ most:Int,0<=most->(∀ t,t<ts.length->(tm ts t).2.getD i 0<=most)->(∀ B:Int,0<=B->(∀ t,t<ts.length->(tm ts t).2.getD i 0<=B)->most<=B)->K (I most) h):aV prog Aw #[.agg #[I vars,.slice A ts.length c],I (i:Int)] h K:=by
 refine Oy _ _ _ _ _ ?_
 unfold Lh
 refine ⟨fun L p=>∃ (k:Nat) (most:Int),k<=ts.length/\L=[I most,I (k:Int)]/\p=h/\0<=most/\(∀ t,t<k->(tm ts t).2.getD i 0<=most)/\(∀ B:Int,0<=B->(∀ t,t<k->(tm ts t).2.getD i 0<=B)->most<=B),fun L _=>ts.length-(iAt L 1).toNat,⟨0,0,by omega,rfl,rfl,by omega,fun t j=>by omega,fun B g _=>g⟩,?_⟩
 rintro m z p ⟨k,most,J,n,rfl,q,o,g⟩
 simp only [aF,aT,true_and,and_true] at n
 obtain ⟨rfl,rfl⟩:=n
 refine B3 (fun w=>?_) (fun u=>hK m q (fun t j=>o t (by omega)) fun B l e=>g B l fun t j=>e t (by omega))
 have b:k<ts.length:=by omega
 obtain ⟨a,D,d,y,r,F,E⟩:=pa k b
 have C:=hi k b
 refine ⟨a,y,by omega,by omega,_,_,_,_,r,F,?_⟩
 refine E.load rfl (by omega) (by omega) ?_
 rw [aI,Al (by omega)]
 generalize hx:(tm ts k).2.getD i 0=x at *
 refine ⟨⟨k+1,if x>m then x else m,by omega,rfl,rfl,by split<;>omega,fun t j=>?_,fun B l e=>?_⟩,?_⟩
 ·by_cases s:t=k
  ·subst s;rw [hx];split<;>omega
  ·have:=o t (by omega);split<;>omega
 ·have H:=g B l fun t j=>e t (by omega)
  have G:=e k (by omega)
  rw [hx] at G
  split<;>omega
 ·show ts.length-((k+1:Nat):Int).toNat<ts.length-(k:Int).toNat
  omega
end
structure I2 where
 a:QV
 b:QV
instance:Enc I2:=⟨⟨fun x=>[.bool x.a.s,.slice x.a.A x.a.n x.a.c,.bool x.a.s2,.slice x.a.A2 x.a.n2 x.a.c2,.bool x.b.s,.slice x.b.A x.b.n x.b.c,.bool x.b.s2,.slice x.b.A2 x.b.n2 x.b.c2],8,fun _=>rfl,fun x v hv=>by simp at hv;rcases hv with rfl|rfl|rfl|rfl|rfl|rfl|rfl|rfl<;>rfl⟩⟩
structure RT where
 w:QV
 B:Option aH
 n:Nat
 c:Nat
instance:Enc RT:=⟨⟨fun x=>[.bool x.w.s,.slice x.w.A x.w.n x.w.c,.bool x.w.s2,.slice x.w.A2 x.w.n2 x.w.c2,.slice x.B x.n x.c],5,fun _=>rfl,fun x v hv=>by simp at hv;rcases hv with rfl|rfl|rfl|rfl|rfl<;>rfl⟩⟩
abbrev I2r:aD->I2->Rat × Rat->Prop:=fun h w x=>NQ h w.a x.1/\NQ h w.b x.2
abbrev RTr:aD->RT->J8->Prop:=fun h w t=>NQ h w.w (rv t.1)/\w.n=t.2.length/\SlI .i64 h w.B t.2
def bxQ(l:List Ivl)(i:Nat):Rat × Rat:=(rv (l.getD i ([],[])).1,rv (l.getD i ([],[])).2)
section
variable {h:aD} {K:VP} {A B:Option aH} {ts:List J8} {vars:Int} {c:Nat}
end
section
variable {h:aD} {lo hi x:List UInt8}
end
def Br.t{b:Bool}{A B:Prop}(hb:b=true)(x:A):Br b A B:=by subst hb;exact x
def Br.f{b:Bool}{A B:Prop}(hb:b=false)(x:B):Br b A B:=by subst hb;exact x
def C0g{m:Nat}{p q r s:Rat}(hp:Sz m p)(hq:Sz m q)(hr:Sz m r)(hs:Sz m s):Sz (m+m) (Hm p q r s)/\Sz (m+m) (Hn p q r s):=by
 have a:∀ t∈[p*s,q*r,q*s],Sz (m+m) t:=by
  intro t b
  simp only [List.mem_cons,List.not_mem_nil,or_false] at b
  rcases b with rfl|rfl|rfl
  ·exact hp.mul hs
  ·exact hq.mul hr
  ·exact hq.mul hs
 exact ⟨(hp.mul hr).mnL a,(hp.mul hr).mxL a⟩
section
variable {h:aD} {K:VP} {m:Nat} {lo hi x lo2 hi2:List UInt8}
end
def tmE(es:List Int)(f:Nat->Rat × Rat)(c:Rat):Nat->Rat × Rat
 | 0=>(c,c)
 | k+1=>(Hm (tmE es f c k).1 (tmE es f c k).2 (S4 (f k).1 (f k).2 (es.getD k 0).toNat) (S5 (f k).1 (f k).2 (es.getD k 0).toNat),Hn (tmE es f c k).1 (tmE es f c k).2 (S4 (f k).1 (f k).2 (es.getD k 0).toNat) (S5 (f k).1 (f k).2 (es.getD k 0).toNat))
def evE(ts:List J8)(f:Nat->Rat × Rat)(n:Nat):Nat->Rat × Rat
 | 0=>(0,0)
 | i+1=>((evE ts f n i).1+(tmE (tm ts i).2 f (rv (tm ts i).1) n).1,(evE ts f n i).2+(tmE (tm ts i).2 f (rv (tm ts i).1) n).2)
def B7p{a b c d:Rat}:Hm a b c d<=Hn a b c d:=Rat.le_trans (A7l [a*d,b*c,b*d] (a*c)).1 (A7r [a*d,b*c,b*d] (a*c)).1
def A3d(es:List Int)(f:Nat->Rat × Rat)(c:Rat):∀ k,(tmE es f c k).1<=(tmE es f c k).2
 | 0=>Rat.le_refl
 | _+1=>B7p
def A3k{a b:Rat}(h:a<=b):Hm a b 1 1=a/\Hn a b 1 1=b:=by
 unfold Hm Hn
 simp only [Rat.mul_one,Wm,Wk,B57,B54]
 constructor
 ·unfold mn;grind
 ·unfold mx;grind
def Zh(a b:Rat):S4 a b 0=1/\S5 a b 0=1:=by
 unfold S4 S5
 rw [iN (by omega),iN (by omega),Rat.pow_zero,Rat.pow_zero]
 exact ⟨by unfold mn;split<;>rfl,by unfold mx;split<;>rfl⟩
def B0v{es:List Int}{f:Nat->Rat × Rat}{c:Rat}{k:Nat}(h:(es.getD k 0).toNat=0):tmE es f c (k+1)=tmE es f c k:=by
 show (Hm _ _ _ _,Hn _ _ _ _)=_
 rw [h,(Zh _ _).1,(Zh _ _).2,(A3k (A3d es f c k)).1,(A3k (A3d es f c k)).2]
def C0c{m k:Nat}{a b:Rat}(hm:1<=m)(ha:Sz m a)(hb:Sz m b):Sz (m*k+1) (S4 a b k)/\Sz (m*k+1) (S5 a b k):=by
 have i:=ha.pow hm k
 have g:=hb.pow hm k
 have d:Sz (m*k+1) 0:=Sz.zero (by omega)
 unfold S4 S5
 constructor
 ·split
  ·exact Sz.mnL d fun q c=>by simp at c;rcases c with rfl|rfl<;>assumption
  ·rcases A25 (a^k) (b^k) with e|e<;>rw [e]<;>assumption
 ·split
  ·exact Sz.mxL d fun q c=>by simp at c;rcases c with rfl|rfl<;>assumption
  ·rcases A22 (a^k) (b^k) with e|e<;>rw [e]<;>assumption
structure SmE (ts:List J8) (f:Nat->Rat × Rat) (n:Nat):Prop where
 len:ts.length<=5
 n6:n<=6
 coef:∀ i,i<ts.length->Sz 32 (rv (tm ts i).1)
 elen:∀ i,i<ts.length->(tm ts i).2.length=n
 exps:∀ i,i<ts.length->∀ k,k<n->0<=(tm ts i).2.getD k 0/\(tm ts i).2.getD k 0<=6
 box:∀ k,k<n->Sz 80 (f k).1/\Sz 80 (f k).2
def SmE.pow{ts:List J8}{f:Nat->Rat × Rat}{n:Nat}(s:SmE ts f n){e k:Nat}(hk:k<n)(he:e<=6):Sz 481 (S4 (f k).1 (f k).2 e)/\Sz 481 (S5 (f k).1 (f k).2 e):=by
 obtain ⟨c,d⟩:=s.box k hk
 obtain ⟨b,a⟩:=C0c (k:=e) (by omega) c d
 exact ⟨b.mono (by omega),a.mono (by omega)⟩
def SmE.tm{ts:List J8}{f:Nat->Rat × Rat}{n:Nat}(s:SmE ts f n){i:Nat}(hi:i<ts.length):∀ k,k<=n->Sz (481*2^k) (tmE (Go.Proofs.YtmbfcbbkbefgfaaGreatDoor.tm ts i).2 f (rv (Go.Proofs.YtmbfcbbkbefgfaaGreatDoor.tm ts i).1) k).1/\Sz (481*2^k) (tmE (Go.Proofs.YtmbfcbbkbefgfaaGreatDoor.tm ts i).2 f (rv (Go.Proofs.YtmbfcbbkbefgfaaGreatDoor.tm ts i).1) k).2:=by
 intro k
 induction k with
 | zero=>exact fun _=>⟨(s.coef i hi).mono (by omega),(s.coef i hi).mono (by omega)⟩
 | succ k ih=>
  intro l
  obtain ⟨g,c⟩:=ih (by omega)
  have a:481<=481*2^k:=Nat.le_mul_of_pos_right 481 (Nat.pow_pos (by decide))
  have j:=s.exps i hi k (by omega)
  obtain ⟨b,d⟩:=s.pow (e:=((Go.Proofs.YtmbfcbbkbefgfaaGreatDoor.tm ts i).2.getD k 0).toNat) (k:=k) (by omega) (by omega)
  have e:481*2^(k+1)=481*2^k+481*2^k:=by rw [Nat.pow_succ];omega
  rw [e]
  exact C0g g c (b.mono a) (d.mono a)
def A1x{k:Nat}(h:k<=6):481*2^k<=30784:=bA (Nat.mul_le_mul_left 481 (Nat.pow_le_pow_right (by decide) h)) (by decide)
def SmE.ev{ts:List J8}{f:Nat->Rat × Rat}{n:Nat}(s:SmE ts f n):∀ i,i<=ts.length->Sz (1+i*30785) (evE ts f n i).1/\Sz (1+i*30785) (evE ts f n i).2:=by
 intro i
 induction i with
 | zero=>exact fun _=>⟨Sz.zero (by omega),Sz.zero (by omega)⟩
 | succ i ih=>
  intro e
  obtain ⟨c,a⟩:=ih (by omega)
  obtain ⟨b,d⟩:=s.tm (i:=i) (by omega) n (Nat.le_refl n)
  have g:=A1x s.n6
  exact ⟨(c.add b).mono (by omega),(a.add d).mono (by omega)⟩
section
variable {h:aD} {K:VP} {A B:Option aH} {ts:List J8} {c bc n:Nat} {f:Nat->Rat × Rat}
end
