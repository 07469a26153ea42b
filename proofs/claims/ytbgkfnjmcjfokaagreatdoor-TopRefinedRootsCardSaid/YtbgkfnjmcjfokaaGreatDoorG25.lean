/- A part. -/
import Derived.Test.YtbgkfnjmcjfokaaGreatDoorG24
import Derived.Test.YtbgkfnjmcjfokaaGreatDoorG23
open Go.Proofs.Tryz
set_option linter.all false
open _root_.Go.Addr renaming add->aC
open _root_.Go.Builtin renaming append_->dG
open _root_.Go.Instr renaming storeAt->aT,buildSlice->cZ,alloc->dE
open Int renaming toNat_natCast->aR,natCast_pow->aY,natAbs_natCast->bL,mul_comm->bM,mul_le_mul_of_nonneg_left->bU,pow_pos->cC,dvd_mul_of_dvd_left->cH,natCast_add->cK,mul_assoc->cP,pow_succ->cW,le_of_lt->cX,natCast_mul->dF,eq_ofNat_of_zero_le->dO,mul_zero->dV,add_zero->dX
open List renaming getD_eq_getElem?_getD->aH,length_cons->aL,eq_nil_of_length_eq_zero->aP,getElem?_cons_zero->aQ,getElem?_cons_succ->aW,getLast_cons->aZ,replicate->bF,map_cons->bK,take_append_drop->bN,cons_append->cF,getElem?_eq_none->cL,length_append->cT,map_nil->cV,getElem?_append_right->dI,getElem?_eq_getElem->dK,getLast_eq_getElem->dN,toArray->dT,take_of_length_le->dU
open Nat renaming le_refl->aJ,mul_le_mul_right->aV,zero_add->bI,mul_le_mul_left->bJ,div_le_self->bX,gcd->bZ,pow_le_pow_right->cO,div_eq_of_lt->cY,zero_le->dB,add_mul->dD,lt_irrefl->dJ,add_sub_cancel_left->dM,add_zero->dP,add_comm->dR
open Rat renaming mul_nonneg->aE,intCast_mul->aF,mul_pos->aK,le_of_mul_le_mul_right->aU,intCast_add->aX,zero_mul->bG,add_zero->bH,mul_assoc->bO,inv_mul_cancel->bY,mul_zero->cI,intCast_neg->cJ,mul_one->cN,divInt->cQ,mul_comm->cU
open _root_.Go renaming Addr->aO,TypeId->bC,Program->cD,Value->cM
open _root_.Go.Proofs.YtbgkfnjmcjfokaaGreatDoor renaming Heap->aI,FCall->aN,RowX->dH
namespace Go.Proofs.YtbgkfnjmcjfokaaGreatDoor
set_option maxRecDepth 20000
open Go
def B3u(n j:Nat):n/2^j=2*(n/2^(j+1))+n/2^j%2:=by
 rw [Nat.pow_succ,<- Nat.div_div_eq_div_mul]
 omega
def A7r{h:aI}{A:Option aO}{n:Nat}{v:Int}{b:Nat}(m:Mw h A n v)(hv:v<2^b)(hb:b<=6400000000):n<=100000000:=by
 obtain ⟨k,hk⟩:∃ k,k=100000000:=⟨_,rfl⟩
 refine m.len_le dc ?_
 rw [Ha]
 exact Int.lt_of_lt_of_le hv (D5 (B:=2) dc o)
def Vk{x:Nat}{m:Nat}(hx:x<2^m)(hm:1<=m)(k:Nat):x^k<2^(m*k+1):=by
 have a:x^k<=(2^m)^k:=Nat.pow_le_pow_left (Nat.le_of_lt hx) k
 rw [<- Nat.pow_mul] at a
 grind
section
variable {h g:aI} {K:VP} {A B:Option aO} {s s':Bool} {an ac bn bc m:Nat} {x y:Int}
def A41{n:Nat}(hx:n<18446744073709551616)(hK:K (I (V6 n)) h):aN prog 206 #[U n] h K:=by
 refine (fnk func206) ?_
 exact Yh hx ⟨_,rfl,hK⟩
def Gz{x n xn xc:Nat}(M:Mw h A xn (x:Int))(hc:xn<=xc)(hx:x<2^m)(hm1:1<=m)(hm:m*n+1<=6400000000)(hn:n<9223372036854775808)(hmm:m<=6400000000)
 (hK:∀ A' n' c' h',h.le h'->n'<=c'->Mw h' A' n' ((x^n:Nat):Int)->K (.slice A' n' c') h'):aN prog 167 #[.slice A xn xc,U (n:Int)] h K:=by
 refine (fnk func167 [(3,[5,6],[],[.slice none 0 0,I 0])]) ?_
 have z:xn<=100000000:=A7r (b:=m) M (by
  have:((x:Nat):Int)<((2^m:Nat):Int):=Int.ofNat_lt.2 hx
  rw [aY] at this;exact this) hmm
 refine Y5 Q6 rfl ?_
 intro b G
 refine ⟨_,_,_,rfl,A41 o ⟨_,rfl,?_⟩⟩
 have B:V6 n<=63:=Hx (by
  have:(2:Nat)^63=9223372036854775808:=dc
  omega)
 have M1:Mw (h.put b (.cells #[U 1] 194)) (some ⟨b,0,none⟩) 1 ((x^(n/2^V6 n):Nat):Int):=by
  have r:n/2^V6 n=0:=by
   apply cY
   by_cases l:n=0
   ·subst l;exact Nat.pow_pos dc
   ·exact (Ed l).2
  rw [r,Nat.pow_zero]
  refine ⟨[1],rfl,SlI.new _ _ _ _ _,?_,?_,?_⟩
  ·intro x hx;simp at hx;subst hx;decide
  ·unfold Norm;simp
  ·simp [val]
 refine ⟨fun L u=>∃ (RA:Option aO) (d rc j:Nat),L=[.slice RA d rc,I ((j:Int)-1)]/\j<=V6 n/\h.le u/\d<=rc/\Mw u RA d ((x^(n/2^j):Nat):Int),fun L _=>(iAt L 1+1).toNat,⟨_,1,1,V6 n,by rw [B5 o o],aJ _,Heap.le_put _ G,aJ _,M1⟩,?_⟩
 rintro RA d rc i u ⟨RA',ab,T,j,C,hj,p,c,MR⟩
 simp only [List.cons.injEq,Value.slice.injEq,Value.int.injEq,and_true,true_and] at C
 obtain ⟨⟨rfl,rfl,rfl⟩,rfl⟩:=C
 have a:∀ {h':aI} {A':Option aO} {n' k:Nat},k<=n->Mw h' A' n' ((x^k:Nat):Int)->n'<=100000000:=by
  intro h' A' n' k O M'
  refine A7r (b:=m*n+1) M' ?_ hm
  have h1:=Vk hx hm1 k
  have F:2^(m*k+1)<=2^(m*n+1):=cO dc (by have:=bJ m O;omega)
  have w:((x^k:Nat):Int)<((2^(m*n+1):Nat):Int):=Int.ofNat_lt.2 o
  rw [aY (n:=m*n+1)] at w
  exact w
 refine B4 (fun l=>?_) (fun l=>?_)
 ·obtain ⟨j,rfl⟩:∃ i,j=i+1:=⟨j-1,o⟩
  have r:((j+1:Nat):Int)-1=(j:Int):=o
  simp only [r]
  have W:=a (bX _ _) MR
  have s:=B3u n j
  have aa:=bX n (2^j)
  refine F4 MR MR c c o o ?_
  intro A2 n2 c2 F y E M2
  refine ⟨_,_,_,rfl,?_⟩
  have X:C6 (j:Int)=(j:Int):=C3 o o
  rw [X]
  refine B4 (fun e=>absurd e o) (fun _=>?_)
  rw [aR,B1z o]
  have R:(n:Int)/2^j=((n/2^j:Nat):Int):=by rw [Int.natCast_ediv,aY];rfl
  rw [R,We o]
  rw [<- dF,<- Nat.pow_add] at M2
  have e3:B9 ((j:Int)-1)=(j:Int)-1:=B5 o o
  rw [e3]
  have g:∀ (q:cM),(iAt [q,I ((j:Int)-1)] 1+1).toNat<(iAt [.slice RA d rc,I (j:Int)] 1+1).toNat:=by
   intro q
   simp only [iAt,aQ,aW]
   omega
  refine C8 (fun D=>?_) (fun N=>?_)
  ·have V:=a o M2
   refine F4 M2 (M.mono (A0 p y)) E hc o o ?_
   intro A3 H c3 w S Q M3
   refine ⟨_,_,_,rfl,⟨A3,H,c3,j,rfl,o,A0 p (A0 y S),Q,?_⟩,g _⟩
   rw [<- dF,<- Nat.pow_succ] at M3
   rw [show n/2^j=n/2^(j+1)+n/2^(j+1)+1 from o]
   exact M3
  ·refine ⟨⟨A2,n2,c2,j,rfl,o,A0 p y,E,?_⟩,g _⟩
   rw [show n/2^j=n/2^(j+1)+n/2^(j+1) from o]
   exact M2
 ·obtain rfl:j=0:=o
  rw [Nat.pow_zero,Nat.div_one] at MR
  exact hK _ _ _ _ p c MR
def B7x(x:Int)(n:Nat):(-x)^n=if n%2=1 then -(x^n) else x^n:=by
 induction n with
 | zero=>simp
 | succ n ih=>
  grind
def Bq{n:Nat}(i:ZI h s A an ac x)(hx:ZB m x)(hm1:1<=m)(hm:m*n+1<=6400000000)(hmm:m<=6400000000)(hn:n<9223372036854775808)(hK:∀ s1 A' n' c' h',h.le h'->ZI h' s1 A' n' c' (x^n)->K (.agg #[.bool s1,.slice A' n' c']) h'):aN prog 83 #[.agg #[.bool s,.slice A an ac],U (n:Int)] h K:=by
 have j:=Bw i.sgn
 refine (fnk func83 (own:=[2,4])) ?_
 refine Br.of (fun e=>?_) (fun e=>?_)
 ·refine Gz i.mag i.cap hx hm1 hm hn hmm ?_
  intro A1 k c1 l d c M1
  refine ⟨_,_,_,rfl,?_⟩
  rw [We o]
  refine K6 M1 c ?_
  intro s1 i1
  refine ⟨_,_,_,_,rfl,hK _ _ _ _ _ d ?_⟩
  have b:x= -(x.natAbs:Int):=by
   rcases j with ⟨_,a⟩|⟨a,_⟩
   ·exact a
   ·rw [e] at a;cases a
  have:x^n=if ((n:Int)%2==1)=true then -((x.natAbs^n:Nat):Int) else ((x.natAbs^n:Nat):Int):=by
   conv=>lhs;rw [b,B7x]
   rw [aY]
   by_cases g:n%2=1
   ·rw [iP g,iP (by simp;omega)]
   ·rw [iN g,iN (by simp;omega)]
  rw [this];exact i1
 ·refine Gz i.mag i.cap hx hm1 hm hn hmm ?_
  intro A1 k c1 l d c M1
  refine ⟨_,_,_,rfl,?_⟩
  refine K6 M1 c ?_
  intro s1 i1
  refine ⟨_,_,_,_,rfl,hK _ _ _ _ _ d ?_⟩
  have b:x=(x.natAbs:Int):=by
   rcases j with ⟨a,_⟩|⟨_,a⟩
   ·rw [e] at a;cases a
   ·exact a
  have:x^n=((x.natAbs^n:Nat):Int):=by rw [aY,<- b]
  rw [this];exact i1
end
def A7k(B:Int):∀ {ts:List Int} {k:Nat} (_:k<ts.length) (v:Int),val B (ts.set k v)=val B ts+B^k*(v-ts.getD k 0)
 | [],k,h,v=>by simp at h
 | t::ts,0,h,v=>by simp [val];grind
 | t::ts,k+1,h,v=>by
  have ih:=A7k B (ts:=ts) (k:=k) gz0 v
  simp only [List.set_cons_succ,val,List.getD_cons_succ,ih,cW]
  grind
section
variable {h g:aI} {K:VP} {A B:Option aO} {s s':Bool} {an ac bn bc m:Nat} {x y:Int}
def A5h{hp:aI}{n c k:Nat}{ts:List Int}{ca:Int}(p:Pw hp g A n c ts)(hn:n=ts.length)(dt:Dig b64 ts)(hk:k<n)(hca:0<=ca/\ca<18446744073709551616){Q:Int->aI->Prop}
 (hQ:∀ h' ts',Pw h' g A n c ts'->n=ts'.length->Dig b64 ts'->val b64 ts'+b64^(k+1)*((ts.getD k 0+ca)/18446744073709551616)=val b64 ts+b64^k*ca->Q ((ts.getD k 0+ca)/18446744073709551616) h'):
 ∃ a,A=some a/\0<=(k:Int)/\(k:Int)<((n:Nat):Int)/\∃ (t:Int),Heap.cell? hp (aC a (((k:Int)).toNat*1))=some (U t)/\ECall prog 287 #[U t,U ca,U (0:Int)] hp (fun r hp1=>∃ (ta tb:Int),r= .tuple #[U ta,U tb]/\∃ a2,A=some a2/\0<=(k:Int)/\(k:Int)<((n:Nat):Int)/\wpH prog (aT 194 (.pointer (some (aC a2 (((k:Int)).toNat*1)))) (U ta)) (fun _ hp2=>Q tb hp2) hp1):=by
 have d:ts≠[]:=gz0
 obtain ⟨b,l,w,x⟩:=El p d
 have u:=Q4 dt k
 refine w.sl.load hn o o ?_
 refine Cv u hca o ⟨_,_,rfl,?_⟩
 obtain ⟨a,q,_⟩:=SlV.at w.sl (i:=k) gz0
 refine ⟨a,q,o,o,w.storeN F8 q o ?_⟩
 intro s e
 simp only [dX] at e ⊢
 have j:=e.priv (m:=n) (c:=c) (by simp_all) gz0 gz0
 rw [dU gz0] at j
 refine hQ s _ j gz0 (dt.set (Dx _)) ?_
 rw [A7k b64 o,cW]
 grind
def B1g{Invv1:LP}{muv1:LN}{TA:Option aO}{tn tc i x2n:Nat}{ts:List Int}{ca:Int}{hp8 hp7:aI}(p:Pw hp8 g TA tn tc ts)(hn:tn=ts.length)(dt:Dig b64 ts)(hle:i+x2n<=tn)(hca:0<=ca/\ca<18446744073709551616)(hl:tn<=1000000000)
 (hK:∀ TA' tn' tc' ts' h' g',g.le g'->Pw h' g' TA' tn' tc' ts'->tn'=ts'.length->Dig b64 ts'->val b64 ts'=val b64 ts+b64^(i+x2n)*ca->(tn'=tn\/(tn'=tn+1/\b64^tn<=val b64 ts'))->Invv1 [.slice TA' tn' tc',I (B9 ((i:Int)+1))] h'/\muv1 [.slice TA' tn' tc',I (B9 ((i:Int)+1))] h'<muv1 [.slice TA tn tc,I (i:Int)] hp7):
 Di prog x2n Invv1 muv1 TA tn tc (i:Int) ca hp8 hp7:=by
 unfold Di
 have e1:B9 ((i:Int)+(x2n:Int))=((i+x2n:Nat):Int):=by rw [B5 o o];omega
 rw [e1]
 refine ⟨fun L V=>∃ (k:Nat) (c1:Int) (j:List Int) (A1:Option aO) (a b:Nat) (u:aI),L=[.slice A1 a b,U c1,I k]/\g.le u/\Pw V u A1 a b j/\a=j.length/\Dig b64 j/\k<=a/\(0<=c1/\c1<18446744073709551616)/\val b64 j+b64^k*c1=val b64 ts+b64^(i+x2n)*ca/\(a=tn\/(a=tn+1/\c1=0/\b64^tn<=val b64 j)),fun L _=>tn+2-(iAt L 2).toNat,⟨i+x2n,ca,ts,TA,tn,tc,g,rfl,B0 _,p,hn,dt,hle,hca,rfl,.inl rfl⟩,?_⟩
 rintro A1 a b c1 k0 aa ⟨k,Q,j,A1',ab,D,u,S,A,G,q,s,hk,d,hv,W⟩
 obtain ⟨⟨rfl,rfl,rfl⟩,rfl,rfl⟩:=S
 refine D6 (fun O=>?_) (fun O=>?_)
 ·have e:a=tn:=by
   omega
  have F:B9 ((k:Int)+1)=((k+1:Nat):Int):=by rw [B5 o o];omega
  have r:∀ (C M E H:cM),tn+2-(iAt [C,M,I ((k+1:Nat):Int)] 2).toNat<tn+2-(iAt [E,H,I (k:Int)] 2).toNat:=by
   intro C M E H
   simp only [iAt,aQ,aW]
   omega
  refine C8 (fun y=>?_) (fun y=>?_)
  ·have n:k=a:=o
   refine Gy Q6 G rfl rfl o o ?_
   intro A2 c2 h2 R l2 z
   rw [<- List.map_singleton (f:=Value.int .u64),<- List.map_append] at z
   have N:Dig b64 (j++[0]):=s.append (Dig.one dc)
   refine A5h z gz0 N o d ?_
   intro X m w l x c
   have T:(j++[0]).getD k 0=0:=by
    rw [n,q,List.getD,dI (aJ _)];simp
   rw [T,Int.zero_add,Int.ediv_eq_zero_of_lt d.1 d.2] at c ⊢
   rw [F]
   rw [J4,dV,dX,dV,dX] at c
   refine ⟨⟨k+1,0,m,A2,a+1,c2,R,rfl,A0 A l2,w,l,x,o,o,?_,.inr ⟨o,rfl,?_⟩⟩,r _ _ _ _⟩
   ·omega
   ·rw [c,<- e,<- n]
    have h5:=C5 (B:=b64) dc s
    have h6:b64^k*1<=b64^k*c1:=bU o (cX (cC dc))
    omega
  ·refine A5h G q s o d ?_
   intro X m w l x c
   rw [F]
   have gt:=Q4 s k
   refine ⟨⟨k+1,_,m,A1,a,b,u,rfl,A,w,l,x,o,?_,?_,.inl e⟩,r _ _ _ _⟩
   ·omega
   omega
 grind
def B4o{XA YA TA:Option aO}{xs ys ts:List Int}{x2n x2c y2n tn tc N:Nat}{hp4:aI}(p:Pw hp4 g TA tn tc ts)(hn:tn=ts.length)(dt:Dig b64 ts)(sx:SlI .u64 g XA xs)(hx:x2n=xs.length)(dx:Dig b64 xs)(sy:SlI .u64 g YA ys)(hy:y2n=ys.length)(dy:Dig b64 ys)(hxy:x2n+y2n<=tn)(hN:tn<=N)(hN2:N<=400000000)(hV:val b64 ts+val b64 xs*val b64 ys<b64^N)
 (hK:∀ TA' tn' tc' ts' h' g',g.le g'->Pw h' g' TA' tn' tc' ts'->tn'=ts'.length->Dig b64 ts'->val b64 ts'=val b64 ts+val b64 xs*val b64 ys->tn'<=N->K (.slice TA' tn' tc') h'):
 Nj prog K XA x2n x2c YA y2n TA tn tc hp4:=by
 have Q:=C5 (B:=b64) dc dx
 have j:∀ k,val b64 (ys.take k)<=val b64 ys:=by
  intro k
  have E:=H1 b64 (ys.take k) (ys.drop k)
  rw [bN] at E
  have h2:0<=b64^(ys.take k).length*val b64 (ys.drop k):=Int.mul_nonneg (cX (cC dc)) (C5 (B:=b64) dc (dy.drop k))
  omega
 refine ⟨fun L hp=>∃ (k:Nat) (a:List Int) (A1:Option aO) (n d:Nat) (H:aI),L=[.slice A1 n d,I k]/\g.le H/\Pw hp H A1 n d a/\n=a.length/\Dig b64 a/\k<=y2n/\val b64 a=val b64 ts+val b64 xs*val b64 (ys.take k)/\x2n+y2n<=n/\n<=N,fun L _=>y2n-(iAt L 1).toNat,⟨0,ts,TA,tn,tc,g,rfl,B0 _,p,hn,dt,o,by simp [val],hxy,hN⟩,?_⟩
 rintro A1 n d k0 af ⟨k,a,A1',ag,V,H,hL,z,W,ab,u,hk,hv,ad,T⟩
 obtain ⟨⟨rfl,rfl,rfl⟩,rfl⟩:=hL
 refine B4 (fun E=>?_) (fun E=>?_)
 ·have gy:=Q4 dy k
  have vy:=C7 b64 ys k
  have X:B9 ((k:Int)+(x2n:Int))=((k+x2n:Nat):Int):=by rw [B5 o o];omega
  refine (sy.mono (A0 z W.le)).load hy o o ?_
  have x:a≠[]:=gz0
  obtain ⟨b,aa,w,hc⟩:=El W x
  refine ⟨⟨o,o⟩,⟨o,o⟩,?_⟩
  have i:((a.drop k).take (k+x2n-k)).length=xs.length:=gz0
  refine Hz (w.sub (l:=k) (m:=k+x2n) (c:=d) o o o) o (sx.mono z) hx ((u.drop k).take _) dx i gy o ?_
  intro s c h' e r D A w'
  rw [i] at e A
  have w2:=w.whole (l:=k) (m:=k+x2n) o o o w'
  refine ⟨_,rfl,?_⟩
  have ae:(a.take k++s++a.drop (k+x2n)).length=a.length:=by
   grind
  have q:a.take k++s++a.drop (k+x2n)≠[]:=by
   grind
  have S:=w2.priv (m:=n) (c:=d) q o o
  rw [dU o] at S
  have d2:Dig b64 (a.take k++s++a.drop (k+x2n)):=((u.take k).append r).append (u.drop _)
  have O:a=a.take k++((a.drop k).take (k+x2n-k)++a.drop (k+x2n)):=by
   have X:a.drop (k+x2n)=(a.drop k).drop (k+x2n-k):=by simp_all
   rw [X,bN,bN]
  have C:val b64 (a.take k++s++a.drop (k+x2n))+b64^(k+x2n)*c=val b64 a+b64^k*(val b64 xs*ys.getD k 0):=by
   have e2:val b64 a=val b64 (a.take k)+b64^k*(val b64 ((a.drop k).take (k+x2n-k))+b64^xs.length*val b64 (a.drop (k+x2n))):=by
    conv=>lhs;rw [O]
    rw [H1,H1,i,List.length_take,Nat.min_eq_left o]
   rw [e2,List.append_assoc,H1,H1,List.length_take,Nat.min_eq_left o,e,hx,Int.pow_add]
   generalize b64^k=P at *
   generalize b64^xs.length=R at *
   grind
  refine B1g S o d2 o D o ?_
  intro TA' tn' tc' ts' h3 g3 l3 p3 F d3 ac M
  have y:val b64 ts'=val b64 ts+val b64 xs*val b64 (ys.take (k+1)):=by
   grind
  have G:tn'<=N:=by
   rcases M with h4|⟨h4,h5⟩
   ·omega
   ·have h6:=bU (j (k+1)) Q
    grind
  have e3:B9 ((k:Int)+1)=((k+1:Nat):Int):=by rw [B5 o o];omega
  rw [e3]
  exact ⟨⟨k+1,ts',TA',tn',tc',g3,rfl,A0 z l3,p3,F,d3,o,y,o,G⟩,by simp only [iAt,aQ,aW];omega⟩
 grind
def Ic{TA XA YA:Option aO}{ts:List Int}{tn tc xn xc yn yc N:Nat}(p:Pw h g TA tn tc ts)(hn:tn=ts.length)(dt:Dig b64 ts)(ma:Mw g XA xn x)(mb:Mw g YA yn y)(hxc:xn<=xc)(hyc:yn<=yc)(hN:tn<=N)(hxy:xn+yn+1<=N)(hN2:N<=400000000)(hV:val b64 ts+x*y<b64^N)
 (hK:∀ TA' tn' tc' ts' h' g',g.le g'->Pw h' g' TA' tn' tc' ts'->tn'=ts'.length->Dig b64 ts'->val b64 ts'=val b64 ts+x*y->tn'<=N->K (.slice TA' tn' tc') h'):aN prog 237 #[.slice TA tn tc,.slice XA xn xc,.slice YA yn yc] h K:=by
 refine Uv _ _ _ _ _ _ _ _ _ ?_
 refine ⟨fun L F=>F=h/\∃ (A1 B1:Option aO) (d c1 i c2:Nat) (j a:Int),L=[.slice A1 d c1,.slice B1 i c2]/\Mw g A1 d j/\Mw g B1 i a/\d<=c1/\i<=c2/\d+i=xn+yn/\j*a=x*y,B4 (fun _=>⟨rfl,_,_,_,_,_,_,y,x,rfl,mb,ma,hyc,hxc,oo,bM _ _⟩) (fun _=>⟨rfl,_,_,_,_,_,_,x,y,rfl,ma,mb,hxc,hyc,rfl,rfl⟩),?_⟩
 rintro A1 d c1 B1 i c2 F ⟨rfl,A1',B1',ac,aj,ad,af,j,a,B,V,E,k1,k2,am,A⟩
 obtain ⟨⟨rfl,rfl,rfl⟩,rfl,rfl,rfl⟩:=B
 have aa:=E.nonneg dc
 refine ⟨fun L r=>∃ (A2 B2:Option aO) (e c3 k c4:Nat) (M y2:Int) (l:aI),L=[.slice A2 e c3,.slice B2 k c4]/\g.le l/\Pw r l TA tn tc ts/\Mw l A2 e M/\Mw l B2 k y2/\e+k<=xn+yn+1/\M*y2=x*y,B4 (fun _=>?_) (fun _=>⟨_,_,_,_,_,_,j,a,g,rfl,B0 _,p,V,E,oo,A⟩),?_⟩
 ·refine p.call ?_
  refine F4 V E k1 k2 oo oo ?_
  intro A3 e c3 g3 l3 k3 M3 h3 p3
  refine ⟨_,_,_,rfl,?_⟩
  refine Y5 Q6 rfl ?_
  intro b G
  have u:g3 b=none:=by
   cases hx1:g3 b with
   | none=>rfl
   | some o=>rw [p3.le b o hx1] at G;cases G
  refine ⟨_,_,_,rfl,_,_,_,_,_,_,j*a,1,g3.put b (.cells #[U 1] 194),rfl,A0 l3 (Heap.le_put _ u),p3.put G _,M3.mono (Heap.le_put _ u),?_,?_,oo⟩
  ·refine ⟨[1],rfl,SlI.new _ _ _ _ _,?_,?_,?_⟩
   ·intro x hx;grind
   ·unfold Norm;simp
   rfl
  ·have s:=V.lt dc
   have D:=E.lt dc
   have Q:j*a<b64^(d+i):=by
    rw [Int.pow_add]
    by_cases h0:a=0
    ·subst h0
     rw [dV]
     exact Int.mul_pos (cC dc) (cC dc)
    ·have h1:j*a<b64^d*a:=Int.mul_lt_mul_of_pos_right s oo
     have h2:b64^d*a<=b64^d*b64^i:=bU (cX D) (cX (cC dc))
     omega
   have:=M3.len_le dc Q
   omega
 rintro A2 e c3 B2 k c4 r ⟨A2',B2',ak,an,ai,ae,M,y2,l,B,lg,p1,M1,M2,al,w⟩
 obtain ⟨⟨rfl,rfl,rfl⟩,rfl,rfl,rfl⟩:=B
 obtain ⟨xs,O,sx,dx,nx,rfl⟩:=M1
 obtain ⟨ys,W,sy,dy,ny,rfl⟩:=M2
 have e1:B9 ((e:Int)+(k:Int))=((e+k:Nat):Int):=by rw [B5 oo oo];omega
 refine ⟨fun L F=>∃ (m:List Int) (A5:Option aO) (q c5:Nat) (S:aI),L=[.slice A5 q c5]/\l.le S/\Pw F S A5 q c5 m/\q=m.length/\Dig b64 m/\val b64 m=val b64 ts/\q<=N,fun L _=>match L with|[.slice _ n _]=>e+k-n|_=>0,⟨ts,TA,tn,tc,l,rfl,B0 _,p1,hn,dt,rfl,hN⟩,?_⟩
 rintro A5 q c5 ab ⟨m,A5',ah,ag,S,B,c,p5,T,du,z,H⟩
 obtain ⟨rfl,rfl,rfl⟩:=B
 refine B4 (fun h1=>?_) (fun h1=>?_)
 ·refine Gy Q6 p5 rfl rfl oo oo ?_
  intro A6 c6 h6 g6 l6 p6
  rw [<- List.map_singleton (f:=Value.int .u64),<- List.map_append] at p6
  refine ⟨⟨m++[0],A6,q+1,c6,g6,rfl,A0 c l6,p6,gz0,du.append (Dig.one dc),by rw [J4,z];simp,oo⟩,?_⟩
  grind
 ·refine B4o (N:=N) p5 T du (sx.mono c) O dx (sy.mono c) W dy oo H hN2 oo ?_
  intro TA' tn' tc' ts' h' g' l' p' R d' C X
  rw [z,w] at C
  exact hK TA' tn' tc' ts' h' g' (A0 lg (A0 c l')) p' R d' C X
def SumS(h g:aI)(b:Nat)(e:bC)(N:Nat)(M v:Int):Prop:=∃ (PA NA:Option aO) (pn pc nn nc:Nat) (ps ns:List Int) (g1 g2:aI),Pw g1 g PA pn pc ps/\Pw g2 g1 NA nn nc ns/\g2 b=none/\h=g2.put b (.cells #[.slice PA pn pc,.slice NA nn nc] e)/\pn=ps.length/\nn=ns.length/\Dig b64 ps/\Dig b64 ns/\v=val b64 ps-val b64 ns/\pn<=N/\nn<=N/\val b64 ps+val b64 ns<=M
def SumS.le{b:Nat}{e:bC}{N:Nat}{M v:Int}(S:SumS h g b e N M v):g.le h:=by
 obtain ⟨PA,NA,k,p,n,l,ps,m,j,i,a,c,d,rfl,_⟩:=S
 exact A0 a.le (A0 c.le (Heap.le_put _ d))
def SumS.zero{b:Nat}{e:bC}{N:Nat}(hb:g b=none):SumS (g.put b (.cells #[.slice none 0 0,.slice none 0 0] e)) g b e N 0 0:=
 ⟨none,none,0,0,0,0,[],[],g,g,Priv.nil _ _ _ _,Priv.nil _ _ _ _,hb,rfl,rfl,rfl,Dig.nil,Dig.nil,o,o,o,by simp [val]⟩
def In:prog.cellsOf 74=1/\(prog.info? 74).isSome=true:=by constructor<;>kernel_rfl
def O4{b:Nat}{e:bC}{N:Nat}{M v:Int}{N1:Nat}(S:SumS h g b e N M v)(i:ZI g s A an ac x)(j:ZI g s' B bn bc y)(hab:an+bn+1<=N)(hN2:N<=400000000)(hM:M+(x*y).natAbs<b64^N1)(hN1:N1<=N)
 (hK:∀ h' g',g.le g'->SumS h' g' b e N (M+(x*y).natAbs) (v+x*y)->K (.tuple #[]) h'):aN prog 170 #[.pointer (some ⟨b,0,none⟩),.agg #[.bool s,.slice A an ac],.agg #[.bool s',.slice B bn bc]] h K:=by
 have ad:=i.zeroIff
 have ae:=j.zeroIff
 have c1:=Bw i.sgn
 have c2:=Bw j.sgn
 refine (fnk func170 (own:=[4,5]) (wr:=[237])) ?_
 have p:x*y=0->K (.tuple #[]) h:=by
  intro F
  refine hK h g (B0 _) ?_
  grind
 refine C8 (fun F=>p gz0) (fun _=>C8 (fun F=>p gz0) (fun _=>?_))
 obtain ⟨PA,NA,pn,pc,nn,nc,ps,ns,g1,g2,G,W,hb,rfl,D,n,dp,T,hv,C,E,X⟩:=S
 have af:=C5 (B:=b64) dc dp
 have ag:=C5 (B:=b64) dc T
 have ah:b64^N1<=b64^N:=D5 dc hN1
 have F:(aC ⟨b,0,none⟩ 0)=⟨b,0,none⟩:=F3 b 0 0
 have e1:(aC ⟨b,0,none⟩ 1)=⟨b,1,none⟩:=F3 b 0 1
 refine Br.of (fun hs=>?_) (fun hs=>?_)
 ·have ab:x*y= -((x.natAbs:Int)*(y.natAbs:Int)):=by
   grind
  refine ⟨_,rfl,_,_,_,by rw [e1,C4];rfl,?_⟩
  refine FCall.frame (K:=fun r R=>∃ (TA':Option aO) (c d:Nat) (a:List Int) (g':aI),r= .slice TA' c d/\g1.le g'/\Pw R g' TA' c d a/\c=a.length/\Dig b64 a/\val b64 a=val b64 ns+(x.natAbs:Int)*(y.natAbs:Int)/\c<=N) hb (Ic (N:=N) W n T (i.mag.mono G.le) (j.mag.mono G.le) i.cap j.cap E hab hN2 o (fun TA' c d a h' g' w z l u m k=>⟨TA',c,d,a,g',rfl,w,z,l,u,m,k⟩)) ?_
  ·rintro r O q ⟨TA',c,d,a,g',rfl,w,z,l,u,m,k⟩
   refine ⟨_,_,_,rfl,_,rfl,?_⟩
   refine Dr In.1 In.2 rfl rfl (by simp) ?_
   obtain ⟨V,Q,H⟩:=G.after w
   refine hK _ V Q ⟨PA,TA',pn,pc,c,d,ps,a,g',O,H,z,q,rfl,D,l,dp,u,?_,C,k,?_⟩
   ·omega
   omega
 ·have aa:x*y=(x.natAbs:Int)*(y.natAbs:Int):=by
   grind
  obtain ⟨g4,p4,L⟩:=W.swap G
  refine ⟨_,rfl,_,_,_,by rw [F,C4];rfl,?_⟩
  refine FCall.frame (K:=fun r R=>∃ (TA':Option aO) (c d:Nat) (a:List Int) (g':aI),r= .slice TA' c d/\g4.le g'/\Pw R g' TA' c d a/\c=a.length/\Dig b64 a/\val b64 a=val b64 ps+(x.natAbs:Int)*(y.natAbs:Int)/\c<=N) hb (Ic (N:=N) p4 D dp (i.mag.mono L.le) (j.mag.mono L.le) i.cap j.cap C hab hN2 o (fun TA' c d a h' g' w z l u m k=>⟨TA',c,d,a,g',rfl,w,z,l,u,m,k⟩)) ?_
  ·rintro r O q ⟨TA',c,d,a,g',rfl,w,z,l,u,m,k⟩
   refine ⟨_,_,_,rfl,_,rfl,?_⟩
   refine Dr In.1 In.2 rfl rfl (by simp) ?_
   obtain ⟨V,Q,H⟩:=L.after w
   obtain ⟨g6,p6,p7⟩:=z.swap H
   refine hK _ V Q ⟨TA',NA,c,d,nn,nc,a,ns,g6,O,p7,p6,q,rfl,l,n,u,T,?_,k,E,?_⟩
   ·omega
   omega
def Fh{b:Nat}{e:bC}{N:Nat}{M v:Int}{N1:Nat}(S:SumS h g b e N M v)(i:ZI g s A an ac x)(j:ZI g s' B bn bc y)(hab:an+bn+1<=N)(hN2:N<=400000000)(hM:M+(x*y).natAbs<b64^N1)(hN1:N1<=N)
 (hK:∀ h' g',g.le g'->SumS h' g' b e N (M+(x*y).natAbs) (v-x*y)->K (.tuple #[]) h'):aN prog 239 #[.pointer (some ⟨b,0,none⟩),.agg #[.bool s,.slice A an ac],.agg #[.bool s',.slice B bn bc]] h K:=by
 refine (fnk func239 (os:=[(1,[0,1,3,2,4])]) (own:=[4,5]) (wr:=[170])) ?_
 refine U5 (i.mono S.le) ?_
 intro d i1
 refine ⟨_,_,_,_,rfl,B0 _,?_⟩
 have c:ZI g d A an ac (-x):=⟨i.cap,by rw [Int.natAbs_neg];exact i.mag,i1.sgn⟩
 have a:(-x*y).natAbs=(x*y).natAbs:=gz0
 refine O4 (N1:=N1) S c j hab hN2 o hN1 ?_
 grind
def Cd{XA YA:Option aO}{xn xc yn yc:Nat}(ma:Mw h XA xn x)(mb:Mw h YA yn y)(hyx:y<=x)(hl:xn<=1000000000)(hK:∀ A' m c' h',h.le h'->m<=c'->Mw h' A' m (x-y)->K (.slice A' m c') h'):aN prog 238 #[.slice XA xn xc,.slice YA yn yc] h K:=by
 have n:yn<=xn:=mb.len_le dc (Int.lt_of_le_of_lt hyx (ma.lt dc))
 obtain ⟨xs,c,q,s,C,rfl⟩:=ma
 obtain ⟨B,a,l,dy,z,rfl⟩:=mb
 refine (fnk func238 (wr:=[288])) ?_
 refine T6 Q6 o o o ?_
 intro b k
 refine ⟨_,_,_,rfl,?_⟩
 have w:=Win.blk .u64 194 k (bF xn 0)
 refine Cc Q6 w (by simp) (q.mono w.le) c gz0 ?_
 intro A g
 refine ⟨_,rfl,?_⟩
 rw [List.drop_of_length_le gz0,List.append_nil] at g
 refine Dp g c l a s dy o hyx o ?_
 intro zs u p d e i
 refine ⟨rfl,?_⟩
 refine Be i.sl d o e (aJ _) o ?_
 intro m r j
 exact ⟨_,_,_,rfl,hK _ _ _ _ i.le r j⟩
def Bg{b:Nat}{e:bC}{N:Nat}{M v:Int}(S:SumS h g b e N M v)(hN2:N<=400000000)(hK:∀ s A n c h',h.le h'->ZI h' s A n c v->K (.agg #[.bool s,.slice A n c]) h'):aN prog 171 #[.pointer (some ⟨b,0,none⟩)] h K:=by
 obtain ⟨PA,NA,p,q,m,w,ps,i,g1,z,B,k,F,rfl,r,u,dp,T,hv,H,X,y⟩:=S
 have D:(aC ⟨b,0,none⟩ 0)=⟨b,0,none⟩:=F3 b 0 0
 have W:(aC ⟨b,0,none⟩ 1)=⟨b,1,none⟩:=F3 b 0 1
 have C:=Heap.le_put (.cells #[.slice PA p q,.slice NA m w] e) F
 refine (fnk func171 (os:=[(1,[0,1,2,3,5,6,7,8,4,9,10,11])]) (own:=[2])) ?_
 refine ⟨_,rfl,_,_,_,by rw [D,C4];rfl,_,rfl,_,_,_,by rw [W,C4];rfl,?_⟩
 have E:SlI .u64 (z.put b (.cells #[.slice PA p q,.slice NA m w] e)) PA ps:=SlI.mono C (SlI.mono k.le B.slV)
 have R:SlI .u64 (z.put b (.cells #[.slice PA p q,.slice NA m w] e)) NA i:=SlI.mono C k.slV
 refine Be E dp r rfl B.2.1 o ?_
 intro m1 L M1
 refine ⟨_,_,_,rfl,B0 _,?_⟩
 refine Be R T u rfl k.2.1 o ?_
 intro m2 O M2
 refine ⟨_,_,_,rfl,B0 _,?_⟩
 refine G8 M1 M2 o ⟨_,rfl,?_⟩
 refine B4 (fun x=>?_) (fun x=>?_)
 ·have a:val b64 i<=val b64 ps:=by unfold Bb at x;omega
  refine Cd M1 M2 a o ?_
  intro A3 G c3 V Q l M3
  obtain ⟨d,j⟩:=dO (show 0<=val b64 ps-val b64 i from o)
  rw [j] at M3
  refine ⟨_,_,_,rfl,K6 (v:=d) M3 l ?_⟩
  grind
 ·have a:val b64 ps<=val b64 i:=by
   unfold Bb at x
   omega
  refine Cd M2 M1 a o ?_
  intro A3 G c3 V Q l M3
  obtain ⟨d,j⟩:=dO (show 0<=val b64 i-val b64 ps from o)
  rw [j] at M3
  refine ⟨_,_,_,rfl,K6 (v:=d) M3 l ?_⟩
  grind
def A7d(gl:Gtz h)(i:ZI h s A an ac x)(j:ZI h s' B bn bc y)(hx:ZB m x)(hy:ZB m y)(hm:m<=6400000000)(hK:∀ A' n' c' h',h.le h'->ZI h' false A' n' c' (Int.lcm x y:Int)->K (.agg #[.bool false,.slice A' n' c']) h'):aN prog 286 #[.agg #[.bool s,.slice A an ac],.agg #[.bool s',.slice B bn bc]] h K:=by
 have c:=i.zeroIff
 have d:=j.zeroIff
 have C:=i.len hx hm
 have a:=j.len hy hm
 refine (fnk func286 (own:=[2,3,4])) ?_
 refine C8 (fun l=>?_) (fun S=>C8 (fun l=>?_) (fun M=>?_))
 ·refine hK none 0 0 h (B0 _) ?_
  rw [c.2 o,Int.lcm_zero_left];exact ZI.zero
 ·refine hK none 0 0 h (B0 _) ?_
  rw [d.2 o,Int.lcm_zero_right];exact ZI.zero
 ·refine Ml gl i.mag j.mag i.cap j.cap o o ?_
  intro A3 p c3 Q b r M3
  refine ⟨_,_,_,rfl,b,?_⟩
  rw [Int.gcd_natCast_natCast] at M3
  have G:bZ x.natAbs y.natAbs≠0:=fun e=>by
   grind
  have z:p<=100000000:=by
   refine Nat.le_trans (M3.len_le dc (j:=bn) ?_) a
   have u:=j.mag.lt dc
   have n:bZ x.natAbs y.natAbs<=y.natAbs:=Nat.gcd_le_right _ o
   omega
  refine V4 (j.mag.mono b) M3 j.cap r o o o ?_
  intro A4 q c4 A5 F O H g E L M4 M5
  refine ⟨_,_,_,_,_,_,rfl,g,?_⟩
  have k:q<=100000000:=by
   refine Nat.le_trans (M4.len_le dc (j:=bn) ?_) a
   have u:=j.mag.lt dc
   have n:=bX y.natAbs (bZ x.natAbs y.natAbs)
   omega
  refine F4 (i.mag.mono (A0 b g)) M4 i.cap E o o ?_
  intro A6 N c6 R D w M6
  refine ⟨_,_,_,rfl,hK _ _ _ _ (A0 b (A0 g D)) ⟨w,?_,?_⟩⟩
  ·have:Int.lcm x y=x.natAbs*(y.natAbs/bZ x.natAbs y.natAbs):=by
    show Nat.lcm x.natAbs y.natAbs=_
    rw [Nat.lcm,Nat.mul_div_assoc _ (Nat.gcd_dvd_right _ _)]
   grind
  rfl
end
abbrev RQr:aI->QV->Rat->Prop:=fun h w q=>RQ h w q
abbrev NQr:aI->QV->Rat->Prop:=fun h w q=>NQ h w q
abbrev ZIr:aI->IV->Int->Prop:=fun h w z=>ZI h w.s w.A w.n w.c z
abbrev SSr:aI->List UInt8->List UInt8->Prop:=fun _ w s=>w=s
def Mon{α β:Type}(R:aI->α->β->Prop):Prop:=∀ (h h':aI) (w:α) (x:β),h.le h'->R h w x->R h' w x
def Bj:Mon RQr:=fun _ _ _ _ a i=>⟨i.num.mono a,i.den.mono a⟩
def P2:Mon ZIr:=fun _ _ _ _ a i=>i.mono a
def Jc:Mon SSr:=fun _ _ _ _ _ i=>i
instance:Enc QV:=⟨⟨fun w=>[.bool w.s,.slice w.A w.n w.c,.bool w.s2,.slice w.A2 w.n2 w.c2],4,fun _=>rfl,fun w v hv=>by simp at hv;rcases hv with rfl|rfl|rfl|rfl<;>rfl⟩⟩
section
variable {α β:Type}
def Row(R:aI->α->β->Prop)(g:aI)(xs:List α)(n:Nat)(f:Nat->β):Prop:=∀ i,i<n->∃ w,xs[i]? = some w/\R g w (f i)
variable {R:aI->α->β->Prop} {g g' h h':aI} {xs:List α} {n:Nat} {f:Nat->β}
def Row.mono(m:Mon R)(hl:g.le g')(r:Row R g xs n f):Row R g' xs n f:=fun i b=>by
 obtain ⟨w,e,a⟩:=r i b
 exact ⟨w,e,m _ _ _ _ hl a⟩
def Row.nil:Row R g xs 0 f:=fun i a=>by omega
def Row.set{k:Nat}(r:Row R g xs k f)(hk:k<xs.length){w:α}(hw:R g w (f k)):Row R g (xs.set k w) (k+1) f:=fun i a=>by
 by_cases e:i=k
 ·grind
 ·obtain ⟨u,c,b⟩:=r i o
  grind
def Row.upd(r:Row R g xs n f){k:Nat}(hk:k<xs.length){w:α}{y:β}(hw:R g w y):Row R g (xs.set k w) n (fun i=>if i=k then y else f i):=fun i a=>by
 by_cases e:i=k
 ·grind
 ·obtain ⟨u,c,b⟩:=r i a
  grind
def Row.push(r:Row R g xs xs.length f){w:α}(hw:R g w (f xs.length)):Row R g (xs++[w]) (xs++[w]).length f:=fun i a=>by
 by_cases e:i=xs.length
 ·grind
 ·obtain ⟨u,c,b⟩:=r i gz0
  grind
def Row.congr{f':Nat->β}(r:Row R g xs n f)(h:∀ i,i<n->f i=f' i):Row R g xs n f':=fun i a=>by
 obtain ⟨w,e,b⟩:=r i a
 grind
def Row.get(r:Row R g xs n f){i:Nat}(hi:i<n)(hl:i<xs.length):R g xs[i] (f i):=by
 obtain ⟨w,e,a⟩:=r i hi
 grind
variable [E:Enc α]
def RowV(R:aI->α->β->Prop)(h:aI)(A:Option aO)(n:Nat)(f:Nat->β):Prop:=∃ xs:List α,SlF h A xs/\xs.length=n/\Row R h xs n f
def RowV.mono(m:Mon R){A:Option aO}(hl:h.le h')(r:RowV R h A n f):RowV R h' A n f:=by
 obtain ⟨xs,s,e,r⟩:=r
 exact ⟨xs,s.mono hl,e,r.mono m hl⟩
def RowV.nil{A:Option aO}:RowV R h A 0 f:=⟨[],SlF.nil,rfl,Row.nil⟩
def RowV.congr{A:Option aO}{f':Nat->β}(r:RowV R h A n f)(e:∀ i,i<n->f i=f' i):RowV R h A n f':=by
 obtain ⟨xs,s,l,r⟩:=r
 exact ⟨xs,s,l,r.congr e⟩
def RowV.cut{A:Option aO}(r:RowV R h A n f){c l k:Nat}(hlk:l+k<=n)(hc:n<=c):RowV R h (U3 A c l E.default.size) k (fun i=>f (l+i)):=by
 obtain ⟨xs,s,e,r⟩:=r
 refine ⟨(xs.drop l).take (l+k-l),s.cut (l:=l) (m:=l+k) o o o,gz0,fun i b=>?_⟩
 obtain ⟨w,d,a⟩:=r (l+i) o
 grind
def RowV.at(pos:0<E.default.size){A:Option aO}(r:RowV R h A n f){i:Nat}(hi:i<n):∃ a w,A=some a/\R h w (f i)/\∀ j v,(enc w)[j]? = some v->h.cell? (aC (aC a (i*E.default.size)) j)=some v:=by
 obtain ⟨xs,s,e,r⟩:=r
 obtain ⟨a,b,c⟩:=SlF.at pos s (i:=i) o
 exact ⟨a,xs[i],b,r.get hi o,c⟩
structure Own (R:aI->α->β->Prop) (h h':aI) (b n:Nat) (f:Nat->β):Prop where
 ex:∃ g o xs,h.le g/\Sep h' g o/\dH o b xs/\xs.length=n/\Row R g xs n f
def Own.le{b:Nat}(w:Own R h h' b n f):h.le h':=by
 obtain ⟨g,o,xs,l,s,_⟩:=w.ex
 exact A0 l s.le
def Own.vis(m:Mon R){b:Nat}(w:Own R h h' b n f):RowV R h' (some ⟨b,0,none⟩) n f:=by
 obtain ⟨g,o,xs,l,s,r,e,q⟩:=w.ex
 exact ⟨xs,r.rowB.slF s.ole,e,q.mono m s.le⟩
end
section
variable {h:aI} {A:Option aO} {n:Nat}
def RowV.qat{R:aI->QV->Rat->Prop}{f:Nat->Rat}(r:RowV R h A n f){i:Nat}(hi:i<n):∃ a w,A=some a/\R h w (f i)/\h.cell? (aC (aC a (i*4)) 0)=some (.bool w.s)/\h.cell? (aC (aC a (i*4)) 1)=some (.slice w.A w.n w.c)/\h.cell? (aC (aC a (i*4)) 2)=some (.bool w.s2)/\h.cell? (aC (aC a (i*4)) 3)=some (.slice w.A2 w.n2 w.c2):=by
 obtain ⟨a,w,e,d,b⟩:=r.at dc hi
 exact ⟨a,w,e,d,b 0 _ rfl,b 1 _ rfl,b 2 _ rfl,b 3 _ rfl⟩
def RowV.zat{f:Nat->Int}(r:RowV ZIr h A n f){i:Nat}(hi:i<n):∃ a w,A=some a/\ZIr h w (f i)/\h.cell? (aC (aC a (i*2)) 0)=some (.bool w.s)/\h.cell? (aC (aC a (i*2)) 1)=some (.slice w.A w.n w.c):=by
 obtain ⟨a,w,e,d,b⟩:=r.at dc hi
 exact ⟨a,w,e,d,b 0 _ rfl,b 1 _ rfl⟩
def RowV.sat{f:Nat->List UInt8}(r:RowV SSr h A n f){i:Nat}(hi:i<n):∃ a,A=some a/\h.cell? (aC a (i*1))=some (.string (bs (f i))):=by
 obtain ⟨a,w,e,c,d⟩:=r.at dc hi
 have b:w=f i:=c
 subst b
 refine ⟨a,e,?_⟩
 have:=d 0 _ rfl
 assumption
end
end Go.Proofs.YtbgkfnjmcjfokaaGreatDoor
namespace Go.Proofs.YtbgkfnjmcjfokaaGreatDoor
set_option maxRecDepth 20000
def sm:Nat->(Nat->Rat)->Rat
 | 0,_=>0
 | n+1,f=>sm n f+f n
def O0{n:Nat}{f g:Nat->Rat}(h:∀ i,i<n->f i=g i):sm n f=sm n g:=by
 induction n with
 | zero=>rfl
 | succ n ih=>rw [sm,sm,ih (fun i a=>h i o),h n o]
def Xc{n:Nat}{f:Nat->Rat}(h:∀ i,i<n->f i=0):sm n f=0:=by
 induction n with
 | zero=>rfl
 | succ n ih=>rw [sm,ih (fun i a=>h i o),h n o];exact bH 0
def A4m(n:Nat)(f g:Nat->Rat):sm n (fun i=>f i+g i)=sm n f+sm n g:=by
 induction n with
 | zero=>simp only [sm];exact (bH 0).symm
 | succ n ih=>simp only [sm];rw [ih];grind
def A4l(n:Nat)(a:Rat)(f:Nat->Rat):sm n (fun i=>a*f i)=a*sm n f:=by
 induction n with
 | zero=>simp only [sm];grind
 | succ n ih=>simp only [sm];rw [ih];grind
def A8a(n:Nat)(f:Nat->Rat):sm n (fun i=> - f i)= - sm n f:=by
 induction n with
 | zero=>simp only [sm];grind
 | succ n ih=>simp only [sm];rw [ih];grind
def B6t(n m:Nat)(f:Nat->Nat->Rat):sm n (fun i=>sm m (f i))=sm m (fun j=>sm n (fun i=>f i j)):=by
 induction n with
 | zero=>rw [sm];exact (Xc fun _ _=>rfl).symm
 | succ n ih=>simp only [sm];rw [ih,<- A4m]
def B5b{n k:Nat}(hk:k<n){f:Nat->Rat}(h:∀ i,i<n->i≠k->f i=0):sm n f=f k:=by
 induction n with
 | zero=>omega
 | succ n ih=>
  rw [sm]
  by_cases e:k=n
  ·subst e;rw [Xc fun i b=>h i o o];exact Rat.zero_add _
  ·rw [ih o fun i b a=>h i o a,h n o o];exact bH _
def rhx(l i:Nat):Nat:=if i<l then i else i+1
def C07(l i:Nat):rhx l i≠l:=by unfold rhx;split<;>omega
def A4p{l i k:Nat}(hi:i<k):rhx l i<k+1:=by unfold rhx;split<;>omega
def C03{k a:Nat}(ha:a<=k)(t:Nat->Rat):sm k (fun i=>t (rhx a i))=sm (k+1) (fun b=>if b=a then 0 else t b):=by
 induction k generalizing a with
 | zero=>
  show (0:Rat)=0+(if 0=a then 0 else t 0)
  rw [iP o];exact (bH 0).symm
 | succ k ih=>
  show sm k (fun i=>t (rhx a i))+t (rhx a k)=sm (k+1) (fun b=>if b=a then 0 else t b)+(if k+1=a then 0 else t (k+1))
  by_cases e:a=k+1
  ·rw [iP e.symm,bH]
   show sm k (fun i=>t (rhx a i))+t (rhx a k)=sm k (fun b=>if b=a then 0 else t b)+(if k=a then 0 else t k)
   rw [iN o]
   congr 1
   ·exact O0 fun i c=>by rw [rhx,iP o,iN o]
   ·rw [rhx,iP o]
  ·rw [ih o,iN (fun x=>e x.symm)]
   congr 1
   rw [rhx,iN o]
def sg(n:Nat):Rat:=if n%2=0 then 1 else -1
def dt:Nat->(Nat->Nat->Rat)->Rat
 | 0,_=>1
 | k+1,X=>sm (k+1) fun l=>sg (k+l)*X k l*dt k (fun c r=>X c (rhx l r))
def Y7{k:Nat}: ∀ {X Y:Nat->Nat->Rat},(∀ c r,c<k->r<k->X c r=Y c r)->dt k X=dt k Y:=by
 induction k with
 | zero=>intros;rfl
 | succ k ih=>
  intro X Y h
  rw [dt,dt]
  refine O0 fun l a=>?_
  rw [h k l o a,ih fun c r d b=>h c (rhx l r) o (A4p b)]
def rc(X:Nat->Nat->Rat)(m:Nat)(y:Nat->Rat):Nat->Nat->Rat:=fun c r=>if c=m then y r else X c r
def Ev(X:Nat->Nat->Rat)(m:Nat)(y:Nat->Rat)(l:Nat):(fun c r=>rc X m y c (rhx l r))=rc (fun c r=>X c (rhx l r)) m (fun r=>y (rhx l r)):=by
 funext c r;unfold rc;split<;>rfl
def A1i{k:Nat}: ∀ (X:Nat->Nat->Rat) {m:Nat} (_:m<k) (y z:Nat->Rat),dt k (rc X m fun r=>y r+z r)=dt k (rc X m y)+dt k (rc X m z):=by
 induction k with
 | zero=>intros;omega
 | succ k ih=>
  intro X m a y z
  rw [dt,dt,dt,<- A4m]
  refine O0 fun l b=>?_
  by_cases e:m=k
  ·subst e
   have:∀ u:Nat->Rat,dt m (fun c r=>rc X m u c (rhx l r))=dt m (fun c r=>X c (rhx l r)):=fun u=>Y7 fun c r d _=>by rw [rc,iN o]
   rw [this,this,this]
   simp only [rc,if_true]
   grind
  ·rw [Ev,Ev,Ev,ih _ o]
   simp only [rc,iN (fun x:k=m=>e x.symm)]
   grind
def B0o{k:Nat}: ∀ (X:Nat->Nat->Rat) {m:Nat} (_:m<k) (a:Rat) (y:Nat->Rat),dt k (rc X m fun r=>a*y r)=a*dt k (rc X m y):=by
 induction k with
 | zero=>intros;omega
 | succ k ih=>
  intro X m b a y
  rw [dt,dt,<- A4l]
  refine O0 fun l d=>?_
  by_cases e:m=k
  ·subst e
   have:∀ u:Nat->Rat,dt m (fun c r=>rc X m u c (rhx l r))=dt m (fun c r=>X c (rhx l r)):=fun u=>Y7 fun c r g _=>by rw [rc,iN o]
   rw [this,this]
   simp only [rc,if_true]
   grind
  ·rw [Ev,Ev,ih _ o]
   simp only [rc,iN (fun x:k=m=>e x.symm)]
   grind
def B8m{k:Nat}(X:Nat->Nat->Rat){m:Nat}(hm:m<k):dt k (rc X m fun _=>0)=0:=by
 have:=B0o X hm 0 (fun _=>0)
 rw [bG] at this
 simpa only [bG] using this
def B67{k:Nat}(X:Nat->Nat->Rat){m:Nat}(hm:m<k)(a:Nat->Rat)(Y:Nat->Nat->Rat):∀ n,dt k (rc X m fun r=>sm n fun t=>a t*Y t r)=sm n fun t=>a t*dt k (rc X m (Y t)):=by
 intro n
 induction n with
 | zero=>exact B8m X hm
 | succ n ih=>
  simp only [sm]
  rw [A1i X hm,ih,B0o X hm]
def A36(X:Nat->Nat->Rat)(m:Nat):rc X m (X m)=X:=by
 funext c r;unfold rc;split
 ·rename_i e;rw [e]
 ·rfl
def A5a{k:Nat}(X:Nat->Nat->Rat)(h:∀ r,r<k+2->X k r=X (k+1) r):dt (k+2) X=0:=by
 let mn:Nat->Nat->Rat:=fun a b=>dt k (fun c r=>X c (if a<b then rhx a (rhx (b-1) r) else rhx b (rhx (a-1) r)))
 let G:Nat->Nat->Rat:=fun a b=>if a=b then 0 else if b<a then sg (a+b)*X (k+1) a*X (k+1) b*mn a b else-(sg (a+b)*X (k+1) a*X (k+1) b*mn a b)
 have n:∀ a b,mn a b=mn b a:=by
  intro a b
  show dt k _=dt k _
  refine Y7 fun c r _ _=>?_
  by_cases d:a<b
  ·rw [iP d,iN o]
  ·by_cases p:b<a
   ·rw [iN d,iP p]
   ·have:a=b:=o
    subst this;rfl
 have w:∀ a b,G b a= - G a b:=by
  intro a b
  show (if b=a then 0 else if a<b then _ else _)= - (if a=b then 0 else if b<a then _ else _)
  by_cases e:a=b
  ·rw [iP e,iP e.symm];grind
  ·rw [iN e,iN (fun x=>e x.symm)]
   have B:=n a b
   by_cases d:a<b
   ·rw [iP d,iN o,dR b a];grind
   ·rw [iN d,iP o,dR b a];grind
 have g:dt (k+2) X=sm (k+2) fun a=>sm (k+2) fun b=>G a b*sg (k+1+k):=by
  rw [dt]
  refine O0 fun a z=>?_
  have q:(fun b=>G a b*sg (k+1+k))=(fun b=>if b=a then 0 else (fun b=>G a b*sg (k+1+k)) b):=by
   funext b
   by_cases e:b=a
   ·subst e;rw [iP rfl];show (if b=b then 0 else _)*_=_;rw [iP rfl];grind
   ·rw [iN e]
  rw [q,<- C03 o (fun b=>G a b*sg (k+1+k)),dt,<- A4l]
  refine O0 fun i u=>?_
  have m:X k (rhx a i)=X (k+1) (rhx a i):=h _ (A4p u)
  have l:dt k (fun c r=>X c (rhx a (rhx i r)))=mn a (rhx a i):=by
   show _=dt k _
   refine Y7 fun c r _ _=>?_
   by_cases d:i<a
   ·have j:rhx a i=i:=by rw [rhx,iP d]
    rw [j,iN o]
    congr 1
    simp only [rhx]
    repeat' split
    all_goals omega
   ·have j:rhx a i=i+1:=by rw [rhx,iN d]
    rw [j,iP o,Nat.add_sub_cancel]
  rw [m,l]
  show _=(if a=rhx a i then 0 else if rhx a i<a then _ else _)*_
  rw [iN (fun e=>C07 a i e.symm)]
  have A:∀ x y:Nat,x%2=y%2->sg x=sg y:=fun x y e=>by unfold sg;rw [e]
  by_cases d:i<a
  ·have j:rhx a i=i:=by rw [rhx,iP d]
   rw [j,iP d]
   have s:sg (k+1+a)*sg (k+i)=sg (a+i)*sg (k+1+k):=by
    unfold sg
    repeat' split
    all_goals first|omega|grind
   grind
  ·have j:rhx a i=i+1:=by rw [rhx,iN d]
   rw [j,iN o]
   have s:sg (k+1+a)*sg (k+i)= - sg (a+(i+1))*sg (k+1+k):=by
    unfold sg
    repeat' split
    all_goals first|omega|grind
   grind
 have p:dt (k+2) X= - dt (k+2) X:=by
  have:dt (k+2) X=sm (k+2) fun a=>sm (k+2) fun b=>G b a*sg (k+1+k):=by
   rw [g];exact B6t _ _ _
  refine this.trans ?_
  rw [g,<- A8a]
  refine O0 fun a _=>?_
  rw [<- A8a]
  exact O0 fun b _=>by rw [w];grind
 grind
def B8o:∀ {k:Nat} (X:Nat->Nat->Rat) {p q:Nat} (_:p<q) (_:q<k) (_:∀ r,r<k->X p r=X q r),dt k X=0:=by
 intro k
 induction k with
 | zero=>intros;omega
 | succ k ih=>
  intro X p q g C h
  by_cases e:q=k
  ·subst e
   by_cases B:p+1=q
   ·subst B
    exact A5a X h
   ·
    obtain ⟨k',rfl⟩:∃ k',q=k'+1:=⟨q-1,o⟩
    have m:p<k':=o
    have swap:∀ (Z:Nat->Nat->Rat),dt (k'+1) (rc (rc Z p (Z k')) k' (Z p))= - dt (k'+1) Z:=by
     intro Z
     have j:∀ y:Nat->Rat,dt (k'+1) (rc (rc Z p y) k' y)=0:=fun y=>ih _ m o fun r _=>by
      unfold rc;rw [iN o,iP rfl,iP rfl]
     have comm:∀ y z:Nat->Rat,rc (rc Z p y) k' z=rc (rc Z k' z) p y:=by
      intro y z;funext c r;unfold rc
      by_cases b:c=k'
      ·by_cases a:c=p
       ·omega
       ·rw [iP b,iN a,iP b]
      ·by_cases a:c=p
       ·rw [iN b,iP a,iP a]
       ·rw [iN b,iN a,iN a,iN b]
     have d:=j (fun r=>Z p r+Z k' r)
     rw [A1i _ o] at d
     rw [comm _ (Z p),comm _ (Z k'),A1i _ o,A1i _ o] at d
     rw [<- comm,<- comm,<- comm,<- comm] at d
     rw [j (Z p),j (Z k')] at d
     have u:rc (rc Z p (Z p)) k' (Z k')=Z:=by rw [A36,A36]
     rw [u] at d
     grind
    have A:dt (k'+1+1) X= - dt (k'+1+1) (rc (rc X p (X k')) k' (X p)):=by
     rw [dt,dt,<- A8a]
     refine O0 fun l _=>?_
     have w:rc (rc X p (X k')) k' (X p) (k'+1) l=X (k'+1) l:=by unfold rc;rw [iN o,iN o]
     have n:(fun c r=>rc (rc X p (X k')) k' (X p) c (rhx l r))=rc (rc (fun c r=>X c (rhx l r)) p (fun r=>X k' (rhx l r))) k' (fun r=>X p (rhx l r)):=by
      rw [Ev,Ev]
     have:=swap (fun c r=>X c (rhx l r))
     rw [w,n,this]
     grind
    rw [A,A5a _ fun r i=>?_]
    ·grind
    ·have s:rc (rc X p (X k')) k' (X p) k' r=X p r:=by unfold rc;rw [iP rfl]
     have x:rc (rc X p (X k')) k' (X p) (k'+1) r=X (k'+1) r:=by unfold rc;rw [iN o,iN o]
     rw [s,x];exact h r i
  ·rw [dt]
   refine Xc fun l _=>?_
   rw [ih _ g o fun r i=>h (rhx l r) (A4p i)]
   grind
def B8n{k:Nat}(X:Nat->Nat->Rat)(h:∀ r,r<k->X k r=0):dt (k+1) X=X k k*dt k X:=by
 rw [dt,B5b (k:=k) o fun i e b=>by rw [h i o];grind]
 have:dt k (fun c r=>X c (rhx k r))=dt k X:=Y7 fun c r _ d=>by rw [rhx,iP d]
 have a:sg (k+k)=1:=by unfold sg;rw [iP o]
 rw [this,a,Rat.one_mul]
def Wh(q:Rat):Prop:=∃ z:Int,q=(z:Rat)
def Wh.add{p q:Rat}(hp:Wh p)(hq:Wh q):Wh (p+q):=by
 obtain ⟨a,rfl⟩:=hp;obtain ⟨b,rfl⟩:=hq
 exact ⟨a+b,by rw [aX]⟩
def Wh.mul{p q:Rat}(hp:Wh p)(hq:Wh q):Wh (p*q):=by
 obtain ⟨a,rfl⟩:=hp;obtain ⟨b,rfl⟩:=hq
 exact ⟨a*b,by rw [aF]⟩
def Wh.sg(n:Nat):Wh (sg n):=by
 unfold Go.Proofs.YtbgkfnjmcjfokaaGreatDoor.sg
 split
 ·exact ⟨1,rfl⟩
 ·exact ⟨-1,by decide +kernel⟩
def Wh.sm{n:Nat}{f:Nat->Rat}(h:∀ i,i<n->Wh (f i)):Wh (sm n f):=by
 induction n with
 | zero=>exact ⟨0,rfl⟩
 | succ n ih=>exact (ih fun i a=>h i o).add (h n o)
def C2f{k:Nat}: ∀ {X:Nat->Nat->Rat},(∀ c r,c<k->r<k->Wh (X c r))->Wh (dt k X):=by
 induction k with
 | zero=>intro X _;exact ⟨1,rfl⟩
 | succ k ih=>
  intro X h
  rw [dt]
  refine Wh.sm fun l a=>?_
  exact ((Wh.sg _).mul (h k l o a)).mul (ih fun c r d b=>h c _ o (A4p b))
structure Elim (n w:Nat) (B R:Nat->Nat->Rat) (cs:Nat->Nat) (k:Nat):Prop where
 kn:k<=n
 cw:∀ m,m<k->cs m<w
 piv:∀ l m,l<k->m<k->R l (cs m)=if l=m then 1 else 0
 low:∀ i m,i<n->k<=i->m<k->R i (cs m)=0
 top:∀ l j,l<k->j<w->B l j=sm k fun m=>B l (cs m)*R m j
 bot:∀ i j,i<n->k<=i->j<w->B i j=R i j+sm k fun m=>B i (cs m)*R m j
def dp(B:Nat->Nat->Rat)(cs:Nat->Nat)(k:Nat):Rat:=dt k fun c r=>B r (cs c)
section
variable {n w:Nat} {B R:Nat->Nat->Rat} {cs:Nat->Nat} {k:Nat}
def Elim.below(E:Elim n w B R cs k){i j:Nat}(hi:i<n)(hk:k<=i)(hj:j<w):dp B cs k*R i j=dt (k+1) fun c r=>B (if r<k then r else i) (if c<k then cs c else j):=by
 have d:(fun c r=>B (if r<k then r else i) (if c<k then cs c else j))=rc (fun c r=>B (if r<k then r else i) (cs c)) k (fun r=>B (if r<k then r else i) j)\/True:=.inr trivial
 clear d
 let X:Nat->Nat->Rat:=fun c r=>B (if r<k then r else i) (cs c)
 have e:dt (k+1) (fun c r=>B (if r<k then r else i) (if c<k then cs c else j))=dt (k+1) (rc X k fun r=>(sm k fun t=>R t j*X t r)+(if r<k then 0 else R i j)):=by
  refine Y7 fun c r l b=>?_
  unfold rc
  by_cases h:c=k
  ·subst h
   rw [iN (dJ c),iP rfl]
   show _=(sm c fun t=>R t j*X t r)+(if r<c then 0 else R i j)
   by_cases a:r<c
   ·rw [iP a,iP a,bH,E.top r j a hj]
    refine O0 fun m _=>?_
    show _=_*B (if r<c then r else i) (cs m)
    rw [iP a,cU]
   ·rw [iN a,iN a,E.bot i j hi hk hj,Rat.add_comm]
    congr 1
    refine O0 fun m _=>?_
    show _=_*B (if r<c then r else i) (cs m)
    rw [iN a,cU]
  ·rw [iN h,iP (show c<k from o)]
 rw [e,A1i _ o,B67 X o (fun t=>R t j) X]
 rw [Xc fun t g=>by
  rw [B8o (rc X k (X t)) (p:=t) (q:=k) g o fun r _=>by unfold rc;rw [iN o,iP rfl]]
  exact cI _]
 rw [B8n _ fun r b=>by unfold rc;rw [iP rfl];show (if r<k then 0 else R i j)=0;rw [iP b]]
 have s:dt k (rc X k fun r=>if r<k then 0 else R i j)=dp B cs k:=by
  refine Y7 fun c r l b=>?_
  unfold rc
  rw [iN o]
  show B (if r<k then r else i) (cs c)=_
  rw [iP b]
 rw [s]
 unfold rc
 rw [iP rfl]
 show _=0+(if k<k then 0 else R i j)*_
 rw [iN (dJ k)]
 grind
def Elim.above(E:Elim n w B R cs k){i j:Nat}(hi:i<k)(hj:j<w):dp B cs k*R i j=dt k (rc (fun c r=>B r (cs c)) i fun r=>B r j):=by
 let X:Nat->Nat->Rat:=fun c r=>B r (cs c)
 have d:dt k (rc X i fun r=>B r j)=dt k (rc X i fun r=>sm k fun t=>R t j*X t r):=by
  refine Y7 fun c r g b=>?_
  unfold rc
  split
  ·show B r j=sm k fun t=>R t j*X t r
   rw [E.top r j b hj]
   exact O0 fun m _=>cU _ _
  ·rfl
 show _=dt k (rc X i fun r=>B r j)
 rw [d,B67 X hi (fun t=>R t j) X,B5b (k:=i) hi fun t e a=>?_]
 ·rw [A36,cU];rfl
 ·rcases Nat.lt_or_ge t i with h|h
  ·rw [B8o (rc X i (X t)) (p:=t) (q:=i) h hi fun r _=>by unfold rc;rw [iN o,iP rfl]]
   exact cI _
  ·rw [B8o (rc X i (X t)) (p:=i) (q:=t) o e fun r _=>by unfold rc;rw [iP rfl,iN o]]
   exact cI _
def Elim.whole(E:Elim n w B R cs k)(hB:∀ i j,i<n->j<w->Wh (B i j)){i j:Nat}(hi:i<n)(hj:j<w):Wh (dp B cs k*R i j):=by
 by_cases h:i<k
 ·rw [E.above h hj]
  refine C2f fun c r a b=>?_
  have:=E.kn
  unfold rc
  split
  ·exact hB r j o hj
  ·exact hB r _ o (E.cw c a)
 ·rw [E.below hi o hj]
  refine C2f fun c r a b=>?_
  refine hB _ _ ?_ ?_
  ·split<;>omega
  ·split
   ·exact E.cw c (by assumption)
   ·exact hj
def Elim.next(E:Elim n w B R cs k){j:Nat}(hk:k<n)(hj:j<w)(hc:cs k=j):dp B cs (k+1)=dp B cs k*R k j:=by
 rw [E.below hk (aJ _) hj]
 refine Y7 fun c r b e=>?_
 have d:(if r<k then r else k)=r:=by split<;>omega
 have a:(if c<k then cs c else j)=cs c:=by
  split
  ·rfl
  ·have:c=k:=o
   rw [this,hc]
 rw [d,a]
def Dz(R:Nat->Nat->Rat)(k j:Nat):Nat->Nat->Rat:=fun a b=>if a=k then R k b/R k j else R a b-R a j*(R k b/R k j)
def Elim.step(E:Elim n w B R cs k){j:Nat}(hk:k<n)(hj:j<w)(hc:cs k=j)(hne:R k j≠0):Elim n w B (Dz R k j) cs (k+1):=by
 have d:∀ m,m<k->R k (cs m)=0:=fun m q=>E.low k m hk (aJ _) q
 have p:R k j/R k j=1:=gz0
 refine ⟨o,fun m q=>?_,fun l m D q=>?_,fun i m r y q=>?_,fun l b D s=>?_,fun i b r y s=>?_⟩
 ·by_cases e:m=k
  ·rw [e,hc];exact hj
  ·exact E.cw m o
 ·unfold Dz
  by_cases u:m=k
  ·subst u
   rw [hc]
   by_cases c:l=m
   ·rw [iP c,iP c];exact p
   ·rw [iN c,iN c,p];grind
  ·have a:m<k:=o
   rw [d m a]
   by_cases c:l=k
   ·subst c
    rw [iP rfl,iN o];grind
   ·rw [iN c,E.piv l m o a]
    grind
 ·unfold Dz
  rw [iN o]
  by_cases u:m=k
  ·subst u
   rw [hc,p];grind
  ·have a:m<k:=o
   rw [d m a,E.low i m r o a]
   grind
 ·rw [sm]
  have x:(Dz R k j) k b=R k b/R k j:=by unfold Dz;rw [iP rfl]
  have z:sm k (fun m=>B l (cs m)*Dz R k j m b)=sm k (fun m=>B l (cs m)*R m b)-sm k (fun m=>B l (cs m)*R m j)*(R k b/R k j):=by
   have:(fun m=>B l (cs m)*Dz R k j m b)=fun m=>if m=k then B l (cs k)*(R k b/R k j) else B l (cs m)*R m b+(-(R k b/R k j))*(B l (cs m)*R m j):=by
    funext m
    unfold Dz
    by_cases e:m=k
    ·rw [iP e,iP e,e]
    ·rw [iN e,iN e];grind
   rw [this,O0 (g:=fun m=>B l (cs m)*R m b+(-(R k b/R k j))*(B l (cs m)*R m j)) fun m q=>by rw [iN o]]
   rw [A4m,A4l];grind
  rw [x,z,hc]
  by_cases c:l=k
  ·subst c
   have C:=E.bot l b hk (aJ _) s
   have A:=E.bot l j hk (aJ _) hj
   grind
  ·have C:=E.top l b o s
   have A:=E.top l j o hj
   grind
 ·rw [sm]
  have x:(Dz R k j) k b=R k b/R k j:=by unfold Dz;rw [iP rfl]
  have z:sm k (fun m=>B i (cs m)*Dz R k j m b)=sm k (fun m=>B i (cs m)*R m b)-sm k (fun m=>B i (cs m)*R m j)*(R k b/R k j):=by
   have:(fun m=>B i (cs m)*Dz R k j m b)=fun m=>if m=k then B i (cs k)*(R k b/R k j) else B i (cs m)*R m b+(-(R k b/R k j))*(B i (cs m)*R m j):=by
    funext m
    unfold Dz
    by_cases e:m=k
    ·rw [iP e,iP e,e]
    ·rw [iN e,iN e];grind
   rw [this,O0 (g:=fun m=>B i (cs m)*R m b+(-(R k b/R k j))*(B i (cs m)*R m j)) fun m q=>by rw [iN o]]
   rw [A4m,A4l];grind
  have F:Dz R k j i b=R i b-R i j*(R k b/R k j):=by unfold Dz;rw [iN o]
  have C:=E.bot i b r o s
  have A:=E.bot i j r o hj
  rw [x,z,F,hc]
  grind
def xch(k l:Nat)(i:Nat):Nat:=if i=k then l else if i=l then k else i
def Elim.swap(E:Elim n w B R cs k){l:Nat}(hk:k<=l)(hl:l<n):Elim n w (fun i=>B (xch k l i)) (fun i=>R (xch k l i)) cs k:=by
 have g:∀ i,i<k->xch k l i=i:=fun i e=>by unfold xch;rw [iN o,iN o]
 have q:∀ i,i<n->k<=i->xch k l i<n/\k<=xch k l i:=fun i s r=>by unfold xch;split<;>(try split)<;>omega
 refine ⟨E.kn,E.cw,fun a m d b=>?_,fun i m e c b=>?_,fun a j d p=>?_,fun i j e c p=>?_⟩
 ·show R (xch k l a) _=_
  rw [g a d];exact E.piv a m d b
 ·have:=q i e c
  exact E.low _ m this.1 this.2 b
 ·show B (xch k l a) j=sm k fun m=>B (xch k l a) (cs m)*R (xch k l m) j
  rw [g a d,E.top a j d p]
  exact O0 fun m b=>by rw [g m b]
 ·have:=q i e c
  show B (xch k l i) j=R (xch k l i) j+sm k fun m=>B (xch k l i) (cs m)*R (xch k l m) j
  rw [E.bot _ j this.1 this.2 p]
  congr 1
  exact O0 fun m b=>by rw [g m b]
def B8p(B:Nat->Nat->Rat)(cs:Nat->Nat){k l:Nat}(hk:k<=l):dp (fun i=>B (xch k l i)) cs k=dp B cs k:=by
 refine Y7 fun c r _ a=>?_
 show B (xch k l r) _=_
 unfold xch;rw [iN o,iN o]
def Elim.start:Elim n w B B cs 0:=by
 refine ⟨dB _,fun m a=>o,fun l m b=>o,fun i m _ _ a=>o,fun l j b=>o,fun i j _ _ _=>by rw [sm,bH]⟩
def Elim.cs_congr{cs':Nat->Nat}(E:Elim n w B R cs k)(h:∀ m,m<k->cs m=cs' m):Elim n w B R cs' k:=by
 refine ⟨E.kn,fun m a=>by rw [<- h m a];exact E.cw m a,fun l m c a=>by rw [<- h m a];exact E.piv l m c a,fun i m e d a=>by rw [<- h m a];exact E.low i m e d a,fun l j c b=>?_,fun i j e d b=>?_⟩
 ·rw [E.top l j c b];exact O0 fun m a=>by rw [h m a]
 ·rw [E.bot i j e d b];congr 1;exact O0 fun m a=>by rw [h m a]
def B47{cs':Nat->Nat}(h:∀ m,m<k->cs m=cs' m):dp B cs k=dp B cs' k:=Y7 fun c r a _=>by rw [h c a]
end
end Go.Proofs.YtbgkfnjmcjfokaaGreatDoor
namespace Go.Proofs.YtbgkfnjmcjfokaaGreatDoor
set_option maxRecDepth 20000
def fnd(p:Nat->Bool):Nat->Nat->Nat
 | 0,i=>i
 | f+1,i=>bif p i then i else fnd p f (i+1)
def B05(p:Nat->Bool):∀ f i,i<=fnd p f i/\fnd p f i<=i+f:=by
 intro f
 induction f with
 | zero=>intro i;simp [fnd]
 | succ f ih=>
  intro i
  unfold fnd
  grind
def A3q(p:Nat->Bool):∀ f i,fnd p f i<i+f->p (fnd p f i)=true:=by
 intro f
 induction f with
 | zero=>intro i h;simp [fnd] at h
 | succ f ih=>
  intro i h
  unfold fnd at h ⊢
  grind
def A57(p:Nat->Bool):∀ f i j,i<=j->j<fnd p f i->p j=false:=by
 intro f
 induction f with
 | zero=>intro i j b a;simp [fnd] at a;omega
 | succ f ih=>
  intro i j b a
  unfold fnd at a
  grind
def B06{p q:Nat->Bool}: ∀ f i,(∀ j,i<=j->j<i+f->p j=q j)->fnd p f i=fnd q f i:=by
 intro f
 induction f with
 | zero=>intros;rfl
 | succ f ih=>
  intro i h
  unfold fnd
  grind
def B5y(p:Nat->Bool){f i k:Nat}(h1:i<=k)(h2:k<=i+f)(h3:∀ j,i<=j->j<k->p j=false)(h4:k<i+f->p k=true):fnd p f i=k:=by
 have a:=B05 p f i
 rcases Nat.lt_trichotomy (fnd p f i) k with h|h|h
 ·have:=A3q p f i o;grind
 ·exact h
 ·have:=A57 p f i k h1 h;grind
structure ES where
 R:Nat->Nat->Rat
 cs:List Nat
 det:Rat
def Ot(R:Nat->Nat->Rat)(k j:Nat):Nat->Nat->Rat:=fun a b=>if a=k then R k b/R k j else if R a j=0\/b<j then R a b else R a b-R a j*(R k b/R k j)
def A8j(n c:Nat)(s:ES):Nat:=fnd (fun i=>decide (s.R i c≠0)) (n-s.cs.length) s.cs.length
def Ue(n c:Nat)(s:ES):ES:=
 if s.cs.length<n then
  if A8j n c s<n then
   { R:=Ot (fun i=>s.R (xch s.cs.length (A8j n c s) i)) s.cs.length c
     cs:=s.cs++[c]
     det:=(if A8j n c s=s.cs.length then s.det else-s.det)*s.R (A8j n c s) c }
  else { s with det:=0 }
 else s
def C36(n:Nat)(s:ES):Nat->ES
 | 0=>s
 | c+1=>Ue n c (C36 n s c)
structure PS where
 M:Nat->Nat->Int
 S:Nat->Rat
 cs:List Nat
 last:Int
 sgn:Int
def clr(M:Nat->Nat->Int)(r c:Nat)(d:Int):Nat->Nat->Int:=fun a b=>if a=r then M r b else (M r c*M a b-M a c*M r b).tdiv d
def Uj(n c:Nat)(s:PS):Nat:=fnd (fun i=>decide (s.M i c≠0)) (n-s.cs.length) s.cs.length
def Gw(n c:Nat)(s:PS):PS:=
 if Uj n c s<n then
  { M:=clr (fun i=>s.M (xch s.cs.length (Uj n c s) i)) s.cs.length c s.last
    S:=fun i=>s.S (xch s.cs.length (Uj n c s) i)
    cs:=s.cs++[c]
    last:=s.M (Uj n c s) c
    sgn:=if Uj n c s=s.cs.length then s.sgn else-s.sgn }
 else s
def Ge(n:Nat)(s:PS):Nat->PS
 | 0=>s
 | c+1=>Gw n c (Ge n s c)
def pr:Nat->(Nat->Rat)->Rat
 | 0,_=>1
 | n+1,f=>pr n f*f n
def B3b{n:Nat}{f g:Nat->Rat}(h:∀ i,i<n->f i=g i):pr n f=pr n g:=by
 induction n with
 | zero=>rfl
 | succ n ih=>rw [pr,pr,ih (fun i a=>h i o),h n o]
def A49(k l:Nat):xch k l k=l:=by unfold xch;grind
def A48{k l i n:Nat}(hk:k<n)(hl:l<n)(hi:i<n):xch k l i<n:=by unfold xch;grind
def B52{k l i:Nat}(hkl:k<=l)(hi:k<=i):k<=xch k l i:=by unfold xch;grind
def Zo{k l i:Nat}(hkl:k<=l)(hi:i<k):xch k l i=i:=by unfold xch;grind
def A2p{x d z:Int}(hd:d≠0)(h:x=d*z):x.tdiv d=z:=by
 simp_all
structure ERel (n w c:Nat) (A:Nat->Nat->Rat) (s:ES) (t:PS):Prop where
 cs:s.cs=t.cs
 elim:∃ B,(∀ i j,i<n->j<w->Wh (B i j))/\Elim n w B (fun i j=>if i<s.cs.length then s.R i j else t.S i*s.R i j) (fun m=>s.cs.getD m 0) s.cs.length/\(t.last:Rat)=dp B (fun m=>s.cs.getD m 0) s.cs.length
 last:t.last≠0
 val:∀ i j,i<n->j<w->(t.M i j:Rat)=t.last*(if i<s.cs.length then s.R i j else t.S i*s.R i j)
 scale:∀ i,i<n->t.S i≠0
 zero:∀ i j,i<n->s.cs.length<=i->j<c->s.R i j=0
 asc:s.cs.length<=c
 det:s.cs.length=c->s.det*pr s.cs.length t.S=t.sgn*t.last
 miss:s.cs.length<c->s.cs.length<n->s.det=0
 sgn:t.sgn=1\/t.sgn= -1
def Bn{z:Int}(h:z≠0):(z:Rat)≠0:=by
 simp_all
def ERel.start{n w:Nat}{A:Nat->Nat->Rat}{M:Nat->Nat->Int}{S:Nat->Rat}(h:∀ i j,i<n->j<w->(M i j:Rat)=S i*A i j)(hS:∀ i,i<n->S i≠0):ERel n w 0 A ⟨A,[],1⟩ ⟨M,S,[],1,1⟩:=by
 refine ⟨rfl,⟨fun i j=>S i*A i j,fun i j b a=>⟨M i j,(h i j b a).symm⟩,?_,rfl⟩,(by decide:(1:Int)≠0),fun i j b a=>?_,hS,fun i j _ _ a=>o,aJ _,fun _=>?_,fun h=>by simp at h,.inl rfl⟩
 ·show Elim n w _ (fun i j=>if i<([]:List Nat).length then A i j else S i*A i j) _ 0
  exact Elim.start
 ·grind
 rfl
def B01(l:List Nat)(c:Nat):∀ m,m<l.length->(l++[c]).getD m 0=l.getD m 0:=by
 grind
def ERel.row{n w c:Nat}{A:Nat->Nat->Rat}{s:ES}{t:PS}(h:ERel n w c A s t)(hc:c<w):Uj n c t=A8j n c s:=by
 unfold Uj A8j
 rw [<- h.cs]
 refine B06 _ _ fun j g b=>?_
 have a:=h.val j c o hc
 have i:=Bn h.last
 have d:=h.scale j o
 refine decide_eq_decide.2 (not_congr ⟨fun e=>?_,fun e=>?_⟩)
 ·rw [e] at a
  grind
 simp_all
def ERel.step{n w c:Nat}{A:Nat->Nat->Rat}{s:ES}{t:PS}(h:ERel n w c A s t)(hc:c<w):ERel n w (c+1) A (Ue n c s) (Gw n c t):=by
 have T:=h.row hc
 have a:=B05 (fun i=>decide (s.R i c≠0)) (n-s.cs.length) s.cs.length
 have H:=A57 (fun i=>decide (s.R i c≠0)) (n-s.cs.length) s.cs.length
 have O:=A3q (fun i=>decide (s.R i c≠0)) (n-s.cs.length) s.cs.length
 have hR:fnd (fun i=>decide (s.R i c≠0)) (n-s.cs.length) s.cs.length=A8j n c s:=rfl
 rw [hR] at a H O
 obtain ⟨B,hB,E,hD⟩:=h.elim
 unfold Ue Gw
 rw [T]
 by_cases x:A8j n c s<n
 ·have p:s.cs.length<n:=o
  rw [iP p,iP x,iP x,<- h.cs]
  generalize hr:A8j n c s=r at *
  generalize hl:s.cs.length=k at *
  have E1:=E.swap (l:=r) a.1 x
  have F:∀ m,m<k->s.cs.getD m 0=(s.cs++[c]).getD m 0:=fun m hm=>(B01 s.cs c m o).symm
  have E2:=E1.cs_congr F
  have y:(s.cs++[c]).getD k 0=c:=gz0
  have q:(s.cs++[c]).length=k+1:=gz0
  have xk:xch k r k=r:=A49 k r
  have ai:=h.scale r x
  have ab:t.S r*s.R r c≠0:=by
   grind
  have E3:=E2.step (j:=c) p hc y gz0
  have af:=E2.next (j:=c) p hc y
  have ah:dp (fun i=>B (xch k r i)) (fun m=>(s.cs++[c]).getD m 0) k=(t.last:Rat):=by
   rw [hD,<- B47 F,B8p B _ a.1]
  have G:(t.M r c:Rat)=t.last*(t.S r*s.R r c):=by
   have:=h.val r c x hc
   grind
  have Q:dp (fun i=>B (xch k r i)) (fun m=>(s.cs++[c]).getD m 0) (k+1)=(t.M r c:Rat):=by
   grind
  have ac:=Bn h.last
  have N:t.M r c≠0:=by
   intro e
   rw [e] at G
   grind
  have hz:∀ b,b<c->s.R r b=0:=fun b hb=>h.zero r b x o hb
  have hQ:∀ i j,(if i<k+1 then Ot (fun i=>s.R (xch k r i)) k c i j else t.S (xch k r i)*Ot (fun i=>s.R (xch k r i)) k c i j)=Dz (fun i j=>if xch k r i<k then s.R (xch k r i) j else t.S (xch k r i)*s.R (xch k r i) j) k c i j:=by
   intro i j
   unfold Ot Dz
   by_cases e:i=k
   ·grind
   ·simp only [iN e,xk,iN (show ¬ r<k from o)]
    by_cases d:i<k
    ·rw [iP (show i<k+1 from o),Zo a.1 d,iP d,iP d]
     grind
    ·have W:¬ xch k r i<k:=by have:=B52 (i:=i) a.1 o;omega
     grind
  have aa:(fun i j=>if i<k+1 then Ot (fun i=>s.R (xch k r i)) k c i j else t.S (xch k r i)*Ot (fun i=>s.R (xch k r i)) k c i j)=Dz (fun i j=>if xch k r i<k then s.R (xch k r i) j else t.S (xch k r i)*s.R (xch k r i) j) k c:=by
   grind
  have u:∀ i,i<n->xch k r i<n:=fun i d=>A48 p x d
  refine ⟨rfl,⟨fun i=>B (xch k r i),fun i j d D=>hB _ j (u i d) D,?_,?_⟩,N,fun i j d D=>?_,fun i d=>h.scale _ (u i d),fun i j d L D=>?_,?_,fun X=>?_,fun X _=>?_,?_⟩
  ·show Elim n w _ (fun i j=>if i<(s.cs++[c]).length then Ot (fun i=>s.R (xch k r i)) k c i j else t.S (xch k r i)*Ot (fun i=>s.R (xch k r i)) k c i j) _ (s.cs++[c]).length
   rw [q,aa]
   exact E3
  ·grind
  ·show (clr (fun i=>t.M (xch k r i)) k c t.last i j:Rat)=(t.M r c:Rat)*(if i<(s.cs++[c]).length then Ot (fun i=>s.R (xch k r i)) k c i j else t.S (xch k r i)*Ot (fun i=>s.R (xch k r i)) k c i j)
   rw [q,hQ i j]
   unfold clr
   by_cases e:i=k
   ·subst e
    rw [iP rfl]
    show (t.M (xch i r i) j:Rat)=_
    unfold Dz
    have:=h.val r j x D
    grind
   ·rw [iN e]
    show (((t.M (xch k r k) c*t.M (xch k r i) j-t.M (xch k r i) c*t.M (xch k r k) j).tdiv t.last:Int):Rat)=_
    rw [xk]
    have hw:=E3.whole (fun i j d D=>hB _ j (u i d) D) d D
    rw [Q] at hw
    obtain ⟨z,V⟩:=hw
    have v1:=h.val (xch k r i) j (u i d) D
    have v2:=h.val (xch k r i) c (u i d) hc
    have v3:=h.val r j x D
    have W:t.M r c*t.M (xch k r i) j-t.M (xch k r i) c*t.M r j=t.last*z:=by
     have:((t.M r c*t.M (xch k r i) j-t.M (xch k r i) c*t.M r j:Int):Rat)=((t.last*z:Int):Rat):=by
      rw [Rat.intCast_sub,aF,aF,aF,<- V,v1,v2,v3,G]
      unfold Dz
      grind
     exact_mod_cast this
    rw [A2p h.last W,<- V]
  ·show Ot (fun i=>s.R (xch k r i)) k c i j=0
   have ad:k+1<=i:=by
    grind
   have ae:=B52 (i:=i) a.1 (show k<=i from o)
   unfold Ot
   rw [iN o]
   by_cases e:j=c
   ·grind
   ·rw [iP (.inr o)]
    exact h.zero _ j (u i d) o o
  ·show (s.cs++[c]).length<=c+1
   have:=h.asc
   omega
  ·show (if r=k then s.det else -s.det)*s.R r c*pr (s.cs++[c]).length (fun i=>t.S (xch k r i))=((if r=k then t.sgn else -t.sgn:Int):Rat)*(t.M r c:Rat)
   have ag:k=c:=by
    grind
   have hd:=h.det o
   rw [q,pr,xk,B3b (g:=t.S) fun i d=>by rw [Zo a.1 d],G]
   by_cases e:r=k
   ·grind
   ·rw [iN e,iN e,cJ];grind
  ·show (if r=k then s.det else -s.det)*s.R r c=0
   have:(s.cs++[c]).length<c+1:=X
   have hd:=h.miss o o
   grind
  ·show (if r=k then t.sgn else -t.sgn)=1\/(if r=k then t.sgn else -t.sgn)= -1
   have:=h.sgn
   omega
 ·rw [iN x,iN x]
  have C:∀ i j,i<n->s.cs.length<=i->j<c+1->s.R i j=0:=by
   intro i j d L D
   by_cases e:j=c
   ·grind
   ·exact h.zero i j d L o
  by_cases p:s.cs.length<n
  ·rw [iP p]
   exact ⟨h.cs,⟨B,hB,E,hD⟩,h.last,h.val,h.scale,C,Nat.le_succ_of_le h.asc,fun X=>by have:=h.asc;grind,fun _ _=>rfl,h.sgn⟩
  ·rw [iN p]
   exact ⟨h.cs,⟨B,hB,E,hD⟩,h.last,h.val,h.scale,C,Nat.le_succ_of_le h.asc,fun X=>by have:=h.asc;omega,fun _ W=>absurd W p,h.sgn⟩
def ERel.run{n w:Nat}{A:Nat->Nat->Rat}{s:ES}{t:PS}(h:ERel n w 0 A s t):∀ c,c<=w->ERel n w c A (C36 n s c) (Ge n t c):=by
 intro c
 induction c with
 | zero=>exact fun _=>h
 | succ c ih=>exact fun a=>(ih o).step o
end Go.Proofs.YtbgkfnjmcjfokaaGreatDoor
namespace Go.Proofs.YtbgkfnjmcjfokaaGreatDoor
set_option maxRecDepth 20000
structure SzE (n w m:Nat) (s:ES):Prop where
 R:∀ a b,a<n->b<w->Sz (7^s.cs.length*m) (s.R a b)
 det:Sz (7^s.cs.length*m) s.det
 len:s.cs.length<=n
def B4s{m:Nat}{x d:Int}(h:ZB m x):ZB m (x.tdiv d):=by
 refine h.le ?_
 rw [Int.natAbs_tdiv]
 exact bX _ _
def ZB.clr{n w k j m:Nat}{M:Nat->Nat->Int}{d:Int}(hM:∀ a b,a<n->b<w->ZB m (M a b))(hk:k<n)(hj:j<w){a b:Nat}(ha:a<n)(hb:b<w):ZB (2*m+1) (clr M k j d a b):=by
 unfold Go.Proofs.YtbgkfnjmcjfokaaGreatDoor.clr
 split
 ·exact (hM k b hk hb).mono o
 ·refine B4s ?_
  have c:=(hM k j hk hj).mul (hM a b ha hb)
  have e:=(hM a j ha hj).mul (hM k b hk hb)
  exact (c.sub e).mono o
def A30(n c:Nat)(s:PS)(h:s.cs.length<=n):s.cs.length<=Uj n c s/\Uj n c s<=n:=by
 have:=B05 (fun i=>decide (s.M i c≠0)) (n-s.cs.length) s.cs.length
 unfold Uj
 omega
structure ZbP (n w m l:Nat) (s:PS):Prop where
 M:∀ a b,a<n->b<w->ZB (3^s.cs.length*m) (s.M a b)
 last:ZB (3^s.cs.length*m) s.last
 S:∀ a,a<n->Sz l (s.S a)
 len:s.cs.length<=n
def A4x(k m:Nat)(hm:1<=m):1<=3^k*m:=by
 have:0<3^k:=Nat.pow_pos dc
 exact Nat.mul_pos this hm
def ZbP.step{n w m l c:Nat}{s:PS}(h:ZbP n w m l s)(hm:1<=m)(hc:c<w):ZbP n w m l (Gw n c s):=by
 have p:=A30 n c s h.len
 have q:=A4x s.cs.length m hm
 unfold Gw
 by_cases g:Uj n c s<n
 ·rw [iP g]
  have i:s.cs.length<n:=o
  have e:(s.cs++[c]).length=s.cs.length+1:=by simp
  have k:3^(s.cs.length+1)*m=3*(3^s.cs.length*m):=gz0
  refine ⟨fun a b d j=>?_,?_,fun a d=>h.S _ (A48 i g d),?_⟩
  ·show ZB (3^(s.cs++[c]).length*m) _
   rw [e,k]
   exact (ZB.clr (n:=n) (w:=w) (fun a b d j=>h.M _ b (A48 i g d) j) i hc d j).mono o
  ·show ZB (3^(s.cs++[c]).length*m) (s.M (Uj n c s) c)
   rw [e,k]
   exact (h.M _ c g hc).mono o
  grind
 grind
def ZbP.run{n w m l:Nat}{s:PS}(h:ZbP n w m l s)(hm:1<=m):∀ c,c<=w->ZbP n w m l (Ge n s c):=by
 intro c
 induction c with
 | zero=>exact fun _=>h
 | succ c ih=>exact fun a=>(ih o).step hm o
structure Asc (l:List Nat) (c:Nat):Prop where
 lt:∀ x∈l,x<c
 asc:l.Pairwise (· < ·)
def Ca(z:Int)(l:List cM):iAt (I z::l) 0=z:=rfl
def Li:prog.cellsOf 83=4/\(prog.info? 83).isSome=true:=Wz
section
variable {α β:Type} [E:Enc α] {R:aI->α->β->Prop}
def OwnK(R:aI->α->β->Prop)(h h':aI)(b n k:Nat)(f:Nat->β):Prop:=∃ g o xs,h.le g/\Sep h' g o/\dH o b xs/\xs.length=n/\Row R g xs k f
def OwnK.zero{h:aI}{b n:Nat}{f:Nat->β}{e:bC}{z:α}(hb:h b=none):OwnK R h (W9 e h b (bF n z)) b n 0 f:=
 ⟨h,J8.put b (.cells ((bF n z).flatMap enc).toArray e),bF n z,B0 _,F1 hb,RowX.mk,by simp,Row.nil⟩
def OwnK.store(m:Mon R){P:cD}{t:bC}(one:P.cellsOf t=E.default.size/\(P.info? t).isSome=true){h h' g g' o:aI}{b n k:Nat}{f:Nat->β}{xs:List α}(lg:h.le g)(lg':g.le g')(s:Sep h' g' o)(rb:dH o b xs)(hn:xs.length=n)(r:Row R g xs k f)(hk:k<n){v:cM}{y:α}(hv:v.cells=(enc y).toArray)(hy:R g' y (f k)){K:Unit->aI->Prop}
 (x:∀ h2,OwnK R h h2 b n (k+1) f->K () h2):wpH P (aT t (.pointer (some (aC ⟨b,0,none⟩ (k*E.default.size)))) v) K h':=by
 refine E7 one hv s rb oo ?_
 intro h2 d i e c a
 exact x h2 ⟨g',d,_,A0 lg lg',c,a,gz0,(r.mono m lg').set oo hy⟩
end
def Qg:QV:=⟨false,none,0,0,false,none,0,0⟩
section
variable {h:aI} {K:VP} {A:Option aO} {n c m:Nat} {ls:Nat->List UInt8} {f:Nat->Rat} {a w:QV} {q:Rat}
def Ao(gl:Gl h)(r:RowV SSr h A n ls)(hn:n<=1000000)(hl:∀ i,i<n->(ls i).length<=140737488351232)
 (hK1:(∀ i,i<n->IsNum (ls i))->∀ b h',Own RQr h h' b n (fun i=>rv (ls i))->K (.tuple #[.slice (some ⟨b,0,none⟩) n n,.bool true]) h')
 (hK0:¬ (∀ i,i<n->IsNum (ls i))->∀ h',h.le h'->K (.tuple #[.slice none 0 0,.bool false]) h'):aN prog 51 #[.slice A n c] h K:=by
 refine (fnk func51 [(3,[14],[],[I 0])] (own:=[7])) ?_
 refine D8 B57 (zx:=Qg) rfl oo oo oo oo ?_
 intro b N
 refine ⟨_,_,_,rfl,fun L x=>∃ k:Nat,k<=n/\L=[I k]/\(∀ i,i<k->IsNum (ls i))/\OwnK RQr h x b n k (fun i=>rv (ls i)),fun L _=>n-(iAt L 0).toNat,⟨0,oo,rfl,fun i R=>oo,OwnK.zero N⟩,?_⟩
 rintro t x ⟨k,T,V,m,g,o,xs,j,s,E,F,D⟩
 obtain rfl:t=(k:Int):=gz0
 refine B4 (fun M=>?_) (fun G=>?_)
 ·have d:k<n:=oo
  obtain ⟨a,rfl,S⟩:=(r.mono Jc (A0 j s.le)).sat d
  refine ⟨a,rfl,oo,oo,_,S,?_⟩
  refine s.call (Q9 (gl.mono j).tz (hl k d) ?_ ?_)
  ·intro q e w C z H B u
   refine ⟨_,_,_,_,_,_,_,_,_,rfl,_,rfl,oo,oo,?_⟩
   refine OwnK.store Bj Li (y:=w) j z u E F D d rfl (by show RQ C w (rv (ls k));rw [e,C2];exact H) ?_
   intro W Q
   rw [wiS k oo]
   refine ⟨⟨k+1,oo,rfl,fun i R=>?_,Q⟩,?_⟩
   ·by_cases O:i=k
    ·subst O;exact ⟨q,e⟩
    grind
   ·simp only [Ca];omega
  ·intro p w C z _ B u
   exact ⟨_,_,_,_,_,_,_,_,_,rfl,hK0 (fun l=>p (l k d)) B (A0 j (A0 z u.le))⟩
 ·have:k=n:=oo
  subst this
  exact hK1 m b x ⟨g,o,xs,j,s,E,F,D⟩
def A07(gl:Gl h)(r:RowV RQr h A n f)(hn:n<=1000000)(hs:∀ i,i<n->Sz m (f i))(hm:m<=40000000)
 (hK:∀ b h',Own SSr h h' b n (fun i=>C0 (f i))->K (.slice (some ⟨b,0,none⟩) n n) h'):aN prog 280 #[.slice A n c] h K:=by
 refine (fnk func280 [(3,[11],[],[I 0])] (own:=[5])) ?_
 refine D8 P9 (zx:=([]:List UInt8)) rfl oo oo oo oo ?_
 intro b D
 refine ⟨_,_,_,rfl,fun L j=>∃ k:Nat,k<=n/\L=[I k]/\OwnK SSr h j b n k (fun i=>C0 (f i)),fun L _=>n-(iAt L 0).toNat,⟨0,oo,rfl,OwnK.zero D⟩,?_⟩
 rintro t j ⟨k,N,O,g,o,xs,e,s,p,q,l⟩
 obtain rfl:t=(k:Int):=gz0
 refine B4 (fun C=>?_) (fun u=>?_)
 ·have d:k<n:=oo
  obtain ⟨a,w,rfl,z,G,F,x,B⟩:=(r.mono Bj e).qat d
  refine ⟨_,rfl,oo,oo,_,_,_,_,_,_,_,_,B7 s.le G,B7 s.le F,B7 s.le x,B7 s.le B,?_⟩
  refine s.call (I9 (gl.mono e).p10 z (hs k d) hm ?_)
  intro M E
  refine ⟨_,rfl,_,rfl,oo,oo,?_⟩
  refine OwnK.store Jc Am (y:=C0 (f k)) e (B0 _) E p q l d rfl rfl ?_
  intro Q H
  rw [wiS k oo]
  exact ⟨⟨k+1,oo,rfl,H⟩,by simp only [Ca];omega⟩
 ·have:k=n:=oo
  subst this
  exact hK b j ⟨g,o,xs,e,s,p,q,l⟩
def Nl(f:Nat->Rat):Nat->Nat
 | 0=>1
 | n+1=>Nat.lcm (Nl f n) (f n).den
def Yi(f:Nat->Rat):∀ n,0<Nl f n:=by
 intro n
 induction n with
 | zero=>exact Nat.one_pos
 | succ n ih=>exact Nat.lcm_pos ih (f n).den_pos
def Yj(f:Nat->Rat):∀ n i,i<n->(f i).den∣Nl f n:=by
 intro n
 induction n with
 | zero=>omega
 | succ n ih=>
  intro i a
  by_cases e:i=n
  ·subst e;exact Nat.dvd_lcm_right _ _
  ·exact Nat.dvd_trans (ih i o) (Nat.dvd_lcm_left _ _)
def ZB.lcm{k j:Nat}{x y:Nat}(hx:ZB k (x:Int))(hy:ZB j (y:Int)):ZB (k+j) ((Nat.lcm x y:Nat):Int):=by
 have:=hx.mul hy
 refine Nat.lt_of_le_of_lt ?_ this
 exact bX _ _
def Ol{f:Nat->Rat}{m:Nat}: ∀ n,(∀ i,i<n->Sz m (f i))->ZB (1+n*m) (Nl f n:Int):=by
 intro n
 induction n with
 | zero=>intro _;exact ZB.one o
 | succ n ih=>
  intro h
  have:=(ih fun i a=>h i o).lcm (h n o).den
  exact this.mono gz0
def Df(gl:Gl h)(r:RowV RQr h A n f)(hn:n<=1000000)(hs:∀ i,i<n->Sz m (f i))(hm:1+n*m+m<=6400000000)
 (hK:∀ s A' n' c' h',h.le h'->ZI h' s A' n' c' (Nl f n:Int)->K (.agg #[.bool s,.slice A' n' c']) h'):aN prog 230 #[.slice A n c] h K:=by
 refine (fnk func230 [(3,[9],[(3,2)],[I 0,.bool false,.slice none 0 0])] (own:=[2,3,5])) ?_
 refine N5 o o ?_
 intro s1 A1 n1 c1 C l1 i1
 refine ⟨_,_,_,_,rfl,fun L y=>∃ (k:Nat) (s:Bool) (B:Option aO) (q u:Nat),k<=n/\L=[I k,.bool s,.slice B q u]/\h.le y/\ZI y s B q u (Nl f k:Int),fun L _=>n-(iAt L 0).toNat,⟨0,_,_,_,_,o,rfl,l1,i1⟩,?_⟩
 rintro t s B q u y ⟨k,D,B',p,j,hk,W,l,i⟩
 obtain ⟨rfl,rfl,rfl,rfl,rfl⟩:=W
 have H:B9 ((k:Int)+1)=((k+1:Nat):Int):=by rw [B5]<;>omega
 refine B4 (fun R=>?_) (fun N=>?_)
 ·have x:k<n:=o
  obtain ⟨a,w,rfl,F,X,T,O,Q⟩:=(r.mono Bj l).qat x
  have d:1+k*m+m<=6400000000:=by
   have:k*m<=n*m:=aV _ o
   omega
  have S:=(Ol k fun i hi=>hs i o).mono (show 1+k*m<=1+k*m+m from o)
  have M:=(hs k x).den.mono (show m<=1+k*m+m from o)
  refine ⟨_,rfl,o,o,_,_,_,_,_,_,_,_,X,T,O,Q,?_⟩
  refine F0 F.den ⟨_,rfl,?_⟩
  have z:((if (f k).den=1 then 0 else ((f k).den:Int))=0)↔(f k).den=1:=by
   have:=(f k).den_pos
   omega
  have g:Nl f (k+1)=Nl f k->(∃ (k':Nat) (D:Bool) (B':Option aO) (p j:Nat),k'<=n/\[I (B9 ((k:Int)+1)),.bool s,.slice B q u]=[I k',.bool D,.slice B' p j]/\h.le y/\ZI y D B' p j (Nl f k':Int))/\n-(iAt [I (B9 ((k:Int)+1)),.bool s,.slice B q u] 0).toNat<n-(iAt [I (k:Int),.bool s,.slice B q u] 0).toNat:=by
   intro e
   rw [H]
   exact ⟨⟨k+1,_,_,_,_,o,rfl,l,gz0⟩,by simp only [Ca];omega⟩
  refine Br.not (B4 (fun C=>?_) (fun C=>?_))
  ·have E:=z.1 C
   exact g (by rw [Nl,E];grind)
  ·have E:(if (f k).den=1 then 0 else ((f k).den:Int))=((f k).den:Int):=iN fun e=>C (z.2 e)
   have b:=F.den
   rw [E] at b
   refine A2g b i M d ⟨_,rfl,?_⟩
   refine Br.not (B4 (fun G=>?_) (fun G=>?_))
   ·have V:(f k).den=Nl f k:=by exact_mod_cast G
    exact g (by rw [Nl,V];grind)
   ·refine A7d (gl.mono l).tz i b S M d ?_
    intro A' n' c' h' l' i'
    refine ⟨_,_,_,_,rfl,?_⟩
    rw [H]
    refine ⟨⟨k+1,_,_,_,_,o,rfl,A0 l l',?_⟩,by simp only [Ca];omega⟩
    assumption
 grind
def scl(q:Rat)(d:Int):Int:=q.num*d.tdiv q.den
def A9g(q:Rat):q*(q.den:Rat)=(q.num:Rat):=by
 have h:=Rat.num_divInt_den q
 rw [Rat.divInt_eq_div] at h
 have a:((q.den:Int):Rat)≠0:=Bn (den_ne q)
 have e:((q.den:Int):Rat)=(q.den:Rat):=rfl
 grind
def A8f{q:Rat}{d:Int}(h:(q.den:Int)∣d):(scl q d:Rat)=q*d:=by
 obtain ⟨e,rfl⟩:=h
 unfold scl
 rw [Int.mul_tdiv_cancel_left _ (den_ne q),aF,aF]
 have a:q*(q.den:Rat)=(q.num:Rat):=A9g q
 have b:(((q.den:Nat):Int):Rat)=(q.den:Rat):=rfl
 grind
def A8e{q:Rat}{d:Int}{k:Nat}(hq:Sz m q)(hd:ZB k d):ZB (m+k) (scl q d):=hq.num.mul hd.tdiv
def Ju{s:Bool}{B:Option aO}{bn bc:Nat}{d:Int}(i:RQ h w q)(j:ZI h s B bn bc d)(hq:Sz m q)(hd:ZB m d)(hm:m<=6400000000)
 (hK:∀ s A' n' c' h',h.le h'->ZI h' s A' n' c' (scl q d)->K (.agg #[.bool s,.slice A' n' c']) h'):aN prog 218 #[w.v,.agg #[.bool s,.slice B bn bc]] h K:=by
 refine (fnk func218 (own:=[2,3,4])) ?_
 refine F0 i.den ⟨_,rfl,?_⟩
 have c:((if q.den=1 then 0 else (q.den:Int))=0)↔q.den=1:=by
  have:=q.den_pos
  omega
 refine B4 (fun g=>?_) (fun g=>?_)
 ·refine F7 i.num j hq.num hd o ?_
  intro r A' n' c' h' n A
  refine ⟨_,_,_,_,rfl,hK _ _ _ _ _ n ?_⟩
  have:scl q d=q.num*d:=by unfold scl;simp_all
  grind
 ·have l:(if q.den=1 then 0 else (q.den:Int))=(q.den:Int):=iN fun e=>g (c.2 e)
  have a:=i.den
  rw [l] at a
  refine P0 j a hd hq.den hm (den_ne q) ?_
  intro r A1 z c1 u b i1
  refine ⟨_,_,_,_,rfl,b,?_⟩
  refine F7 (i.num.mono b) i1 hq.num hd.tdiv o ?_
  intro x A2 C c2 y k p
  exact ⟨_,_,_,_,rfl,k,hK _ _ _ _ _ (A0 b k) p⟩
end
instance:Enc Int:=⟨⟨fun z=>[I z],1,fun _=>rfl,fun z v hv=>by rw [List.mem_singleton.1 hv];rfl⟩⟩
abbrev IIr:aI->Int->Int->Prop:=fun _ w z=>w=z
section
variable {α:Type} [E:Enc α]
def OwnSl(o:aI)(e:bC)(A:Option aO)(c:Nat)(xs:List α):Prop:=
 xs.length<=c/\((c=0/\A=none)\/∃ b arr,A=some ⟨b,0,none⟩/\o b=some (.cells (dT arr) e)/\arr.length=c*E.default.size/\arr.take (xs.length*E.default.size)=xs.flatMap enc)
def OwnSl.nil{o:aI}{e:bC}:OwnSl o e none 0 ([]:List α):=⟨aJ _,.inl ⟨rfl,rfl⟩⟩
def OwnSl.keep{o o':aI}{e:bC}{A:Option aO}{c:Nat}{xs:List α}(w:OwnSl o e A c xs)(h:∀ b x,A=some ⟨b,0,none⟩->o b=some x->o' b=some x):OwnSl o' e A c xs:=by
 refine ⟨w.1,?_⟩
 rcases w.2 with i|⟨b,a,k,j,g,d⟩
 ·grind
 grind
def OwnSl.rowB{o:aI}{e:bC}{A:Option aO}{c:Nat}{xs:List α}(w:OwnSl o e A c xs)(hne:xs≠[]):∃ b,A=some ⟨b,0,none⟩/\RowB o b xs:=by
 rcases w.2 with k|⟨b,a,i,g,j,d⟩
 ·exfalso
  have:=w.1
  simp_all
 ·exact ⟨b,i,e,a.drop (xs.length*E.default.size),by rw [g,<- d,bN]⟩
def OwnSl.slF{o h:aI}{e:bC}{A:Option aO}{c:Nat}{xs:List α}(w:OwnSl o e A c xs)(hl:o.le h):SlF h A xs:=by
 by_cases a:xs=[]
 ·rw [a];exact SlF.nil
 ·obtain ⟨b,rfl,r⟩:=w.rowB a
  exact r.slF hl
def OwnSl.priv{h g o:aI}{e:bC}{A:Option aO}{c:Nat}{xs:List α}(s:Sep h g o)(w:OwnSl o e A c xs):∃ gb,PrivF h gb e A c xs/\∀ k x,h k=some x->A≠some ⟨k,0,none⟩->gb k=some x:=by
 rcases w.2 with ⟨m,l⟩|⟨b,a,p,n,j,i⟩
 ·subst m
  have q:xs=[]:=aP (by have:=w.1;omega)
  subst q
  exact ⟨h,PrivF.nil h e A,fun k x e _=>e⟩
 ·refine ⟨h.without b,⟨I7 xs,w.1,.inr ⟨b,a,p,N3 _ _,(K7 (s.own b _ n)).symm,j,i⟩⟩,fun k x e d=>?_⟩
  unfold Heap.without
  grind
def OwnSl.push{P:cD}{t e ty:bC}{z:cM}{bytes:Nat}(st:SliceT P t e z E.default.size bytes){h g o:aI}{A:Option aO}{c:Nat}{xs:List α}(s:Sep h g o)(w:OwnSl o e A c xs){v:cM}{y:α}(hv:v.cells=(enc y).toArray)(hsz:E.default.size<=1000)
 (hb:(2*(xs.length+1)+192)*bytes<=281474976710656) (hn:xs.length+1<=9223372036854775807) {K1:aI->Prop} {K:Option aO->Nat->Nat->aI->Prop}
 (x0:∀ h1,h.le h1->K1 h1)
 (x:∀ A' c' h' g' o',g.le g'->Sep h' g' o'->OwnSl o' e A' c' (xs++[y])->(∀ k u,o k=some u->A≠some ⟨k,0,none⟩->o' k=some u/\A'≠some ⟨k,0,none⟩)->K A' (xs.length+1) c' h'):
 wpH P (cZ t 1 #[(0,v)]) (fun v' hp=>∃ (B:Option aO) (m d:Nat),v'= .slice B m d/\K1 hp/\wpH P (dG #[t,t] ty #[.slice A xs.length c,.slice B m d]) (fun v1 hp1=>∃ (A':Option aO) (n' c':Nat),v1= .slice A' n' c'/\K A' n' c' hp1) hp) h:=by
 obtain ⟨T,p,N⟩:=w.priv s
 refine H8 st (vs:=[v]) (fun u hu=>by rw [List.mem_singleton.1 hu,hv];simp [E.default.len]) rfl gz0 rfl ?_
 intro b i
 have M:[v].flatMap (fun v=>v.cells.toList)=[y].flatMap enc:=by simp [hv]
 rw [M]
 refine ⟨_,_,_,rfl,x0 _ (Heap.le_put _ i),?_⟩
 have p':PrivF (h.put b (.cells ([y].flatMap enc).toArray e)) (T.put b (.cells ([y].flatMap enc).toArray e)) e A c xs:=Priv.put p i _
 refine Af st p' (ys:=[y]) rfl (U4 e h b [y]) hb hn ?_
 intro A' c' h' g' W hp
 refine ⟨_,_,_,rfl,?_⟩
 rw [cT]
 have r:∀ k u,h k=some u->A≠some ⟨k,0,none⟩->g' k=some u:=by
  intro k u a R
  have l:k≠b:=gz0
  exact W k u (by rw [B6 _ _ l];grind)
 have L:∀ k u,g k=some u->A≠some ⟨k,0,none⟩:=by
  intro k u a C
  rcases w.2 with ⟨_,h0⟩|⟨q,n,j,D,_⟩
  ·grind
  ·rw [C] at j
   simp only [Option.some.injEq,Addr.mk.injEq,and_true] at j
   subst j
   rw [s.dis k _ D] at a;cases a
 rcases hp.2.2 with ⟨S,_⟩|⟨q,n,j,D,F,ha,V⟩
 ·exfalso
  have:=hp.2.1
  grind
 ·subst j
  let o':aI:=fun k=>if k=q then some (.cells (dT n) e) else if A=some ⟨k,0,none⟩ then none else o k
  have Q:o' q=some (.cells (dT n) e):=gz0
  have ok:∀ k,k≠q->A≠some ⟨k,0,none⟩->o' k=o k:=fun k h1 H=>by grind
  let g2:aI:=fun k=>match o' k with|some _=>none|none=>h' k
  have gs:∀ k u,o' k=some u->g2 k=none:=fun k u a=>by grind
  have gn:∀ k,o' k=none->g2 k=h' k:=fun k a=>by grind
  have G:∀ k u,k≠q->g' k=some u->h' k=some u:=fun k u h1 a=>by rw [F,B6 _ _ h1];exact a
  have O:∀ k u,o k=some u->A≠some ⟨k,0,none⟩->k≠q:=by
   rintro k u a H rfl
   have:=r k u (s.own k u a) H
   grind
  refine x _ c' h' g2 o' (fun k u a=>?_) ⟨fun k u a=>?_,fun k a=>(gn k a).symm,gs⟩ ⟨hp.2.1,.inr ⟨q,n,rfl,Q,ha,V⟩⟩ (fun k u a H=>?_)
  ·have X:o k=none:=by
    cases ho:o k with
    | none=>rfl
    | some y=>rw [s.dis k y ho] at a;cases a
   have C:=L k u a
   have e3:=r k u (s.le k u a) C
   grind
  ·by_cases l:k=q
   ·subst l
    rw [Q] at a;cases a
    rw [F,B8]
   ·by_cases C:A=some ⟨k,0,none⟩
    ·grind
    ·rw [ok k l C] at a
     exact G k u l (r k u (s.own k u a) C)
  grind
end
structure Tb where
 bt:Nat
 bE:Nat
 bS:Nat
 rows:Nat
 cols:Nat
 cE:Nat
 cS:Nat
structure Tab (h g o:aI) (T:Tb) (M:Nat->Nat->Int) (S:Nat->Rat):Prop where
 sep:Sep h g o
 n1:T.bt≠T.bE
 n2:T.bt≠T.bS
 n3:T.bE≠T.bS
 head:∃ e,o T.bt=some (.cells #[I T.cols,.slice (some ⟨T.bE,0,none⟩) (T.rows*T.cols) T.cE,.slice (some ⟨T.bS,0,none⟩) T.rows T.cS] e)
 elems:∃ ws:List IV,RowB o T.bE ws/\ws.length=T.rows*T.cols/\∀ i j,i<T.rows->j<T.cols->∃ w,ws[i*T.cols+j]? = some w/\ZIr g w (M i j)
 scales:∃ ss:List QV,RowB o T.bS ss/\ss.length=T.rows/\Row RQr g ss T.rows S
 cE:T.rows*T.cols<=T.cE
 cS:T.rows<=T.cS
 small:T.rows<=10000/\T.cols<=10000
 pos:0<T.cols
def C5f(M:Nat->Nat->Int)(i j:Nat)(z:Int):Nat->Nat->Int:=fun a b=>if a=i/\b=j then z else M a b
def Qb{rows cols i j:Nat}(hi:i<rows)(hj:j<cols):i*cols+j<rows*cols:=by
 have:(i+1)*cols<=rows*cols:=aV _ hi
 grind
def B8b{cols i j i' j':Nat}(hj:j<cols)(hj':j'<cols)(h:i*cols+j=i'*cols+j'):i=i'/\j=j':=by
 have a:(i*cols+j)/cols=i:=by rw [Nat.mul_comm,Nat.mul_add_div o,cY hj,dP]
 have b:(i'*cols+j')/cols=i':=by rw [Nat.mul_comm,Nat.mul_add_div o,cY hj',dP]
 grind
section
variable {h g o:aI} {T:Tb} {M:Nat->Nat->Int} {S:Nat->Rat} {K:VP} {m:Nat}
def Tab.next(t:Tab h g o T M S){h' g':aI}(s:Sep h' g' o)(l:g.le g'):Tab h' g' o T M S:=by
 refine ⟨s,t.n1,t.n2,t.n3,t.head,?_,?_,t.cE,t.cS,t.small,t.pos⟩
 ·obtain ⟨k,r,b,a⟩:=t.elems
  refine ⟨k,r,b,fun i j m c=>?_⟩
  obtain ⟨w,e,n⟩:=a i j m c
  exact ⟨w,e,P2 _ _ _ _ l n⟩
 ·obtain ⟨d,r,b,a⟩:=t.scales
  exact ⟨d,r,b,a.mono Bj l⟩
def Tab.congr(t:Tab h g o T M S){M':Nat->Nat->Int}{S':Nat->Rat}(hM:∀ i j,i<T.rows->j<T.cols->M i j=M' i j)(hS:∀ i,i<T.rows->S i=S' i):Tab h g o T M' S':=by
 refine ⟨t.sep,t.n1,t.n2,t.n3,t.head,?_,?_,t.cE,t.cS,t.small,t.pos⟩
 ·obtain ⟨d,r,b,a⟩:=t.elems
  grind
 ·obtain ⟨c,r,b,a⟩:=t.scales
  exact ⟨c,r,b,a.congr hS⟩
def Tab.c0(t:Tab h g o T M S):h.cell? (aC ⟨T.bt,0,none⟩ 0)=some (I T.cols):=by
 obtain ⟨e,a⟩:=t.head
 refine t.sep.cell ?_
 rw [D4];unfold Heap.cell?;grind
def Tab.c1(t:Tab h g o T M S):h.cell? (aC ⟨T.bt,0,none⟩ 1)=some (.slice (some ⟨T.bE,0,none⟩) (T.rows*T.cols) T.cE):=by
 obtain ⟨e,a⟩:=t.head
 refine t.sep.cell ?_
 rw [D4];unfold Heap.cell?;grind
def Tab.c2(t:Tab h g o T M S):h.cell? (aC ⟨T.bt,0,none⟩ 2)=some (.slice (some ⟨T.bS,0,none⟩) T.rows T.cS):=by
 obtain ⟨e,a⟩:=t.head
 refine t.sep.cell ?_
 rw [D4];unfold Heap.cell?;grind
def Tab.at(t:Tab h g o T M S){i j:Nat}(hi:i<T.rows)(hj:j<T.cols):∃ w:IV,ZIr g w (M i j)/\h.cell? (aC (aC ⟨T.bE,i*T.cols*2,none⟩ (j*2)) 0)=some (.bool w.s)/\h.cell? (aC (aC ⟨T.bE,i*T.cols*2,none⟩ (j*2)) 1)=some (.slice w.A w.n w.c):=by
 obtain ⟨l,r,p,d⟩:=t.elems
 obtain ⟨w,e,m⟩:=d i j hi hj
 have k:=Qb hi hj
 have a:l[i*T.cols+j]=w:=by
  grind
 have b:i*T.cols*2+j*2=(i*T.cols+j)*2:=by rw [dD]
 refine ⟨w,m,t.sep.cell ?_,t.sep.cell ?_⟩
 ·rw [D4,D4,b]
  exact r.cell (i:=i*T.cols+j) oo (j:=0) (v:=.bool w.s) (by rw [a];rfl)
 ·rw [D4,D4,b]
  exact r.cell (i:=i*T.cols+j) oo (j:=1) (v:=.slice w.A w.n w.c) (by rw [a];rfl)
def Tab.ato(t:Tab h g o T M S){i j:Nat}(hi:i<T.rows)(hj:j<T.cols):∃ w:IV,ZIr g w (M i j)/\o.cell? (aC (aC ⟨T.bE,i*T.cols*2,none⟩ (j*2)) 0)=some (.bool w.s)/\o.cell? (aC (aC ⟨T.bE,i*T.cols*2,none⟩ (j*2)) 1)=some (.slice w.A w.n w.c):=by
 obtain ⟨l,r,p,d⟩:=t.elems
 obtain ⟨w,e,m⟩:=d i j hi hj
 have k:=Qb hi hj
 have a:l[i*T.cols+j]=w:=by
  grind
 have b:i*T.cols*2+j*2=(i*T.cols+j)*2:=by rw [dD]
 refine ⟨w,m,?_,?_⟩
 ·rw [D4,D4,b]
  exact r.cell (i:=i*T.cols+j) oo (j:=0) (v:=.bool w.s) (by rw [a];rfl)
 ·rw [D4,D4,b]
  exact r.cell (i:=i*T.cols+j) oo (j:=1) (v:=.slice w.A w.n w.c) (by rw [a];rfl)
def Sep.le_le{h' g':aI}(s:Sep h g o)(s':Sep h' g' o)(l:g.le g'):h.le h':=fun k x e=>by
 cases ho:o k with
 | some y=>rw [s.own k y ho] at e;rw [s'.own k y ho];exact e
 | none=>rw [s.rest k ho] at e;rw [s'.rest k ho];exact l k x e
def Tab.sat(t:Tab h g o T M S){i:Nat}(hi:i<T.rows):∃ w:QV,RQ g w (S i)/\h.cell? (aC (aC ⟨T.bS,0,none⟩ (i*4)) 0)=some (.bool w.s)/\h.cell? (aC (aC ⟨T.bS,0,none⟩ (i*4)) 1)=some (.slice w.A w.n w.c)/\h.cell? (aC (aC ⟨T.bS,0,none⟩ (i*4)) 2)=some (.bool w.s2)/\h.cell? (aC (aC ⟨T.bS,0,none⟩ (i*4)) 3)=some (.slice w.A2 w.n2 w.c2):=by
 obtain ⟨m,r,l,a⟩:=t.scales
 obtain ⟨w,e,b⟩:=a i hi
 have cell:∀ k v,(enc w)[k]? = some v->h.cell? (aC (aC ⟨T.bS,0,none⟩ (i*4)) k)=some v:=by
  intro k v d
  refine t.sep.cell ?_
  rw [D4,D4,bI]
  exact r.cell (i:=i) oo (j:=k) gz0
 exact ⟨w,b,cell 0 _ rfl,cell 1 _ rfl,cell 2 _ rfl,cell 3 _ rfl⟩
def Tab.store(t:Tab h g o T M S){i j:Nat}(hi:i<T.rows)(hj:j<T.cols){w:IV}{z:Int}(hz:ZIr g w z){K:Unit->aI->Prop}
 (x:∀ h' o',Tab h' g o' T (C5f M i j z) S->(∀ k,k≠T.bE->o' k=o k)->K () h'):wpH prog (aT 76 (.pointer (some (aC ⟨T.bE,i*T.cols*2,none⟩ (j*2)))) w.v) K h:=by
 obtain ⟨N,r,O,C⟩:=t.elems
 have q:=Qb hi hj
 have H:i*T.cols*2+j*2=(i*T.cols+j)*2:=by rw [dD]
 rw [D4,H]
 refine Sep.store (E:=inferInstanceAs (Enc IV)) A2t (v:=w.v) (y:=w) rfl t.sep r (i:=i*T.cols+j) oo rfl ?_
 intro h' o' L l p s
 refine x h' o' ⟨p,t.n1,t.n2,t.n3,?_,⟨_,s,gz0,fun a b m n=>?_⟩,?_,t.cE,t.cS,t.small,t.pos⟩ (fun k B=>by rw [l,B6 _ _ B])
 ·obtain ⟨e,G⟩:=t.head
  exact ⟨e,by rw [l,B6 _ _ t.n1];exact G⟩
 ·unfold C5f
  by_cases e:a=i/\b=j
  ·grind
  ·obtain ⟨u,F,Q⟩:=C a b m n
   refine ⟨u,?_,gz0⟩
   rw [List.getElem?_set_ne (fun x=>e (by have:=B8b hj n x;omega))]
   exact F
 ·obtain ⟨A,D,d,c⟩:=t.scales
  exact ⟨A,by rw [l];exact D.other t.n3.symm _,d,c⟩
def Tab.sstore(t:Tab h g o T M S){i:Nat}(hi:i<T.rows){w:QV}{q:Rat}(hz:RQ g w q){K:Unit->aI->Prop}
 (x:∀ h' o',Tab h' g o' T M (fun a=>if a=i then q else S a)->(∀ k,k≠T.bS->o' k=o k)->K () h'):wpH prog (aT 83 (.pointer (some (aC ⟨T.bS,0,none⟩ (i*4)))) w.v) K h:=by
 obtain ⟨A,r,z,l⟩:=t.scales
 rw [D4,bI]
 refine Sep.store (E:=inferInstanceAs (Enc QV)) Wz (v:=w.v) (y:=w) rfl t.sep r (i:=i) oo rfl ?_
 intro h' o' B c m p
 refine x h' o' ⟨m,t.n1,t.n2,t.n3,?_,?_,⟨_,p,gz0,Row.upd l oo hz⟩,t.cE,t.cS,t.small,t.pos⟩ (fun k n=>by rw [c,B6 _ _ n])
 ·obtain ⟨e,s⟩:=t.head
  exact ⟨e,by rw [c,B6 _ _ t.n2];exact s⟩
 ·obtain ⟨u,j,b,d⟩:=t.elems
  exact ⟨u,by rw [c];exact j.other t.n3 _,b,d⟩
def Bf{n:Nat}(h:n<=9223372036854775807):B9 (n:Int)=(n:Int):=B5 oo oo
def Eu(t:Tab h g o T M S){i:Nat}(hi:i<T.rows)(hK:K (.slice (some ⟨T.bE,i*T.cols*2,none⟩) T.cols (T.cE-i*T.cols)) h):aN prog 211 #[.pointer (some ⟨T.bt,0,none⟩),I (i:Int)] h K:=by
 refine (fnk func211) ?_
 have a:=t.small
 have m:=t.pos
 have k:(i+1)*T.cols<=T.rows*T.cols:=aV _ hi
 have j:T.rows*T.cols<=10000*10000:=Nat.mul_le_mul a.1 a.2
 have l:=t.cE
 have d:(i+1)*T.cols=i*T.cols+T.cols:=gz0
 have c:B9 ((i:Int)*(T.cols:Int))=((i*T.cols:Nat):Int):=by exact Bf oo
 have b:B9 ((i:Int)+1)=((i+1:Nat):Int):=B5 oo oo
 have e:B9 (B9 ((i:Int)+1)*(T.cols:Int))=(((i+1)*T.cols:Nat):Int):=by rw [b,<- dF];exact Bf oo
 refine ⟨_,rfl,_,_,_,t.c1,_,rfl,_,t.c0,_,rfl,_,t.c0,?_⟩
 rw [c,e]
 refine ⟨⟨oo,oo⟩,⟨oo,oo⟩,?_⟩
 simp only [aR]
 rw [V1 oo,D4,bI,d,dM]
 exact hK
def B08(t:Tab h g o T M S){start col:Nat}(hs:start<=T.rows)(hc:col<T.cols)
 (hK1:fnd (fun i=>decide (M i col≠0)) (T.rows-start) start<T.rows->K (.tuple #[I ((fnd (fun i=>decide (M i col≠0)) (T.rows-start) start:Nat):Int),.bool true]) h)
 (hK0:fnd (fun i=>decide (M i col≠0)) (T.rows-start) start=T.rows->K (.tuple #[I 0,.bool false]) h):aN prog 277 #[.pointer (some ⟨T.bt,0,none⟩),I (start:Int),I (col:Int)] h K:=by
 refine (fnk func277 [(2,[8],[],[I 0])]) ?_
 refine ⟨fun L d=>∃ k:Nat,k<=T.rows/\L=[I k]/\d=h/\start<=k/\∀ j,start<=j->j<k->decide (M j col≠0)=false,fun L _=>T.rows-(iAt L 0).toNat,⟨start,hs,rfl,rfl,aJ _,fun j c l=>oo⟩,?_⟩
 rintro i d ⟨k,u,x,rfl,b,m⟩
 obtain rfl:i=(k:Int):=gz0
 refine ⟨_,rfl,_,_,_,t.c2,B4 (fun q=>?_) (fun n=>?_)⟩
 ·have a:k<T.rows:=oo
  refine Eu t a ⟨_,_,_,rfl,_,rfl,oo,oo,?_⟩
  obtain ⟨w,p,r,s⟩:=t.at a hc
  refine ⟨_,_,_,_,r,s,F0 (p.mono t.sep.le) ⟨_,rfl,Br.not (B4 (fun e=>?_) (fun e=>?_))⟩⟩
  ·rw [show B9 ((k:Int)+1)=((k+1:Nat):Int) by have:=t.small;rw [B5]<;>omega]
   refine ⟨⟨k+1,oo,rfl,rfl,oo,fun j c l=>?_⟩,by simp only [Ca];omega⟩
   grind
  ·have:fnd (fun i=>decide (M i col≠0)) (T.rows-start) start=k:=B5y _ b oo m (fun _=>gz0)
   grind
 ·have:fnd (fun i=>decide (M i col≠0)) (T.rows-start) start=T.rows:=B5y _ hs oo (fun j c l=>m j c oo) (fun y=>oo)
  grind
def A86(t:Tab h g o T M S){i k:Nat}(hi:i<T.rows)(hk:k<T.rows)(hik:i≠k)
 (hK:∀ h' o',Tab h' g o' T (fun a=>M (xch i k a)) (fun a=>S (xch i k a))->(∀ b,b≠T.bE->b≠T.bS->o' b=o b)->K (.tuple #[]) h'):aN prog 278 #[.pointer (some ⟨T.bt,0,none⟩),I (i:Int),I (k:Int)] h K:=by
 refine (fnk func278 [(2,[17],[],[I 0])]) ?_
 refine Eu t hi ⟨_,_,_,rfl,Eu t hk ⟨_,_,_,rfl,?_⟩⟩
 refine ⟨fun L D=>∃ (c:Nat) (u:aI),c<=T.cols/\L=[I c]/\Tab D g u T (fun a b=>if b<c then M (xch i k a) b else M a b) S/\∀ b,b≠T.bE->u b=o b,fun L _=>T.cols-(iAt L 0).toNat,⟨0,o,oo,rfl,t.congr (fun a b _ _=>oo) (fun _ _=>rfl),fun _ _=>rfl⟩,?_⟩
 rintro z D ⟨c,u,hc,eL,d,W⟩
 obtain rfl:z=(c:Int):=gz0
 refine B4 (fun N=>?_) (fun F=>?_)
 ·have e:c<T.cols:=oo
  obtain ⟨n,l,x,s⟩:=d.at hk e
  obtain ⟨C,j,m,A⟩:=d.at hi e
  rw [iN (dJ c)] at l j
  refine ⟨_,rfl,oo,oo,_,_,_,_,x,s,_,rfl,oo,oo,_,_,_,_,m,A,_,rfl,oo,oo,?_⟩
  refine d.store hi e (w:=n) l ?_
  intro O R p B
  refine ⟨_,rfl,oo,oo,?_⟩
  refine p.store hk e (w:=C) j ?_
  intro E y q r
  rw [show B9 ((c:Int)+1)=((c+1:Nat):Int) by have:=t.small;rw [B5]<;>omega]
  refine ⟨⟨c+1,y,oo,rfl,q.congr (fun a b _ _=>?_) (fun _ _=>rfl),fun b Q=>gz0⟩,by simp only [Ca];omega⟩
  show (if a=k/\b=c then M i c else if a=i/\b=c then M k c else if b<c then M (xch i k a) b else M a b)=if b<c+1 then M (xch i k a) b else M a b
  unfold xch
  grind
 ·obtain ⟨n,l,x,s,G,H⟩:=d.sat hk
  obtain ⟨C,j,m,A,V,e3⟩:=d.sat hi
  refine ⟨_,rfl,_,_,_,d.c2,_,rfl,_,_,_,d.c2,_,rfl,_,_,_,d.c2,_,rfl,oo,oo,_,_,_,_,_,_,_,_,x,s,G,H,_,rfl,_,_,_,d.c2,_,rfl,oo,oo,_,_,_,_,_,_,_,_,m,A,V,e3,_,rfl,oo,oo,?_⟩
  refine d.sstore hi (w:=n) l ?_
  intro O R p B
  refine ⟨_,rfl,oo,oo,?_⟩
  refine p.sstore hk (w:=C) j ?_
  intro E y q r
  refine hK E y (q.congr (fun a b _ Q=>oo) (fun a _=>?_)) (fun b aa X=>gz0)
  show (if a=k then S i else if a=i then S k else S a)=S (xch i k a)
  unfold xch
  grind
end
def Pc{P:cD}{t:bC}{v:cM}{K:VP}{h:aI}(x:∀ b,h b=none->K (.pointer (some ⟨b,0,none⟩)) (h.put b (.cells v.cells t))):wpH P (Instr.box t v) K h:=by
 exact x
def Xq{m k:Nat}(hm:1<=m)(hk:k<4611686018427387904):(k:Int)*2^(2*m)<b64^m:=by
 have e:b64^m=(2:Int)^(2*m)*2^(62*m):=by
  have:b64=(2:Int)^64:=dc
  rw [this,<- Int.pow_mul,<- Int.pow_add]
  grind
 have a:(2:Int)^62<=2^(62*m):=D5 dc o
 have c:(k:Int)<2^62:=by
  omega
 have b:(0:Int)<2^(2*m):=cC dc
 rw [e,bM]
 exact Int.mul_lt_mul_of_pos_left (Int.lt_of_lt_of_le c a) b
def Oa{m:Nat}{x y:Int}(hx:ZB m x)(hy:ZB m y):((x*y).natAbs:Int)<=2^(2*m):=by
 have:=hx.mul hy
 unfold ZB at this
 grind
section
variable {h g o:aI} {T:Tb} {M:Nat->Nat->Int} {S:Nat->Rat} {K:VP} {m:Nat}
def Rd:(prog.info? 244).map (·.zero)=some (some (.agg #[.slice none 0 0,.slice none 0 0])):=by kernel_rfl
def A6r(t:Tab h g o T M S){i p c:Nat}{wb:IV}{d:Int}(hi:i<T.rows)(hp':p<T.rows)(hip:i≠p)(hc:c<T.cols)(ib:ZIr g wb d)(hd:d≠0)(hm1:1<=m)(hm:2*m+1<=100000000)(hMi:∀ b,b<T.cols->ZB m (M i b))(hMp:∀ b,b<T.cols->ZB m (M p b))(hdb:ZB m d)
 (hK:∀ h' g' o',g.le g'->Tab h' g' o' T (fun a b=>if a=i then (M p c*M i b-M i c*M p b).tdiv d else M a b) S->(∀ b,b≠T.bE->o' b=o b)->K (.tuple #[]) h'):aN prog 279 #[.pointer (some ⟨T.bt,0,none⟩),I (i:Int),I (p:Int),I (c:Int),wb.v] h K:=by
 refine (fnk func279 [(4,[28],[],[I 0])] (cs:=[(7,[],[],[])]) (os:=[(10,[0,1,3,2,4,5,6])]) (own:=[9,12,14]) (wr:=[170,239])) ?_
 refine Eu t hi ⟨_,_,_,rfl,Eu t hp' ⟨_,_,_,rfl,?_⟩⟩
 obtain ⟨wf,zf,f0,f1⟩:=t.at hi hc
 refine ⟨_,rfl,oo,oo,_,_,_,_,f0,f1,?_⟩
 refine ⟨fun L X=>∃ (k:Nat) (l r:aI),k<=T.cols/\L=[I k]/\g.le l/\Tab X l r T (fun a b=>if a=i/\b<k then (M p c*M i b-M i c*M p b).tdiv d else M a b) S/\∀ b,b≠T.bE->r b=o b,fun L _=>T.cols-(iAt L 0).toNat,⟨0,g,o,oo,rfl,B0 _,t.congr (fun a b _ _=>oo) (fun _ _=>rfl),fun _ _=>rfl⟩,?_⟩
 rintro z hq ⟨k,l,r,hk,eL,H,q,R⟩
 obtain rfl:z=(k:Int):=gz0
 have ew:B9 ((k:Int)+1)=((k+1:Nat):Int):=by have:=t.small;rw [B5]<;>omega
 refine B4 (fun ad=>?_) (fun ac=>?_)
 ·have j:k<T.cols:=oo
  obtain ⟨w1,W,d0,d1⟩:=q.at hi j
  rw [iN oo] at W
  have s:(M p c*M i k-M i c*M p k).tdiv d=M i k->(∃ (k':Nat) (l r:aI),k'<=T.cols/\[I (B9 ((k:Int)+1))]=[I k']/\g.le l/\Tab hq l r T (fun a b=>if a=i/\b<k' then (M p c*M i b-M i c*M p b).tdiv d else M a b) S/\∀ b,b≠T.bE->r b=o b)/\T.cols-(iAt [I (B9 ((k:Int)+1))] 0).toNat<T.cols-(iAt [I (k:Int)] 0).toNat:=by
   intro e
   rw [ew]
   refine ⟨⟨k+1,l,r,oo,rfl,H,q.congr (fun a b _ _=>?_) (fun _ _=>rfl),R⟩,by simp only [Ca];omega⟩
   grind
  refine ⟨_,rfl,oo,oo,_,_,_,_,d0,d1,fun L X=>X=hq,?_,?_⟩
  ·refine F0 (W.mono q.sep.le) ⟨_,rfl,B4 (fun e1=>?_) (fun _=>rfl)⟩
   refine F0 (zf.mono (A0 H q.sep.le)) ⟨_,rfl,B4 (fun e2=>s (by simp_all)) (fun _=>?_)⟩
   obtain ⟨w2,O,c0,c1⟩:=q.at hp' j
   refine ⟨_,rfl,oo,oo,_,_,_,_,c0,c1,F0 (O.mono q.sep.le) ⟨_,rfl,B4 (fun e3=>s (by simp_all)) (fun _=>rfl)⟩⟩
  ·rintro X rfl
   refine T7 Rd ?_
   intro bs u
   have ab:l bs=none:=by
    cases hx:l bs with
    | none=>rfl
    | some y=>rw [q.sep.le _ _ hx] at u;cases u
   have s2:=q.sep.vis u (.cells #[.slice none 0 0,.slice none 0 0] 244)
   have Z0:SumS (l.put bs (.cells #[.slice none 0 0,.slice none 0 0] 244)) l bs 244 200000001 0 0:=SumS.zero ab
   obtain ⟨w3,z3,a0,a1⟩:=q.ato hp' hc
   obtain ⟨w2,O,c0,c1⟩:=q.ato hp' j
   rw [iN oo] at O z3
   have V:∀ {gg:aI} {w:IV} {x:Int},ZIr gg w x->ZB m x->w.n<=100000000:=fun i b=>ZI.len i b oo
   have B:=hMp c hc
   have A:=hMi k j
   have E:=hMi c hc
   have C:=hMp k j
   have q1:=Oa B A
   have q2:=Oa E C
   have q0:=Xq (m:=m) (k:=2) hm1 oo
   have l3:=V z3 B
   have l1:=V W A
   have lf:=V zf E
   have l2:=V O C
   refine ⟨_,rfl,_,rfl,oo,oo,_,_,_,_,s2.cell a0,s2.cell a1,?_⟩
   refine s2.call (O4 Z0 z3 W oo oo (N1:=m) oo oo ?_)
   intro G3 g3 F Z3 H3 s3
   refine ⟨rfl,_,rfl,oo,oo,_,_,_,_,s3.cell c0,s3.cell c1,?_⟩
   refine s3.call (Fh Z3 (zf.mono (A0 H F)) (O.mono F) oo oo (N1:=m) oo oo ?_)
   intro G4 g4 aa Z4 H4 s4
   refine ⟨rfl,s4.call (Bg Z4 oo ?_)⟩
   intro sv Av nv cv G5 N z5 H5 s5
   rw [Int.zero_add] at z5
   refine ⟨_,_,_,_,rfl,s4.le_le s5 N,?_⟩
   have G:l.le G5:=A0 F (A0 aa (A0 Z4.le N))
   have bz:ZB (2*m+1) (M p c*M i k-M i c*M p k):=((B.mul A).sub (E.mul C)).mono oo
   refine s5.call (P0 z5 (ib.mono (A0 H G)) bz (hdb.mono oo) oo hd ?_)
   intro s6 A6 n6 c6 G6 D z6 H6 Q
   refine ⟨_,_,_,_,rfl,s5.le_le Q D,_,rfl,oo,oo,?_⟩
   have t6:=q.next Q (A0 G D)
   refine t6.store hi j (w:=⟨s6,A6,n6,c6⟩) z6 ?_
   intro H7 o7 t7 ae
   rw [ew]
   refine ⟨⟨k+1,G6,o7,oo,rfl,A0 H (A0 G D),t7.congr (fun a b _ _=>?_) (fun _ _=>rfl),fun b hb=>gz0⟩,by simp only [Ca];omega⟩
   show (if a=i/\b=k then (M p c*M i k-M i c*M p k).tdiv d else if a=i/\b<k then (M p c*M i b-M i c*M p b).tdiv d else M a b)=_
   grind
 ·exact hK hq l r H (q.congr (fun a b _ hb=>by
   omega) (fun _ _=>rfl)) R
def B2x(n:Nat)(s:PS)(h:s.cs=[]):∀ c,(Ge n s c).cs.length<=c:=by
 intro c
 induction c with
 | zero=>show s.cs.length<=0;grind
 | succ c ih=>
  show (Gw n c (Ge n s c)).cs.length<=c+1
  unfold Gw
  grind
def A0a(n:Nat)(s:PS)(h:s.last≠0)(hs:s.sgn=1\/s.sgn= -1)(hl:s.cs.length<=n):∀ c,(Ge n s c).last≠0/\((Ge n s c).sgn=1\/(Ge n s c).sgn= -1)/\(Ge n s c).cs.length<=n:=by
 intro c
 induction c with
 | zero=>exact ⟨h,hs,hl⟩
 | succ c ih=>
  obtain ⟨i1,d,b⟩:=ih
  show (Gw n c (Ge n s c)).last≠0/\((Gw n c (Ge n s c)).sgn=1\/(Gw n c (Ge n s c)).sgn= -1)/\(Gw n c (Ge n s c)).cs.length<=n
  have e:=A30 n c (Ge n s c) b
  unfold Gw
  by_cases a:Uj n c (Ge n s c)<n
  ·rw [iP a]
   have:=A3q (fun i=>decide ((Ge n s c).M i c≠0)) (n-(Ge n s c).cs.length) (Ge n s c).cs.length (by unfold Uj at a;omega)
   refine ⟨by simpa [Uj] using this,?_,?_⟩
   ·grind
   grind
  grind
def Q5{α:Type}[E:Enc α]{P:cD}{t e ty:bC}{z:cM}{bytes:Nat}(st:SliceT P t e z E.default.size bytes){h g o:aI}{A:Option aO}{c n:Nat}{xs:List α}(s:Sep h g o)(w:OwnSl o e A c xs)(hxn:n=xs.length){v:cM}{y:α}(hv:v.cells=(enc y).toArray)(hsz:E.default.size<=1000)
 (hb:(2*(xs.length+1)+192)*bytes<=281474976710656) (hn:xs.length+1<=9223372036854775807) {K:Option aO->Nat->Nat->aI->Prop}
 (x:∀ A' c' h' g' o',g.le g'->Sep h' g' o'->OwnSl o' e A' c' (xs++[y])->(∀ k u,o k=some u->A≠some ⟨k,0,none⟩->o' k=some u/\A'≠some ⟨k,0,none⟩)->K A' (xs.length+1) c' h'):
 wpH P (cZ t 1 #[(0,v)]) (fun v' hp=>∃ (B:Option aO) (m d:Nat),v'= .slice B m d/\wpH P (dG #[t,t] ty #[.slice A n c,.slice B m d]) (fun v1 hp1=>∃ (A':Option aO) (n' c':Nat),v1= .slice A' n' c'/\K A' n' c' hp1) hp) h:=by
 refine S8 _ (OwnSl.push (ty:=ty) st s w hv hsz hb hn (K1:=fun _=>True) (K:=K) (fun _ _=>trivial) x) ?_
 grind
def Tab.own(t:Tab h g o T M S):(∃ x,o T.bt=some x)/\(∃ x,o T.bE=some x)/\∃ x,o T.bS=some x:=by
 obtain ⟨e,b⟩:=t.head
 obtain ⟨l,⟨a,k,i⟩,_⟩:=t.elems
 obtain ⟨d,⟨j,m,c⟩,_⟩:=t.scales
 grind
def Tab.keep(t:Tab h g o T M S){h' g' o':aI}(s:Sep h' g' o')(l:g.le g')(hk:∀ k x,o k=some x->k=T.bt\/k=T.bE\/k=T.bS->o' k=some x):Tab h' g' o' T M S:=by
 refine ⟨s,t.n1,t.n2,t.n3,?_,?_,?_,t.cE,t.cS,t.small,t.pos⟩
 ·obtain ⟨e,r⟩:=t.head
  grind
 ·obtain ⟨n,⟨e,ex,c⟩,b,a⟩:=t.elems
  refine ⟨n,⟨e,ex,hk _ _ c (.inr (.inl rfl))⟩,b,fun i j p d=>?_⟩
  obtain ⟨w,e,q⟩:=a i j p d
  exact ⟨w,e,P2 _ _ _ _ l q⟩
 ·obtain ⟨m,⟨e,ex,c⟩,b,a⟩:=t.scales
  exact ⟨m,⟨e,ex,hk _ _ c (.inr (.inr rfl))⟩,b,a.mono Bj l⟩
abbrev zs(l:List Nat):List Int:=l.map fun (n:Nat)=>(n:Int)
def B50(T:Tb)(A:Option aO):Prop:=A≠some ⟨T.bt,0,none⟩/\A≠some ⟨T.bE,0,none⟩/\A≠some ⟨T.bS,0,none⟩
def A0f(t:Tab h g o T M S){c l nq:Nat}(hc:c<=T.cols)(hm1:1<=m)(hnq:∀ k,k<=c->(Ge T.rows ⟨M,S,[],1,1⟩ k).cs.length<=nq)(hm:2*(3^nq*m)+1<=100000000)(hz:ZbP T.rows T.cols m l ⟨M,S,[],1,1⟩)
 (hK:∀ h' g' o' A cap w,g.le g'->Tab h' g' o' T (Ge T.rows ⟨M,S,[],1,1⟩ c).M (Ge T.rows ⟨M,S,[],1,1⟩ c).S->OwnSl o' 3 A cap (zs (Ge T.rows ⟨M,S,[],1,1⟩ c).cs)->B50 T A->(∀ k x,o k=some x->k≠T.bE->k≠T.bS->o' k=some x/\A≠some ⟨k,0,none⟩)->ZIr g' w (Ge T.rows ⟨M,S,[],1,1⟩ c).last->
  K (.tuple #[.slice A (Ge T.rows ⟨M,S,[],1,1⟩ c).cs.length cap,w.v,I (Ge T.rows ⟨M,S,[],1,1⟩ c).sgn]) h'):aN prog 210 #[.pointer (some ⟨T.bt,0,none⟩),I (c:Int)] h K:=by
 refine (fnk func210 [(4,[7,9,17],[(8,2)],[.slice none 0 0,I 0,I 0,.bool false,.slice none 0 0]),(13,[45],[],[I 0])] (cs:=[(12,[9],[],[I 0])]) (own:=[5,8]) (wr:=[278,279])) ?_
 have ay:=t.small
 refine t.sep.call (N5 oo oo ?_)
 intro s1 A1 n1 c1 g1 l1 i1 h1 am
 have t1:=t.next am l1
 refine ⟨_,_,_,_,rfl,fun L hp=>∃ (k:Nat) (g' o':aI) (A:Option aO) (cap:Nat) (w:IV),k<=c/\L=[.slice A (Ge T.rows ⟨M,S,[],1,1⟩ k).cs.length cap,I (Ge T.rows ⟨M,S,[],1,1⟩ k).sgn,I k,.bool w.s,.slice w.A w.n w.c]/\g.le g'/\Tab hp g' o' T (Ge T.rows ⟨M,S,[],1,1⟩ k).M (Ge T.rows ⟨M,S,[],1,1⟩ k).S/\OwnSl o' 3 A cap (zs (Ge T.rows ⟨M,S,[],1,1⟩ k).cs)/\B50 T A/\(∀ k x,o k=some x->k≠T.bE->k≠T.bS->o' k=some x/\A≠some ⟨k,0,none⟩)/\ZIr g' w (Ge T.rows ⟨M,S,[],1,1⟩ k).last,
  fun L _=>c-(iAt L 2).toNat,⟨0,g1,o,none,0,⟨s1,A1,n1,c1⟩,oo,rfl,l1,t1,(OwnSl.nil:OwnSl o 3 none 0 ([]:List Int)),⟨by simp,by simp,by simp⟩,fun k x e _ _=>⟨e,by simp⟩,i1⟩,?_⟩
 rintro pA pn pc au z ls lA ln lc hp ⟨k,g2,o2,A,cap,w,hk,eL,lg,t2,ow,B,ko,iw⟩
 obtain ⟨⟨rfl,rfl,rfl⟩,rfl,rfl,rfl,rfl,rfl,rfl⟩:=eL
 have F:=A0a T.rows ⟨M,S,[],1,1⟩ (show (1:Int)≠0 from dc) (.inl rfl) (dB _) k
 have E:=hz.run hm1 k oo
 refine B4 (fun a0=>?_) (fun a5=>?_)
 ·have H:k<T.cols:=oo
  have ew:B9 ((k:Int)+1)=((k+1:Nat):Int):=by rw [B5]<;>omega
  have ai:Ge T.rows ⟨M,S,[],1,1⟩ (k+1)=Gw T.rows k (Ge T.rows ⟨M,S,[],1,1⟩ k):=rfl
  have av:3^(Ge T.rows ⟨M,S,[],1,1⟩ k).cs.length*m<=3^nq*m:=aV _ (cO dc (hnq k oo))
  have R:=A4x (Ge T.rows ⟨M,S,[],1,1⟩ k).cs.length m hm1
  generalize hst0:Ge T.rows ⟨M,S,[],1,1⟩ k=st at *
  have X:fnd (fun i=>decide (st.M i k≠0)) (T.rows-st.cs.length) st.cs.length=Uj T.rows k st:=rfl
  have a3:=A30 T.rows k st F.2.2
  refine B08 t2 F.2.2 H (fun V=>?_) (fun V=>?_)
  ·rw [X] at V ⊢
   have u:Gw T.rows k st={ M:=clr (fun i=>st.M (xch st.cs.length (Uj T.rows k st) i)) st.cs.length k st.last,S:=fun i=>st.S (xch st.cs.length (Uj T.rows k st) i),cs:=st.cs++[k],last:=st.M (Uj T.rows k st) k,sgn:=if Uj T.rows k st=st.cs.length then st.sgn else-st.sgn }:=by unfold Gw;grind
   generalize hr:Uj T.rows k st=r at *
   have q:st.cs.length<T.rows:=oo
   refine ⟨_,_,rfl,fun L hq=>∃ (g3 C:aI),L=[I (if r=st.cs.length then st.sgn else-st.sgn)]/\g2.le g3/\Tab hq g3 C T (fun i=>st.M (xch st.cs.length r i)) (fun i=>st.S (xch st.cs.length r i))/\∀ b,b≠T.bE->b≠T.bS->C b=o2 b,?_,?_⟩
   ·refine D6 (fun ae=>?_) (fun ak=>?_)
    ·have d:r≠st.cs.length:=oo
     refine A86 t2 q V (fun e=>d e.symm) ?_
     intro h3 C t3 aa
     refine ⟨rfl,g2,C,?_,B0 _,t3,aa⟩
     rw [iN d]
     have:B9 (0-st.sgn)= - st.sgn:=by rw [B5]<;>omega
     rw [this]
    ·refine ⟨g2,o2,gz0,B0 _,t2.congr (fun i j _ _=>?_) (fun i _=>?_),fun _ _ _=>rfl⟩
     ·unfold xch;grind
     ·unfold xch;grind
   ·rintro ao h4 ⟨g3,C,a1,l3,t3,aa⟩
    obtain rfl:ao=if r=st.cs.length then st.sgn else-st.sgn:=gz0
    refine ⟨_,rfl,_,_,_,t3.c2,?_⟩
    have xk:xch st.cs.length r st.cs.length=r:=A49 _ _
    have aj:∀ i,i<T.rows->xch st.cs.length r i<T.rows:=fun i hi=>A48 q V hi
    refine ⟨fun L hq=>∃ (i:Nat) (Q N:aI),i<=T.rows/\L=[I i]/\g3.le Q/\Tab hq Q N T (fun a b=>if a<i/\a≠st.cs.length then clr (fun i=>st.M (xch st.cs.length r i)) st.cs.length k st.last a b else st.M (xch st.cs.length r a) b) (fun i=>st.S (xch st.cs.length r i))/\∀ b,b≠T.bE->N b=C b,fun L _=>T.rows-(iAt L 0).toNat,⟨0,g3,C,oo,rfl,B0 _,t3.congr (fun a b _ _=>oo) (fun _ _=>rfl),fun _ _=>rfl⟩,?_⟩
    rintro zi h5 ⟨i,Q,N,hi,a4,l4,t4,an⟩
    obtain rfl:zi=(i:Int):=gz0
    have ac:B9 ((i:Int)+1)=((i+1:Nat):Int):=by rw [B5]<;>omega
    refine B4 (fun ar=>?_) (fun ax=>?_)
    ·have ab:i<T.rows:=oo
     refine D6 (fun ae=>?_) (fun ak=>?_)
     ·have d:i≠st.cs.length:=oo
      refine A6r (m:=3^st.cs.length*m) t4 ab q d H (P2 _ _ _ _ (A0 l3 l4) iw) F.1 R oo (fun b O=>?_) (fun b O=>?_) E.last ?_
      ·rw [iN oo];exact E.M _ b (aj i ab) O
      ·rw [iN oo,xk];exact E.M r b V O
      intro h6 g6 o6 l6 t6 a2
      refine ⟨rfl,?_⟩
      rw [ac]
      refine ⟨⟨i+1,g6,o6,oo,rfl,A0 l4 l6,t6.congr (fun a b _ _=>?_) (fun _ _=>rfl),fun b O=>gz0⟩,by simp only [Ca];omega⟩
      show (if a=i then ((if st.cs.length<i/\st.cs.length≠st.cs.length then _ else st.M (xch st.cs.length r st.cs.length) k)*(if i<i/\i≠st.cs.length then _ else st.M (xch st.cs.length r i) b)-(if i<i/\i≠st.cs.length then _ else st.M (xch st.cs.length r i) k)*(if st.cs.length<i/\st.cs.length≠st.cs.length then _ else st.M (xch st.cs.length r st.cs.length) b)).tdiv st.last else if a<i/\a≠st.cs.length then clr (fun i=>st.M (xch st.cs.length r i)) st.cs.length k st.last a b else st.M (xch st.cs.length r a) b)=if a<i+1/\a≠st.cs.length then clr (fun i=>st.M (xch st.cs.length r i)) st.cs.length k st.last a b else st.M (xch st.cs.length r a) b
      by_cases ea:a=i
      ·unfold clr
       grind
      omega
     ·rw [ac]
      refine ⟨⟨i+1,Q,N,oo,rfl,l4,t4.congr (fun a b _ _=>?_) (fun _ _=>rfl),an⟩,by simp only [Ca];omega⟩
      omega
    ·have tF:Tab h5 Q N T (clr (fun i=>st.M (xch st.cs.length r i)) st.cs.length k st.last) (fun i=>st.S (xch st.cs.length r i)):=t4.congr (fun a b ha _=>by
      by_cases h7:a=st.cs.length
      ·unfold clr;grind
      omega) (fun _ _=>rfl)
     refine Eu tF q ⟨_,_,_,rfl,_,rfl,oo,oo,?_⟩
     obtain ⟨wl,zl,d0,d1⟩:=tF.at q H
     have ag:ZIr Q wl (st.M r k):=by
      have:clr (fun i=>st.M (xch st.cs.length r i)) st.cs.length k st.last st.cs.length k=st.M r k:=by unfold clr;grind
      grind
     refine ⟨_,_,_,_,d0,d1,?_⟩
     have D:∀ b,b≠T.bE->b≠T.bS->N b=o2 b:=fun b h1 h2=>by grind
     have al:OwnSl N 3 pA pc (zs st.cs):=ow.keep fun b x hA O=>by
      rw [D b (fun e=>B.2.1 gz0) (fun e=>B.2.2 gz0)];exact O
     have W:(zs st.cs).length=st.cs.length:=by simp
     refine Q5 (ty:=59) Qh tF.sep al (by simp) (y:=((k:Nat):Int)) rfl dc oo oo ?_
     intro A' c' h' g' o' G s' az p
     obtain ⟨⟨x1,aq⟩,⟨x2,ad⟩,⟨x3,ah⟩⟩:=tF.own
     have t':=tF.keep s' G (fun kk x e af=>by
      rcases af with rfl|rfl|rfl
      ·exact (p _ _ e B.1).1
      ·exact (p _ _ e B.2.1).1
      ·exact (p _ _ e B.2.2).1)
     rw [W,ew]
     refine ⟨⟨k+1,g',o',A',c',wl,oo,?_,A0 lg (A0 l3 (A0 l4 G)),?_⟩,?_⟩
     ·grind
     ·rw [ai,u]
      refine ⟨t',gz0,⟨(p _ _ aq B.1).2,(p _ _ ad B.2.1).2,(p _ _ ah B.2.2).2⟩,fun kk x e h1 h2=>?_,P2 _ _ _ _ G ag⟩
      grind
     ·show c-((k+1:Nat):Int).toNat<c-((k:Nat):Int).toNat
      omega
  ·have u:Gw T.rows k st=st:=by unfold Gw;grind
   refine ⟨_,_,rfl,?_⟩
   rw [ew]
   refine ⟨⟨k+1,g2,o2,pA,pc,w,oo,gz0,lg,?_⟩,?_⟩
   ·grind
   ·show c-((k+1:Nat):Int).toNat<c-((k:Nat):Int).toNat
    omega
 grind
end
section
set_option maxRecDepth 100000
variable {h:aI} {K:VP}
def Ph(P:cD)(b9:OA)(q:Nat)(r:OA)(s:Nat)(c0:LP)(t:LN)(d:Int)(u:Bool)(v:OA)(w x:Nat)(c1:Bool)(c2:OA)(c3 c4:Nat)(c5:Bool)(c6:OA)(c7 c8:Nat)(c9:Int)(d0:OA)(d1:Nat)(d2:aI)(d3:aI):Prop:=
 ∃ (f:LP) (y:LN),f [I 0] d3/\
 ∀ a b,f [I a] b->Bd (a<(q:Int)) (∃ c,Ax b9 c a q <| ∃ (z:Int) (A:Int) (B:Int) (C:Int) (D:Int) (E:Int) (F:Bool) (G:OA) (H L:Nat) (M:Bool) (N:OA) (O Q:Nat),b.cell? (aC (c.add (a.toNat*10)) 0)=some (I z)/\b.cell? (aC (c.add (a.toNat*10)) 1)=some (I A)/\b.cell? (aC (c.add (a.toNat*10)) 2)=some (I B)/\b.cell? (aC (c.add (a.toNat*10)) 3)=some (I C)/\b.cell? (aC (c.add (a.toNat*10)) 4)=some (I D)/\b.cell? (aC (c.add (a.toNat*10)) 5)=some (I E)/\b.cell? (aC (c.add (a.toNat*10)) 6)=some (.bool F)/\b.cell? (aC (c.add (a.toNat*10)) 7)=some (.slice G H L)/\b.cell? (aC (c.add (a.toNat*10)) 8)=some (.bool M)/\b.cell? (aC (c.add (a.toNat*10)) 9)=some (.slice N O Q)/\wpH P (dE 126 true (T0)) (fun d4 d5=>∃ (g:aO),d4=Pt g/\wpH P (aT 126 (Pt g) (.agg #[I z,I A,I B,I C,I D,I E,.bool F,Sl G H L,.bool M,Sl N O Q])) (fun _ e=>∃ T,Ax r T a s <| ∃ V W X a0,Lz e (T.add (a.toNat*2)) V W X a0<|(0<=d/\d<(6:Int))/\∃ l,e.cell? (aC (g.add 0) (d.toNat*1))=some (I l)/\∃ a1,Ax d0 a1 l d1 <| ∃ a2 a3 a4 a5,Lz e (a1.add (l.toNat*2)) a2 a3 a4 a5<|aN P 81 #[Zv V W X a0,Zv a2 a3 a4 a5] e (fun d6 R=>∃ a6 a7 a8 a9,d6=Zv a6 a7 a8 a9/\e.le R/\∃ b0,Ax r b0 a s<|wpH P (aT 76 (Pt (b0.add (a.toNat*2))) (Zv a6 a7 a8 a9)) (fun _ S=>f [I (B9 (a+1))] S/\y [I (B9 (a+1))] S<y [I a] b) R)) d5) b)
 (aN P 82 #[Qv c1 c2 c3 c4 c5 c6 c7 c8] b (fun d7 i=>∃ b1 b2 b3 b4,d7=Zv b1 b2 b3 b4/\b.le i/\aN P 83 #[Zv b1 b2 b3 b4,U (C6 c9)] i (fun d8 j=>∃ b5 b6 b7 b8,d8=Zv b5 b6 b7 b8/\i.le j/\aN P 81 #[Zv u v w x,Zv b5 b6 b7 b8] j (fun d9 k=>∃ m n o p,d9=Zv m n o p/\j.le k/\c0 [I (B9 (d+1)),.bool m,.slice n o p] k/\t [I (B9 (d+1)),.bool m,.slice n o p] k<t [I d,.bool u,.slice v w x] d2))))
def Pi(P:cD)(W:OA)(X:Nat)(a0:OA)(a1:Nat)(a2:LP)(a3:LN)(a4:Int)(a5:Bool)(a6:OA)(a7 a8:Nat)(c:Bool)(d:OA)(e f:Nat)(g:Bool)(i:OA)(j k:Nat)(r:Int)(s:OA)(l:Nat)(a9:aI)(b0:aI):Prop:=
 ∃ (m:LP) (t:LN),m [I 0] a9/\
 ∀ a b,m [I a] b->Bd (a<(l:Int)) (aN P 169 #[Qv c d e f g i j k] b (fun b1 n=>∃ w x y z,b1=Zv w x y z/\b.le n/\aN P 83 #[Zv w x y z,U (C6 a)] n (fun b2 o=>∃ A B C D,b2=Zv A B C D/\n.le o/\aN P 82 #[Qv c d e f g i j k] o (fun b3 p=>∃ E F G H,b3=Zv E F G H/\o.le p/\aN P 83 #[Zv E F G H,U (C6 (B9 (r-a)))] p (fun b4 q=>∃ L M N O,b4=Zv L M N O/\p.le q/\aN P 81 #[Zv A B C D,Zv L M N O] q (fun b5 u=>∃ Q R S T,b5=Zv Q R S T/\q.le u/\∃ V,Ax s V a l<|wpH P (aT 76 (Pt (V.add (a.toNat*2))) (Zv Q R S T)) (fun _ v=>m [I (B9 (a+1))] v/\t [I (B9 (a+1))] v<t [I a] b) u))))))
 (Ph P W X a0 a1 a2 a3 a4 a5 a6 a7 a8 c d e f g i j k r s l b0 b)
def Pj(P:cD)(l:OA)(g:Nat)(E:OA)(F:Nat)(G:LP)(H:LN)(f:Int)(L:Bool)(M:OA)(N O:Nat)(Q:Bool)(R:OA)(S T:Nat)(V:Bool)(W:OA)(X a0:Nat)(m:aI):Prop:=
 ∃ (i:LP) (n:LN),i [I 0,I 0] m/\
 ∀ d a b,i [I d,I a] b->Bd (a<(g:Int)) (∃ c,Ax l c a g <| ∃ (o:Int) (p:Int) (q:Int) (r:Int) (s:Int) (t:Int) (u:Bool) (v:OA) (w x:Nat) (y:Bool) (z:OA) (A B:Nat),b.cell? (aC (c.add (a.toNat*10)) 0)=some (I o)/\b.cell? (aC (c.add (a.toNat*10)) 1)=some (I p)/\b.cell? (aC (c.add (a.toNat*10)) 2)=some (I q)/\b.cell? (aC (c.add (a.toNat*10)) 3)=some (I r)/\b.cell? (aC (c.add (a.toNat*10)) 4)=some (I s)/\b.cell? (aC (c.add (a.toNat*10)) 5)=some (I t)/\b.cell? (aC (c.add (a.toNat*10)) 6)=some (.bool u)/\b.cell? (aC (c.add (a.toNat*10)) 7)=some (.slice v w x)/\b.cell? (aC (c.add (a.toNat*10)) 8)=some (.bool y)/\b.cell? (aC (c.add (a.toNat*10)) 9)=some (.slice z A B)/\wpH P (dE 126 true (T0)) (fun a1 a2=>∃ (j:aO),a1=Pt j/\wpH P (aT 126 (Pt j) (.agg #[I o,I p,I q,I r,I s,I t,.bool u,Sl v w x,.bool y,Sl z A B])) (fun _ k=>(0<=f/\f<(6:Int))/\∃ e,k.cell? (aC (j.add 0) (f.toNat*1))=some (I e)/\i [I (if e>d then e else d),I (B9 (a+1))] k/\n [I (if e>d then e else d),I (B9 (a+1))] k<n [I d,I a] b) a2) b)
 (wpH P (Instr.makeSlice 72 (I (B9 (d+1))) (I (B9 (d+1)))) (fun a3 a4=>∃ C D a5,a3=Sl C D a5/\Pi P l g E F G H f L M N O Q R S T V W X a0 d C D a4 m) b)
def Pg(P:cD)(K:VP)(B:OA)(e:Nat)(C:Bool)(D:OA)(E F:Nat)(f:aO)(G:aI):Prop:=
 ∃ (c:LP) (g:LN),c [I 0] G/\
 ∀ a b,c [I a] b->Bd (a<(e:Int)) (∃ k,Ax B k a e <| ∃ l m n o,Lz b (k.add (a.toNat*2)) l m n o<|aN P 219 #[Pt f,Zv l m n o] b (fun H i=>H=T0/\c [I (B9 (a+1))] i/\g [I (B9 (a+1))] i<g [I a] b))
 (aN P 171 #[Pt f] b (fun L d=>∃ p q r s,L=Zv p q r s/\b.le d/\aN P 85 #[Zv p q r s,Zv C D E F] d (fun M j=>∃ t u v w x y z A,M=Qv t u v w x y z A/\d.le j/\K (Qv t u v w x y z A) j)))
def Tt(P:cD)(v:OA)(w:Nat)(x:OA)(i:Nat)(K:VP)(y:Bool)(z:OA)(A B:Nat)(j:OA)(k:Nat)(C:aI):Prop:=
 ∃ (c:LP) (D:LN),c [I 0,.bool y,.slice z A B] C/\
 ∀ a d e f g b,c [I a,.bool d,.slice e f g] b->Bd (a<(i:Int)) (∃ m,Ax x m a i <| ∃ n o p q r s t u,Lq b (m.add (a.toNat*4)) n o p q r s t u<|Pj P v w j k c D a d e f g n o p q r s t u b)
 (wpH P (dE 244 true (T0)) (fun E F=>∃ (l:aO),E=Pt l/\Pg P K j k d e f g l F) b)
def B1q(P:cD)(e:OA)(d C:Nat)(D:OA)(E X:Nat)(h:aI)(K:VP):Prop:=
 aN P 217 #[Sl e d C] h (fun O Q=>∃ g i j k,O=Zv g i j k/\wpH P (Instr.makeSlice 72 (I (d:Int)) (I (d:Int))) (fun R S=>∃ l m W,R=Sl l m W/\∃ (f:LP) (n:LN),f [I 0] S/\
 ∀ a b,f [I a] b->Bd (a<(d:Int)) (∃ c,Ax e c a d <| ∃ (F:Int) (G:Int) (H:Int) (L:Int) (M:Int) (N:Int) (o:Bool) (p:OA) (q r:Nat) (s:Bool) (t:OA) (u v:Nat),b.cell? (aC (c.add (a.toNat*10)) 0)=some (I F)/\b.cell? (aC (c.add (a.toNat*10)) 1)=some (I G)/\b.cell? (aC (c.add (a.toNat*10)) 2)=some (I H)/\b.cell? (aC (c.add (a.toNat*10)) 3)=some (I L)/\b.cell? (aC (c.add (a.toNat*10)) 4)=some (I M)/\b.cell? (aC (c.add (a.toNat*10)) 5)=some (I N)/\b.cell? (aC (c.add (a.toNat*10)) 6)=some (.bool o)/\b.cell? (aC (c.add (a.toNat*10)) 7)=some (.slice p q r)/\b.cell? (aC (c.add (a.toNat*10)) 8)=some (.bool s)/\b.cell? (aC (c.add (a.toNat*10)) 9)=some (.slice t u v)/\aN P 218 #[Qv o p q r s t u v,Zv g i j k] b (fun T V=>∃ x y z A,T=Zv x y z A/\∃ B,Ax l B a m<|wpH P (aT 76 (Pt (B.add (a.toNat*2))) (Zv x y z A)) (fun _ w=>f [I (B9 (a+1))] w/\n [I (B9 (a+1))] w<n [I a] b) V))
 (Tt P e d D E K g i j k l m b)) Q)
def A71 a b c d e f(hvc:B1q prog a b c d e f h K):aN prog 147 #[Sl a b c,Sl d e f] h K:=
 fnq func147 { loops:=[(4,⟨[28],[],[I 0],⟨([7,8]++Lrg 28 13),[8]⟩⟩),(9,⟨[43],[(5,2)],[I 0,.bool false,N0],⟨([9,10,11,13,14,15,16,17]++Lrg 43 74),[5,10]⟩⟩),(13,⟨[11,50],[],[I 0,I 0],⟨([11,13]++Lrg 50 11),[]⟩⟩),(19,⟨[66],[],[I 0],⟨([15]++Lrg 66 20),[]⟩⟩),(24,⟨[88],[],[I 0],⟨([16,17]++Lrg 88 21),[]⟩⟩),(32,⟨[119],[],[I 0],⟨[20,119,120,121,122,123,124,125],[20]⟩⟩)],orders:=[(21,([0,1,2,4,5,7,9,10,11,12,3,6,8,13,14,15,16],[])),(28,([0,1,3,4,2,5,6,7],[])),(36,([1,0,2,3],[]))] } [4,5,8,10,20] [219] hvc
end
structure EV where
 x0:Int
 x1:Int
 x2:Int
 x3:Int
 x4:Int
 x5:Int
 w:QV
def EV.xs(e:EV):List Int:=[e.x0,e.x1,e.x2,e.x3,e.x4,e.x5]
def EV.v(e:EV):cM:=.agg #[I e.x0,I e.x1,I e.x2,I e.x3,I e.x4,I e.x5,.bool e.w.s,.slice e.w.A e.w.n e.w.c,.bool e.w.s2,.slice e.w.A2 e.w.n2 e.w.c2]
instance:Enc EV:=⟨⟨fun e=>B8f e.x0 e.x1 e.x2 e.x3 e.x4 e.x5 e.w,10,fun _=>rfl,fun e v hv=>by simp [B8f] at hv;rcases hv with rfl|rfl|rfl|rfl|rfl|rfl|rfl|rfl|rfl|rfl<;>rfl⟩⟩
abbrev ENr:aI->EV->K9->Prop:=fun h e t=>RQ h e.w (rv t.1)/\∀ j,j<6->e.xs.getD j 0=t.2.getD j 0
def Qn:Mon ENr:=fun _ _ _ _ a i=>⟨i.1.mono a,i.2⟩
def Ko:EV:=⟨0,0,0,0,0,0,⟨false,none,0,0,false,none,0,0⟩⟩
def Tv{α:Type}[E:Enc α]{o:aI}{b:Nat}{e:bC}{c:Nat}{zx:α}:OwnSl (o.put b (.cells ((bF c zx).flatMap enc).toArray e)) e (some ⟨b,0,none⟩) c ([]:List α):=
 ⟨dB _,.inr ⟨b,_,rfl,B8 _ _ _,by rw [I7,List.length_replicate],by simp⟩⟩
def B3d{xs:List Int}(hx:xs.length<=6)(j:Nat):(xs++[0,0,0,0,0,0].drop xs.length).getD j 0=xs.getD j 0:=by
 rw [aH,aH]
 by_cases h:j<xs.length
 ·rw [List.getElem?_append_left h]
 ·rw [dI o,List.getElem?_drop]
  have a:xs[j]? = none:=cL o
  rw [a,show xs.length+(j-xs.length)=j from o]
  match j with
  | 0|1|2|3|4|5=>rfl
  | n+6=>rfl
section
variable {h:aI} {K:VP} {vars:Int}
def Uk{l:List UInt8}{xs:List Int}{A:Option aO}{c:Nat}(gl:Gtz h)(hl:l.length<=140737488351232)(se:SlI .i64 h A xs)(hv:vars<=6)(hK1:TermOk vars (l,xs)->∀ (e:EV) h',h.le h'->ENr h' e (l,xs)->K (.tuple #[e.v,.bool true]) h')(hK0:¬ TermOk vars (l,xs)->∀ h',h.le h'->K (.tuple #[C52,.bool false]) h'):aN prog 282 #[I vars,.agg #[.string (bs l),.slice A xs.length c]] h K:=by
 refine (fnk func282 [(5,[34],[(4,10)],[I 0,I 0,I 0,I 0,I 0,I 0,I 0,.bool false,.slice none 0 0,.bool false,.slice none 0 0])] (own:=[3,4,6])) ?_
 refine Q9 gl hl (fun q e w u g i=>⟨_,_,_,_,_,_,_,_,_,rfl,?_⟩) (fun n w u g _=>⟨_,_,_,_,_,_,_,_,_,rfl,hK0 (fun o=>?_) u g⟩)
 ·refine V9 i ⟨_,rfl,B4 (fun G=>hK0 (fun o=>?_) u g) (fun G=>?_)⟩
  ·obtain ⟨W,D,n'⟩:=o.num
   exact n' (by rw [<- E8 (e.symm.trans D)];exact G)
  refine D6 (fun x=>hK0 (fun o=>x o.len) u g) (fun z=>?_)
  refine ⟨fun l h'=>∃ (k:Nat) (R:List cM),l=I k::R/\k<=xs.length/\(∀ j,j<k->0<=xs.getD j 0/\xs.getD j 0<=1048576)/\h'=u,fun l _=>xs.length-(iAt l 0).toNat,⟨0,_,rfl,oo,fun j hj=>oo,rfl⟩,?_⟩
  rintro C ad ah aj af ak ae ai S ab T ag X aa ac r ⟨k,R,B,hk,p,rfl⟩
  obtain rfl:C=(k:Int):=by simpa using (List.cons.inj B).1
  refine B4 (fun h2=>?_) (fun h2=>?_)
  ·have d:k<xs.length:=oo
   refine (se.mono g).load rfl oo oo ?_
   rw [aR]
   refine B4 (fun h3=>hK0 (fun o=>?_) _ g) (fun h3=>B4 (fun h4=>hK0 (fun o=>?_) _ g) (fun h4=>?_))
   ·have:=(o.exps _ (Is d)).1;exact absurd this (by show ¬ 0<=xs.getD k 0;omega)
   ·have:=(o.exps _ (Is d)).2;exact absurd this (by show ¬ xs.getD k 0<=1048576;omega)
   ·rw [B5 oo oo]
    refine ⟨⟨k+1,_,rfl,oo,fun j hj=>?_,rfl⟩,by simp only [iAt,aQ];omega⟩
    by_cases y:j=k
    ·subst y;omega
    ·exact p j oo
  ·have d:k=xs.length:=oo
   subst d
   have ok:TermOk vars (l,xs):=⟨⟨q,e,G⟩,z,Vy p⟩
   refine Tq X7.info fun b hb=>⟨_,rfl,?_⟩
   refine Dq (n:=4) A0h (vs:=[.bool w.s,.slice w.A w.n w.c,.bool w.s2,.slice w.A2 w.n2 w.c2]) rfl rfl (by simp [Jz]) (off:=6) (arr:=[I (0:Int),I (0:Int),I (0:Int),I (0:Int),I (0:Int),I (0:Int),.bool false,.slice none 0 0,.bool false,.slice none 0 0]) dc ?_
   have win:Win .i64 (r.put b (.cells (F2 [I (0:Int),I (0:Int),I (0:Int),I (0:Int),I (0:Int),I (0:Int),.bool false,.slice none 0 0,.bool false,.slice none 0 0] 6 [.bool w.s,.slice w.A w.n w.c,.bool w.s2,.slice w.A2 w.n2 w.c2]).toArray 126)) r b 126 (U3 (some (aC ⟨b,0,none⟩ 0)) 6 0 1) [] [0,0,0,0,0,0] [.bool w.s,.slice w.A w.n w.c,.bool w.s2,.slice w.A2 w.n2 w.c2]:=⟨hb,rfl,.inr rfl⟩
   have l2:r.le _:=win.le
   have m:xs.length<=6:=oo
   refine Cc Qh win rfl ((se.mono g).mono l2) rfl (by simpa using m) fun V O=>⟨_,rfl,?_⟩
   obtain ⟨L,M,N,E,H,F,Q⟩:=C1w (xs++[0,0,0,0,0,0].drop xs.length) (by simp;omega)
   have a:=O.eq
   rw [Q] at a
   refine ⟨L,M,N,E,H,F,_,_,_,_,_,_,_,_,O1 a rfl,O1 a rfl,O1 a rfl,O1 a rfl,O1 a rfl,O1 a rfl,O1 a rfl,O1 a rfl,O1 a rfl,O1 a rfl,?_⟩
   refine hK1 ok ⟨L,M,N,E,H,F,w⟩ V (A0 g O.le) ⟨?_,fun j hj=>?_⟩
   ·show RQ V w (rv l)
    rw [e,C2]
    exact i.mono O.le
   ·show [L,M,N,E,H,F].getD j 0=xs.getD j 0
    rw [<- Q,B3d m]
 ·obtain ⟨W,D,_⟩:=o.num
  exact n ⟨W,D⟩
variable {ts:List K9} {A:Option aO} {c:Nat}
def A0g(gl:Gtz h)(pa:PolyAt h A ts)(hl:ts.length<=1000)(hc:∀ i,i<ts.length->(tm ts i).1.length<=140737488351232)(hK1:WfOk vars ts->∀ A' c' h',h.le h'->RowV ENr h' A' ts.length (tm ts)->K (.tuple #[.slice A' ts.length c',.bool true]) h')(hK0:¬ WfOk vars ts->∀ h',h.le h'->K (.tuple #[.slice none 0 0,.bool false]) h'):aN prog 216 #[.agg #[I vars,.slice A ts.length c]] h K:=by
 refine (fnk func216 [(5,[4,24],[],[.slice none 0 0,I 0])] (own:=[1,6,7])) ?_
 refine B4 (fun h1=>hK0 (fun o=>by have:=o.lo;omega) h (B0 _)) (fun h1=>?_)
 refine B4 (fun h2=>hK0 (fun o=>by have:=o.hi;omega) h (B0 _)) (fun h2=>?_)
 refine D8 (α:=EV) X7 (zx:=Ko) rfl oo oo oo oo fun b hb=>⟨_,_,_,rfl,?_⟩
 rw [aR]
 refine ⟨fun l hp=>∃ (k:Nat) (g o:aI) (p:List EV) (A':Option aO) (c':Nat),k<=ts.length/\l=[.slice A' k c',I (k:Int)]/\h.le g/\Sep hp g o/\OwnSl o 126 A' c' p/\p.length=k/\Row ENr g p k (tm ts)/\∀ j,j<k->B9b vars ts j,fun l _=>ts.length-(iAt l 1).toNat,
  ⟨0,h,_,[],_,_,oo,rfl,B0 _,F1 hb,Tv,rfl,Row.nil,fun j hj=>oo⟩,?_⟩
 rintro X d tc z hp ⟨k,g,o,p,A',c',hk,eL,u,s,ow,m,rr,q⟩
 obtain ⟨⟨rfl,rfl,rfl⟩,rfl⟩:=sI2 eL
 have S:=A0 u s.le
 refine B4 (fun O=>?_) (fun O=>?_)
 ·have n:d<ts.length:=oo
  obtain ⟨a,B,cc,e1,e2,e3,e4⟩:=pa d n
  refine ⟨a,e1,oo,O,_,_,_,_,by rw [aR];exact B7 S e2,by rw [aR];exact B7 S e3,?_⟩
  refine s.call (Uk (gl.mono u) (hc d n) (e4.mono u) oo (fun F e g2 D en C E=>⟨_,_,_,_,_,_,_,_,_,_,_,_,_,_,true,rfl,?_⟩) (fun T g2 D C E=>⟨_,_,_,_,_,_,_,_,_,_,_,_,_,_,false,rfl,hK0 (fun o=>T (o.all d n).1) _ (A0 u (A0 D E.le))⟩))
  have r:=A0 u (A0 D E.le)
  have next:B9b vars ts d->wpH prog (cZ 121 1 #[(0,e.v)]) (fun v1 Q=>∃ (t57A:Option aO) (t57n:Nat) (t57c:Nat),v1= .slice t57A t57n t57c/\wpH prog (dG #[121,121] 121 #[.slice X d tc,.slice t57A t57n t57c]) (fun v2 H=>∃ (t58A:Option aO) (t58n:Nat) (t58c:Nat),v2= .slice t58A t58n t58c/\(∃ (k:Nat) (g o:aI) (p:List EV) (A':Option aO) (c':Nat),k<=ts.length/\[Value.slice t58A t58n t58c,I (B9 ((d:Int)+1))]=[.slice A' k c',I (k:Int)]/\h.le g/\Sep H g o/\OwnSl o 126 A' c' p/\p.length=k/\Row ENr g p k (tm ts)/\∀ j,j<k->B9b vars ts j)/\ts.length-(iAt [Value.slice t58A t58n t58c,I (B9 ((d:Int)+1))] 1).toNat<ts.length-(iAt [Value.slice X d tc,I (d:Int)] 1).toNat) Q) C:=by
   intro M
   refine Q5 (ty:=121) X7 E ow m.symm (y:=e) rfl dc oo oo ?_
   intro A3 c3 O g3 o3 N s3 L _
   rw [m,B5 oo oo]
   refine ⟨⟨d+1,g3,o3,_,A3,c3,oo,rfl,A0 u (A0 D N),s3,L,by rw [cT,m];rfl,?_,fun j hj=>?_⟩,by simp only [iAt,aW,aQ];omega⟩
   ·have rA:Row ENr g3 p p.length (tm ts):=by rw [m];exact rr.mono Qn (A0 D N)
    have rB:=rA.push (w:=e) (by rw [m];exact Qn _ _ _ _ N en)
    rw [cT,m] at rB
    exact rB
   ·by_cases G:j=d
    ·subst G;exact M
    ·exact q j oo
  refine B4 (fun h4=>?_) (fun h4=>next ⟨F,fun h0=>oo⟩)
  have ek:(B9 ((d:Int)-1)).toNat=d-1:=by rw [B5 oo oo];omega
  obtain ⟨a',B',ab,W,aa,V,R⟩:=pa (d-1) oo
  have x:=(q (d-1) oo).1
  refine ⟨a',W,by rw [B5 oo oo];omega,by rw [B5 oo oo];omega,_,_,_,by rw [ek];exact B7 r V,?_⟩
  refine Kc (by have e5:=x.len;have e6:((tm ts d).2.length:Int)=vars:=F.len;omega) (x.exb oo) (F.exb oo) (R.mono r) (e4.mono r) ⟨_,rfl,B0 _,?_⟩
  refine B4 (fun h5=>hK0 (fun o=>?_) _ r) (fun h5=>next ⟨F,fun _=>oo⟩)
  have:=(o.all d n).2 oo
  omega
 ·have n:d=ts.length:=oo
  subst n
  exact hK1 ⟨oo,oo,q⟩ _ _ _ S ⟨p,ow.slF s.ole,m,rr.mono Qn s.le⟩
def Pv(gl:Gtz h)(pa:PolyAt h A ts)(hl:ts.length<=1000)(hc:∀ i,i<ts.length->(tm ts i).1.length<=140737488351232)(hK1:Bc vars ts->∀ A' c' h',h.le h'->RowV ENr h' A' ts.length (tm ts)->K (.tuple #[.slice A' ts.length c',.bool true]) h')(hK0:¬ Bc vars ts->∀ h',h.le h'->K (.tuple #[.slice none 0 0,.bool false]) h'):aN prog 146 #[.agg #[I vars,.slice A ts.length c]] h K:=by
 refine (fnk func146 (own:=[1])) ?_
 refine B4 (fun q=>oo) (fun _=>?_)
 refine A0g gl pa hl hc (fun j A' c' h' b d=>⟨_,_,_,_,rfl,?_⟩) (fun g h' b=>⟨_,_,_,_,rfl,hK0 (fun o=>g o.1) h' b⟩)
 refine B4 (fun m=>?_) (fun m=>hK1 ⟨j,fun r=>oo⟩ _ _ _ b d)
 obtain ⟨a,B,p,k,s,l,n⟩:=pa 0 oo
 refine ⟨a,k,oo,oo,_,_,_,B7 b l,?_⟩
 refine Cn (n.mono b) ⟨_,rfl,Br.not (Br.of (fun e=>hK1 ⟨j,fun _=>e⟩ _ _ _ b d) (fun e=>hK0 (fun o=>?_) _ b))⟩
 have:=o.2 oo
 rw [this] at e;cases e
end
section
variable {h:aI} {K:VP} {A B:Option aO} {n c n' c' m:Nat} {s s':Bool} {x y:Int}
def B6y:RQ h ⟨false,none,0,0,false,none,0,0⟩ 0:=⟨ZI.zero,ZI.zero⟩
def Xh{z:Int}(i:ZI h s A n c z):RQ h ⟨s,A,n,c,false,none,0,0⟩ (z:Rat):=⟨by assumption,by simpa using ZI.zero⟩
def Q3(gl:Gtz h)(ix:ZI h s A n c x)(iy:ZI h s' B n' c' y)(hx:ZB m x)(hy:ZB m y)(hm:m<=6400000000)(hK:∀ w h',h.le h'->RQ h' w (cQ x y)->K w.v h'):aN prog 85 #[.agg #[.bool s,.slice A n c],.agg #[.bool s',.slice B n' c']] h K:=by
 refine (fnk func85 (cs:=[(2,[11],[],[.bool false]),(5,[],[(2,2),(3,2)],[.bool false,.slice none 0 0,.bool false,.slice none 0 0])]) (os:=[(4,[0,2,1,3,4,5]),(9,[0,1,3,4,2,5,6,7])]) (own:=[2,3,4,5])) ?_
 refine ⟨fun L R=>R=h/\((L=[.bool true]/\cQ x y=0)\/(L=[.bool false]/\y≠0)),?_,?_⟩
 ·refine F0 iy ⟨_,rfl,B4 (fun e=>⟨rfl,.inl ⟨rfl,by simp_all⟩⟩) (fun e=>F0 ix ⟨_,rfl,rfl,?_⟩)⟩
  by_cases Q:x=0
  ·simp_all
  grind
 rintro t R ⟨rfl,hL⟩
 refine Br.of (fun e=>?_) (fun e=>?_)
 ·rcases hL with ⟨_,h0⟩|⟨h1,_⟩
  ·rw [h0] at hK
   exact hK _ _ (B0 _) B6y
  grind
 refine ⟨fun l z=>∃ s A n c s' B n' c' d b,l=[.bool s,.slice A n c,.bool s',.slice B n' c']/\R.le z/\ZI z s A n c d/\ZI z s' B n' c' b/\0<b/\cQ d b=cQ x y/\ZB m d/\ZB m b,?_,?_⟩
 ·refine O9 iy ⟨_,rfl,B4 (fun e=>?_) (fun e=>?_)⟩
  ·have aa:y<0:=gz0
   refine U5 ix ?_
   intro W i1
   refine ⟨_,_,_,_,rfl,B0 _,?_⟩
   refine U5 iy ?_
   intro V p
   exact ⟨_,_,_,_,rfl,B0 _,_,_,_,_,_,_,_,_,-x,-y,rfl,B0 _,i1,p,o,Rat.neg_divInt_neg x y,hx.neg,hy.neg⟩
  ·have g:0<y:=gz0
   exact ⟨_,_,_,_,_,_,_,_,x,y,rfl,B0 _,ix,iy,g,rfl,hx,hy⟩
 rintro W A1 n1 c1 V A2 n2 c2 ac ⟨E,A1',T,H,N,A2',G,O,d,b,hl,j,i1,p,g,z,u,k⟩
 obtain ⟨rfl,⟨rfl,rfl,rfl⟩,rfl,rfl,rfl,rfl⟩:W=E/\(A1=A1'/\n1=T/\c1=H)/\V=N/\A2=A2'/\n2=G/\c2=O:=gz0
 rw [<- z] at hK
 refine N6 p ⟨_,rfl,B4 (fun X=>?_) (fun X=>?_)⟩
 ·rw [X,A6o] at hK
  exact hK _ _ j (Xh i1)
 refine Ai (gl.mono j) i1 p u k o ?_
 intro A3 n3 c3 h3 r S
 refine ⟨_,_,_,_,rfl,?_⟩
 generalize hqq:cQ d b=q at *
 have a:q.num=d/(Int.gcd d b:Int):=by
  rw [<- hqq,Rat.num_divInt,Int.sign_eq_one_of_pos g,Int.one_mul,Int.gcd_comm]
 have i:(q.den:Int)=b/(Int.gcd d b:Int):=by
  rw [<- hqq,Rat.den_divInt,iN o,Int.gcd_comm,Int.natCast_ediv,Int.natAbs_of_nonneg o]
 have ab:0<Int.gcd d b:=Int.gcd_pos_of_ne_zero_right d o
 have C:ZB m (Int.gcd d b:Int):=ZB.gcd o k
 refine N6 S ⟨_,rfl,Br.not (B4 (fun Q=>?_) (fun Q=>?_))⟩
 ·rw [Q] at a i
  simp at a i
  refine S5 (q:=q) (i1.mono r) (p.mono r) a i ?_
  intro w F
  exact ⟨_,_,_,_,_,_,_,_,rfl,hK _ _ (A0 j r) F⟩
 ·refine P0 (i1.mono r) S u C hm o ?_
  intro s4 A4 n4 c4 h4 D i4
  refine ⟨_,_,_,_,rfl,D,?_⟩
  refine P0 ((p.mono r).mono D) (S.mono D) k C hm o ?_
  intro s5 A5 n5 c5 h5 M i5
  refine ⟨_,_,_,_,rfl,M,?_⟩
  refine S5 (q:=q) (i4.mono M) i5 (by rw [a,Int.tdiv_eq_ediv_of_dvd (Int.gcd_dvd_left d b)]) gz0 ?_
  intro w F
  exact ⟨_,_,_,_,_,_,_,_,rfl,hK _ _ (A0 j (A0 r (A0 D M))) F⟩
end
def Pr(q:Rat)(n:Nat):(q^n).num=q.num^n/\(q^n).den=q.den^n:=⟨Rat.num_pow q n,Rat.den_pow q n⟩
def ZB.pow{m:Nat}{x:Int}(h:ZB m x)(hm:1<=m)(n:Nat):ZB (m*n+1) (x^n):=by
 unfold ZB
 rw [Int.natAbs_pow]
 exact Vk h hm n
def Sz.pow{m:Nat}{q:Rat}(h:Sz m q)(hm:1<=m)(n:Nat):Sz (m*n+1) (q^n):=by
 obtain ⟨a,b⟩:=Pr q n
 refine ⟨by rw [a];exact h.num.pow hm n,?_⟩
 rw [b,aY];exact h.den.pow hm n
section
variable {h:aI} {K:VP} {m:Nat} {a b:List UInt8} {w:QV} {q:Rat}
def A0c{n:Nat}(i:RQ h w q)(hq:Sz m q)(hm1:1<=m)(hm:m*n+1<=6400000000)(hmm:m<=6400000000)(hn:n<9223372036854775808)(hK:∀ w h',h.le h'->RQ h' w (q^n)->K w.v h'):aN prog 228 #[w.v,U (n:Int)] h K:=by
 obtain ⟨d,g⟩:=Pr q n
 refine (fnk func228 (os:=[(3,[0,1,2,4,5,6,3,7,8,9])]) (own:=[2,4])) ?_
 refine O3 i ⟨_,rfl,B4 (fun e=>?_) (fun e=>?_)⟩
 ·refine Bq i.num hq.num hm1 hm hmm hn ?_
  intro k A1 j c1 r a i1
  refine ⟨_,_,_,_,rfl,hK ⟨k,A1,j,c1,false,none,0,0⟩ _ a ⟨by rw [d];exact i1,?_⟩⟩
  rw [g,e,Nat.one_pow,iP rfl];exact ZI.zero
 ·have b:=i.den
  rw [iN e] at b
  refine Bq i.num hq.num hm1 hm hmm hn ?_
  intro k A1 j c1 r a i1
  refine ⟨_,_,_,_,rfl,a,Bq (b.mono a) hq.den hm1 hm hmm hn ?_⟩
  intro u A2 y c2 x c s
  refine ⟨_,_,_,_,rfl,c,S5 (q:=q^n) (i1.mono c) s d (by rw [g,aY]) ?_⟩
  intro p l
  exact ⟨_,_,_,_,_,_,_,_,rfl,B0 _,hK p _ (A0 a c) l⟩
def Lc{n:Int}(gl:Gl h)(ta:Tx m a)(hm1:1<=m)(hm:m*n.natAbs+1<=40000000)(hmm:m<=40000000)
 (hK1: -1000<=n->n<=1000->0<=n->K (.tuple #[.string (bs (C0 (rv a^n.natAbs))),.bool true]) h)
 (hK2: -1000<=n->n<0->rv a≠0->K (.tuple #[.string (bs (C0 ((rv a)⁻¹^n.natAbs))),.bool true]) h)
 (hK0:¬ (-1000<=n/\n<=1000)\/(n<0/\rv a=0)->K (.tuple #[.string (bs []),.bool false]) h):aN prog 159 #[.string (bs a),I n] h K:=by
 refine FCall.pure ((fnk func159 (own:=[6])) ?_)
 refine B4 (fun e=>⟨B0 _,hK0 (.inl o)⟩) (fun s=>B4 (fun e=>⟨B0 _,hK0 (.inl o)⟩) (fun y=>?_))
 refine L5 gl.tz ta.len ?_
 intro r w d i1
 refine ⟨_,_,_,_,_,_,_,_,rfl,B4 (fun c=>?_) (fun c=>?_)⟩
 ·refine V9 i1 ⟨_,rfl,B4 (fun e=>⟨d,hK0 (.inr ⟨c,e⟩)⟩) (fun e=>?_)⟩
  refine Lp i1 ?_
  intro x u k p
  have i:C6 (B9 (0-n))=(n.natAbs:Int):=by rw [B5 o o,C3 o o];omega
  rw [i]
  refine ⟨_,_,_,_,_,_,_,_,rfl,A0c p (ta.sz.inv hm1) hm1 o o o ?_⟩
  intro l q j g
  have b:=A0 d (A0 k j)
  exact ⟨_,_,_,_,_,_,_,_,rfl,I9 (gl.p10.mono b) g ((ta.sz.inv hm1).pow hm1 _) o ⟨_,rfl,b,hK2 o c e⟩⟩
 ·have i:C6 n=(n.natAbs:Int):=by rw [C3 o o];omega
  rw [i]
  refine A0c i1 ta.sz hm1 o o o ?_
  intro l q j g
  have b:=A0 d j
  exact ⟨_,_,_,_,_,_,_,_,rfl,I9 (gl.p10.mono b) g (ta.sz.pow hm1 _) o ⟨_,rfl,b,hK1 o o o⟩⟩
end
def tmV(es:List Int)(x:Nat->Rat)(c:Rat):Nat->Rat
 | 0=>c
 | k+1=>tmV es x c k*x k^(es.getD k 0).toNat
def evV(ts:List K9)(x:Nat->Rat)(n:Nat):Nat->Rat
 | 0=>0
 | i+1=>evV ts x n i+tmV (tm ts i).2 x (rv (tm ts i).1) n
def pwZ(q:Rat)(G e:Nat):Int:=q.num^e*(q.den:Int)^(G-e)
def A8x(q:Rat)(f:Nat):∀ e:Nat,((q.num^e*(q.den:Int)^f:Int):Rat)=q^e*(((q.den:Int)^(e+f):Int):Rat)
 | 0=>by rw [Int.pow_zero,Int.one_mul,Rat.pow_zero,Rat.one_mul,bI]
 | e+1=>by
  have ih:=A8x q f e
  have a:(q.num:Rat)=q*((q.den:Int):Rat):=(A9g q).symm
  rw [cW,Int.mul_right_comm,aF,ih,a,Rat.pow_succ,show e+1+f=(e+f)+1 from o,cW,aF]
  grind
def C1h(q:Rat){G e:Nat}(he:e<=G):(pwZ q G e:Rat)=q^e*(((q.den:Int)^G:Int):Rat):=by
 have:=A8x q (G-e) e
 rw [show e+(G-e)=G from o] at this
 exact this
def B5j{q:Rat}{p G e D:Nat}(hq:Sz p q)(hp:1<=p)(he:e<=G)(hG:G<=D):ZB (p*D+2) (pwZ q G e):=by
 have a:=(hq.num.pow hp e).mul (hq.den.pow hp (G-e))
 refine a.mono ?_
 have b:p*e+p*(G-e)=p*G:=by rw [<- Nat.mul_add,show e+(G-e)=G from o]
 have c:p*G<=p*D:=bJ _ hG
 omega
def suZ(f:Nat->Int):Nat->Int
 | 0=>0
 | k+1=>suZ f k+f k
def suA(f:Nat->Int):Nat->Int
 | 0=>0
 | k+1=>suA f k+((f k).natAbs:Int)
def C02{f:Nat->Int}{T n:Nat}(hf:∀ i,i<n->ZB T (f i)):∀ k,k<=n->suA f k<=k*2^(2*T):=by
 intro k
 induction k with
 | zero=>intro _;exact Int.le_of_eq (by simp [suA])
 | succ k ih=>
  intro a
  have d:=ih o
  have b:((f k).natAbs:Int)<=2^(2*T):=by
   have g:(f k).natAbs<2^T:=hf k o
   have c:2^T<=2^(2*T):=cO dc o
   have e:(2:Int)^(2*T)=((2^(2*T):Nat):Int):=by simp
   rw [e];omega
  show suA f k+((f k).natAbs:Int)<=((k+1:Nat):Int)*2^(2*T)
  rw [cK,Int.add_mul]
  have:((1:Nat):Int)*2^(2*T)=2^(2*T):=by simp
  omega
def C00{f:Nat->Int}{T n:Nat}(hn:n<=1000)(hf:∀ i,i<n->ZB T (f i)):ZB (T+10) (suZ f n):=by
 have:∀ k,k<=n->(suZ f k).natAbs<=k*2^T:=by
  intro k
  induction k with
  | zero=>intro _;exact dB _
  | succ k ih=>
   intro c
   have b:=ih o
   have a:(f k).natAbs<2^T:=hf k o
   show (suZ f k+f k).natAbs<=(k+1)*2^T
   rw [dD,Nat.one_mul]
   omega
 have b:=this n (aJ _)
 have d:n*2^T<=1000*2^T:=aV _ hn
 have a:2^(T+10)=2^T*1024:=by rw [Nat.pow_add]
 have e:0<2^T:=Nat.pow_pos dc
 unfold ZB
 rw [a];omega
def C01{ts:List K9}{x:Nat->Rat}{v n:Nat}{f:Nat->Int}{d:Int}(h:∀ i,i<n->(f i:Rat)=tmV (tm ts i).2 x (rv (tm ts i).1) v*(d:Rat)):∀ k,k<=n->(suZ f k:Rat)=evV ts x v k*(d:Rat):=by
 intro k
 induction k with
 | zero=>intro _;show ((0:Int):Rat)=0*_;rw [bG];rfl
 | succ k ih=>
  intro a
  show ((suZ f k+f k:Int):Rat)=(evV ts x v k+tmV (tm ts k).2 x (rv (tm ts k).1) v)*(d:Rat)
  rw [aX,ih o,h k o]
  grind
section
variable {h g o:aI} {K:VP} {A B:Option aO} {ts:List K9} {n c v cc:Nat} {x:Nat->Rat}
def SumS.put{b:Nat}{e:bC}{N:Nat}{M z:Int}(S:SumS h g b e N M z){b2:Nat}(hb2:h b2=none)(X:Obj):SumS (h.put b2 X) (g.put b2 X) b e N M z:=by
 obtain ⟨PA,NA,s,w,q,A,ps,k,d,p,r,i,l,rfl,D,x,m,j,y,C,n,B⟩:=S
 have a:b2≠b:=by
  rintro rfl
  rw [B8] at hb2;cases hb2
 rw [B6 _ _ a] at hb2
 have c:d b2=none:=by
  cases e1:d b2 with
  | none=>rfl
  | some u=>rw [i.le _ _ e1] at hb2;cases hb2
 exact ⟨PA,NA,s,w,q,A,ps,k,d.put b2 X,p.put b2 X,Priv.put r c X,Priv.put i hb2 X,by rw [B6 _ _ a.symm];exact l,Heap.put_comm _ _ _ a.symm,D,x,m,j,y,C,n,B⟩
def A8g{b:Nat}{e:bC}{N:Nat}{M z y:Int}{N1:Nat}{s:Bool}{XA:Option aO}{xn xc:Nat}(S:SumS h g b e N M z)(i:ZI g s XA xn xc y)(hab:xn+2<=N)(hN2:N<=400000000)(hM:M+y.natAbs<b64^N1)(hN1:N1<=N)
 (hK:∀ h' g',g.le g'->SumS h' g' b e N (M+y.natAbs) (z+y)->K (.tuple #[]) h'):aN prog 219 #[.pointer (some ⟨b,0,none⟩),.agg #[.bool s,.slice XA xn xc]] h K:=by
 refine (fnk func219 (own:=[3]) (wr:=[170])) ?_
 refine Y5 Q6 rfl ?_
 intro c a
 have l:g c=none:=by
  cases e1:g c with
  | none=>rfl
  | some u=>rw [S.le _ _ e1] at a;cases a
 have j:=Heap.le_put (.cells #[U 1] 194) l
 refine ⟨_,_,_,rfl,?_⟩
 have one:ZI (g.put c (.cells #[U 1] 194)) false (some ⟨c,0,none⟩) 1 1 1:=by
  refine ⟨aJ _,?_,rfl⟩
  refine ⟨[1],rfl,SlI.new _ _ _ _ _,?_,?_,?_⟩
  ·intro x d;simp at d;subst d;decide
  ·unfold Norm;simp
  ·simp [val]
 refine O4 (N1:=N1) (S.put a _) (i.mono j) one oo hN2 (by rw [Int.mul_one];exact hM) hN1 ?_
 intro h' g' k S'
 rw [Int.mul_one] at S'
 exact ⟨rfl,hK h' g' (A0 j k) S'⟩
def RowV.eat{f:Nat->K9}(r:RowV ENr h A n f){i:Nat}(hi:i<n):∃ a e,A=some a/\ENr h e (f i)/\∀ j u,(enc e)[j]? = some u->h.cell? (aC (aC a (i*10)) j)=some u:=r.at dc hi
def A3h(r:RowV ENr h A n (tm ts))(hn:n<=1000)(hK:∀ b h',Own RQr h h' b n (fun i=>rv (tm ts i).1)->K (.slice (some ⟨b,0,none⟩) n n) h'):aN prog 283 #[.slice A n c] h K:=by
 refine (fnk func283 [(3,[11],[],[I 0])] (own:=[5])) ?_
 refine D8 B57 (zx:=Qg) rfl oo oo oo oo ?_
 intro b E
 rw [aR]
 refine ⟨_,_,_,rfl,fun L m=>∃ k:Nat,k<=n/\L=[I k]/\OwnK RQr h m b n k (fun i=>rv (tm ts i).1),fun L _=>n-(iAt L 0).toNat,⟨0,oo,rfl,OwnK.zero E⟩,?_⟩
 rintro t m ⟨k,M,H,g,o,xs,p,s,x,z,q⟩
 obtain rfl:=sI1 H
 refine B4 (fun C=>?_) (fun B=>?_)
 ·have l:k<n:=oo
  obtain ⟨a,e,rfl,⟨D,_⟩,G⟩:=(r.mono Qn p).eat l
  have d:=fun (j:Nat) (u:cM) (h1:(enc e)[j]? = some u)=>B7 s.le (G j u h1)
  refine ⟨a,rfl,oo,oo,_,_,_,_,_,_,_,_,_,_,_,_,_,_,d 0 _ rfl,d 1 _ rfl,d 2 _ rfl,d 3 _ rfl,d 4 _ rfl,d 5 _ rfl,d 6 _ rfl,d 7 _ rfl,d 8 _ rfl,d 9 _ rfl,_,rfl,oo,oo,?_⟩
  refine OwnK.store Bj Li (y:=e.w) p (B0 _) s x z q l rfl D ?_
  intro N F
  rw [wiS k oo]
  exact ⟨⟨k+1,oo,rfl,F⟩,by simp only [Ca];omega⟩
 ·have:k=n:=oo
  subst this
  exact hK b m ⟨g,o,xs,p,s,x,z,q⟩
def Xs{m:Nat}(gl:Gl h)(r:RowV ENr h A n (tm ts))(hn:n<=1000)(hs:∀ i,i<n->Sz m (rv (tm ts i).1))(hm:1+n*m+m<=6400000000)
 (hK:∀ s A' n' c' h',h.le h'->ZI h' s A' n' c' (Nl (fun i=>rv (tm ts i).1) n:Int)->K (.agg #[.bool s,.slice A' n' c']) h'):aN prog 217 #[.slice A n c] h K:=by
 refine (fnk func217 (own:=[2])) ?_
 refine A3h r hn ?_
 intro b g a
 refine ⟨_,_,_,rfl,?_⟩
 refine Df (gl.mono a.le) (a.vis Bj) oo hs hm ?_
 intro s A' n' c' h' e d
 exact ⟨_,_,_,_,rfl,hK _ _ _ _ _ (A0 a.le e) d⟩
end
def Iv{K:aO->aI->Prop}{h:aI}{e:EV}(x:∀ b,h b=none->K ⟨b,0,none⟩ (h.put b (.cells (enc e).toArray 126))):
 wpH prog (dE 126 true (.tuple #[])) (fun v1 hp=>∃ (p:aO),v1= .pointer (some p)/\wpH prog (aT 126 (.pointer (some p)) e.v) (fun _ hp2=>K p hp2) hp) h:=by
 refine Tq X7.info fun b c=>⟨_,rfl,?_⟩
 have y:=x b c
 have key:=Dq (P:=prog) (t:=126) (n:=10) Gu (v:=e.v) (vs:=enc e) rfl rfl (instEncEV.default.one e) (g:=h) (b:=b) (off:=0) (e:=126) (arr:=[I (0:Int),I (0:Int),I (0:Int),I (0:Int),I (0:Int),I (0:Int),.bool false,.slice none 0 0,.bool false,.slice none 0 0]) dc (K:=fun _ hp2=>K ⟨b,0,none⟩ hp2) (by
  have:F2 [I (0:Int),I (0:Int),I (0:Int),I (0:Int),I (0:Int),I (0:Int),.bool false,.slice none 0 0,.bool false,.slice none 0 0] 0 (enc e)=enc e:=by
   have a:(enc e).length=10:=rfl
   simp [F2,a]
  rw [this];exact y)
 rw [F3] at key
 exact key
def Sep.grow{h g o h' g':aI}(s:Sep h g o)(s':Sep h' g' o)(l:g.le g'):h.le h':=fun k x e=>by
 cases ho:o k with
 | some y=>
  have:=s.own k y ho
  rw [e] at this;cases this
  exact s'.own k _ ho
 | none=>
  rw [s.rest k ho] at e
  rw [s'.rest k ho];exact l k x e
def C3e{h g o:aI}{b i:Nat}{ws:List IV}(s:Sep h g o)(rb:dH o b ws)(hi:i<ws.length):h.cell? (aC (aC ⟨b,0,none⟩ (i*2)) 0)=some (.bool ws[i].s)/\h.cell? (aC (aC ⟨b,0,none⟩ (i*2)) 1)=some (.slice ws[i].A ws[i].n ws[i].c):=by
 have d:=s.cell (RowB.cell rb.rowB hi (j:=0) (v:=.bool ws[i].s) rfl)
 have a:=s.cell (RowB.cell rb.rowB hi (j:=1) (v:=.slice ws[i].A ws[i].n ws[i].c) rfl)
 rw [T8,T8,F3,F3,bI,bI]
 exact ⟨d,a⟩
def B1n{α β:Type}[E:Enc α]{R:aI->α->β->Prop}(m:Mon R){h g o:aI}{ys:List α}{bb n:Nat}{f:Nat->β}(s:Sep h g o)(rb:RowB o bb ys)(hy:ys.length=n)(rr:Row R g ys n f):∃ g2,g.le g2/\Sep h g2 (o.without bb)/\RowV R g2 (some ⟨bb,0,none⟩) n f:=by
 have a:(o.without bb).le o:=fun k x e=>by
  by_cases b:k=bb
  ·subst b
   have:Heap.without o k k=none:=N3 _ _
   rw [this] at e;cases e
  ·unfold Heap.without at e;rw [iN b] at e;exact e
 obtain ⟨g2,d,c⟩:=s.give a
 obtain ⟨e,ex,j⟩:=rb
 have i:g2 bb=some (.cells (ys.flatMap enc++ex).toArray e):=by
  rw [<- c.rest bb (N3 _ _)]
  exact s.own _ _ j
 exact ⟨g2,d,c,ys,RowB.slF (o:=g2) ⟨e,ex,i⟩ (B0 _),hy,rr.mono m d⟩
def Rx{h:aI}{K:VP}{w:QV}{q:Rat}(_:RQ h w q)(hK:K (.agg #[.bool w.s,.slice w.A w.n w.c]) h):aN prog 169 #[w.v] h K:=by
 refine (fnk func169 (own:=[1,2])) ?_
 exact hK
def B64(e:EV):∀ {k:Nat},k<6->(enc e)[k]? = some (I (e.xs.getD k 0))
 | 0,_=>rfl
 | 1,_=>rfl
 | 2,_=>rfl
 | 3,_=>rfl
 | 4,_=>rfl
 | 5,_=>rfl
 | k+6,h=>by omega
def Ww:prog.cellsOf 76=2/\(prog.info? 76).isSome=true:=A2t
abbrev exA(ts:List K9)(k i:Nat):Int:=(tm ts i).2.getD k 0
section
variable {h hp g o hp5:aI} {A:Option aO} {ts:List K9} {n k G D T p bs bp dn dc:Nat} {w:QV} {q:Rat} {d:Int} {sc:Nat->Int} {ws:List IV} {ds:Bool} {dA:Option aO} {Invv1:LP} {muv1:LN}
def C4z(er:RowV ENr g A n (tm ts))(s:Sep hp g o)(rb:dH o bs ws)(hw:ws.length=n)(rr:Row ZIr g ws n sc)(rp:RowV ZIr g (some ⟨bp,0,none⟩) (G+1) (pwZ q G))(iq:RQ g w q)(id:ZI g ds dA dn dc d)(hk6:k<6)(hn:n<=1000)(hG:G<=1000)(hex:∀ i,i<n->0<=exA ts k i/\exA ts k i<=(G:Int))(zb:∀ i,i<n->ZB T (sc i))(zp:∀ e,e<=G->ZB T (pwZ q G e))(zd:ZB T d)(hpm:p<=6400000000)(hq:Sz p q)(hp1:1<=p)(hT:T<=100000000)(hpT:p*G+1<=T)
 (hcont:∀ hp' g' o' ws' ds' dA' dn' dc',g.le g'->Sep hp' g' o'->dH o' bs ws'->ws'.length=n->Row ZIr g' ws' n (fun i=>sc i*pwZ q G (exA ts k i).toNat)->ZI g' ds' dA' dn' dc' (d*(q.den:Int)^G)->Invv1 [I (B9 ((k:Int)+1)),.bool ds',.slice dA' dn' dc'] hp'/\muv1 [I (B9 ((k:Int)+1)),.bool ds',.slice dA' dn' dc'] hp'<muv1 [I (k:Int),.bool ds,.slice dA dn dc] hp5):
 Ph prog A n (some ⟨bs,0,none⟩) n Invv1 muv1 (k:Int) ds dA dn dc w.s w.A w.n w.c w.s2 w.A2 w.n2 w.c2 (G:Int) (some ⟨bp,0,none⟩) (G+1) hp5 hp:=by
 unfold Ph
 refine ⟨fun L hp'=>∃ (i:Nat) (g' o':aI) (ws':List IV),i<=n/\L=[I (i:Int)]/\g.le g'/\Sep hp' g' o'/\dH o' bs ws'/\ws'.length=n/\Row ZIr g' ws' n (fun j=>if j<i then sc j*pwZ q G (exA ts k j).toNat else sc j),fun L _=>n-(iAt L 0).toNat,⟨0,g,o,ws,oo,rfl,B0 _,s,rb,hw,rr.congr fun j _=>by rw [iN oo]⟩,?_⟩
 clear rb s hw rr
 rintro z S ⟨i,R,o2,b,hi,eL,H,s,rb,hw,rr⟩
 obtain rfl:=sI1 eL
 refine B4 (fun ag=>?_) (fun af=>?_)
 ·have x:i<n:=oo
  obtain ⟨a,e,ea,⟨_,M⟩,hc⟩:=(er.mono Qn H).eat x
  have l:=fun (j:Nat) (u:cM) (h1:(enc e)[j]? = some u)=>B7 s.le (hc j u h1)
  refine ⟨a,ea,oo,oo,_,_,_,_,_,_,_,_,_,_,_,_,_,_,l 0 _ rfl,l 1 _ rfl,l 2 _ rfl,l 3 _ rfl,l 4 _ rfl,l 5 _ rfl,l 6 _ rfl,l 7 _ rfl,l 8 _ rfl,l 9 _ rfl,?_⟩
  refine Iv (e:=e) ?_
  intro B E
  have ac:R B=none:=by
   cases e1:R B with
   | none=>rfl
   | some u=>rw [s.le _ _ e1] at E;cases E
  have m:=s.vis E (.cells (enc e).toArray 126)
  have r:R.le (R.put B (.cells (enc e).toArray 126)):=Heap.le_put _ ac
  have N:(S.put B (.cells (enc e).toArray 126)).cell? (aC (aC ⟨B,0,none⟩ 0) (k*1))=some (I (e.xs.getD k 0)):=by
   rw [Nat.mul_one,F3]
   exact O1 rfl (B64 e hk6)
  obtain ⟨X,hg3'⟩:∃ X,X=R.put B (.cells (enc e).toArray 126):=⟨_,rfl⟩
  obtain ⟨hp3,hhp3⟩:∃ hp3,hp3=S.put B (.cells (enc e).toArray 126):=⟨_,rfl⟩
  rw [<- hg3',<- hhp3] at m
  rw [<- hg3'] at r
  rw [<- hhp3] at N ⊢
  have D:i<b.length:=oo
  obtain ⟨c0,c1⟩:=C3e m rb D
  refine ⟨_,rfl,oo,oo,_,_,_,_,c0,c1,⟨oo,oo⟩,_,N,?_⟩
  have ab:e.xs.getD k 0=exA ts k i:=M k hk6
  rw [ab]
  obtain ⟨x0,xG⟩:=hex i x
  have aa:(exA ts k i).toNat<G+1:=oo
  obtain ⟨ap,wp,ad,ip,p0,p1⟩:=(rp.mono P2 (A0 H r)).zat aa
  refine ⟨ap,ad,x0,oo,_,_,_,_,B7 m.le p0,B7 m.le p1,?_⟩
  have ae:=(rr.mono P2 r).get x D
  have Q:ZI X b[i].s b[i].A b[i].n b[i].c (sc i):=by
   have:(fun j=>if j<i then sc j*pwZ q G (exA ts k j).toNat else sc j) i=sc i:=iN oo
   rw [<- this];exact ae
  refine m.call (F7 Q ip (zb i x) (zp _ oo) oo ?_)
  intro s1 A1 n1 O g4 C i4 aj F
  refine ⟨_,_,_,_,rfl,m.grow F C,_,rfl,oo,oo,?_⟩
  refine E7 Ww (y:=(⟨s1,A1,n1,O⟩:IV)) rfl F rb (i:=i) oo ?_
  intro h5 o5 x5 e5 W r5
  rw [wiS i oo]
  refine ⟨⟨i+1,g4,o5,_,oo,rfl,A0 H (A0 r C),W,r5,by rw [List.length_set];exact hw,?_⟩,by simp only [Ca];omega⟩
  have r6:=(rr.mono P2 (A0 r C)).upd D (w:=(⟨s1,A1,n1,O⟩:IV)) (y:=sc i*pwZ q G (exA ts k i).toNat) i4
  refine r6.congr fun j _=>?_
  show (if j=i then _ else (if j<i then _ else _))=_
  by_cases e6:j=i
  ·subst e6;rw [iP rfl,iP oo]
  ·rw [iN e6]
   by_cases e7:j<i
   ·rw [iP e7,iP oo]
   ·rw [iN e7,iN oo]
 ·obtain rfl:i=n:=oo
  have pG:p*G+1<=100000000:=oo
  refine s.call (U6 (iq.mono H) ?_)
  intro s1 A1 n1 c1 X r i3 h3 m
  refine ⟨_,_,_,_,rfl,s.grow m r,?_⟩
  rw [C3 oo oo]
  refine m.call (Bq i3 hq.den hp1 oo hpm oo ?_)
  intro ai A4 n4 c4 g4 C i4 h4 F
  refine ⟨_,_,_,_,rfl,m.grow F C,?_⟩
  refine F.call (F7 (id.mono (A0 H (A0 r C))) i4 zd ((hq.den.pow hp1 G).mono hpT) oo ?_)
  intro ah A5 n5 c5 g5 l5 i5 h5 W
  have V:=A0 r (A0 C l5)
  refine ⟨_,_,_,_,rfl,F.grow W l5,?_⟩
  exact hcont h5 g5 o2 b _ _ _ _ (A0 H V) W rb hw ((rr.mono P2 V).congr fun j hj=>by rw [iP hj]) i5
abbrev C5s(ts:List K9)(n k bs:Nat)(q:Rat)(d:Int)(sc:Nat->Int)(g:aI)(D:Nat)(Q:Bool->Option aO->Nat->Nat->aI->Prop):Prop:=∀ (G:Nat),G<=D->(∀ i,i<n->exA ts k i<=(G:Int))->∀ hp' g' o' ws' ds' dA' dn' dc',g.le g'->Sep hp' g' o'->dH o' bs ws'->ws'.length=n->Row ZIr g' ws' n (fun i=>sc i*pwZ q G (exA ts k i).toNat)->ZI g' ds' dA' dn' dc' (d*(q.den:Int)^G)->Q ds' dA' dn' dc' hp'
abbrev C5c(Invv1:LP)(muv1:LN)(k:Nat)(ds:Bool)(dA:Option aO)(dn dc:Nat)(hp5:aI)(ds':Bool)(dA':Option aO)(dn' dc':Nat)(hp':aI):Prop:=Invv1 [I (B9 ((k:Int)+1)),.bool ds',.slice dA' dn' dc'] hp'/\muv1 [I (B9 ((k:Int)+1)),.bool ds',.slice dA' dn' dc'] hp'<muv1 [I (k:Int),.bool ds,.slice dA dn dc] hp5
def C50(er:RowV ENr g A n (tm ts))(s:Sep hp g o)(rb:dH o bs ws)(hne:bs≠bp)(hw:ws.length=n)(rr:Row ZIr g ws n sc)(rx:dH o bp (bF (G+1) (⟨false,none,0,0⟩:IV)))(iq:RQ g w q)(id:ZI g ds dA dn dc d)(hk6:k<6)(hn:n<=1000)(hG:G<=D)(hD:D<=1000)(hex:∀ i,i<n->0<=exA ts k i/\exA ts k i<=(G:Int))(zb:∀ i,i<n->ZB T (sc i))(zd:ZB T d)(hq:Sz p q)(hp1:1<=p)(hT:T<=100000000)(hpT:p*D+2<=T)(hpm:p<=6400000000)
 (hcont:C5s ts n k bs q d sc g D (C5c Invv1 muv1 k ds dA dn dc hp5)):
 Pi prog A n (some ⟨bs,0,none⟩) n Invv1 muv1 (k:Int) ds dA dn dc w.s w.A w.n w.c w.s2 w.A2 w.n2 w.c2 (G:Int) (some ⟨bp,0,none⟩) (G+1) hp hp5:=by
 unfold Pi
 have ah:p*G<=p*D:=bJ _ hG
 refine ⟨fun L b=>∃ (e:Nat) (r B:aI) (xs:List IV),e<=G+1/\L=[I (e:Int)]/\g.le r/\Sep b r B/\dH B bs ws/\dH B bp xs/\xs.length=G+1/\Row ZIr r xs e (pwZ q G),fun L _=>G+1-(iAt L 0).toNat,⟨0,g,o,_,oo,rfl,B0 _,s,rb,rx,List.length_replicate,Row.nil⟩,?_⟩
 clear rb s rx
 rintro z aj ⟨e,g2,o2,xs,he,eL,l,s,rb,rx,j,rp⟩
 obtain rfl:=sI1 eL
 refine B4 (fun ae=>?_) (fun ad=>?_)
 ·have W:e<=G:=oo
  have ag:p*e<=p*G:=bJ _ W
  have ac:p*(G-e)<=p*G:=bJ _ oo
  refine Rx ((iq.mono l).mono s.le) ⟨_,_,_,_,rfl,B0 _,?_⟩
  rw [C3 oo oo]
  refine s.call (Bq (iq.mono l).num hq.num hp1 oo hpm oo ?_)
  intro af A3 n3 c3 g3 u i3 h3 C
  refine ⟨_,_,_,_,rfl,s.grow C u,?_⟩
  refine C.call (U6 (iq.mono (A0 l u)) ?_)
  intro ak A4 n4 c4 g4 O i4 h4 F
  refine ⟨_,_,_,_,rfl,C.grow F O,?_⟩
  rw [show B9 ((G:Int)-(e:Int))=((G-e:Nat):Int) by rw [B5]<;>omega,C3 oo oo]
  refine F.call (Bq i4 hq.den hp1 oo hpm oo ?_)
  intro ai A5 n5 c5 g5 H i5 h5 S
  refine ⟨_,_,_,_,rfl,F.grow S H,?_⟩
  refine S.call (F7 (m:=T) (i3.mono (A0 O H)) i5 ((hq.num.pow hp1 e).mono oo) ((hq.den.pow hp1 (G-e)).mono oo) oo ?_)
  intro ab A6 n6 c6 g6 l6 i6 h6 s6
  have E:=A0 u (A0 O (A0 H l6))
  refine ⟨_,_,_,_,rfl,S.grow s6 l6,_,rfl,oo,oo,?_⟩
  refine E7 Ww (y:=(⟨ab,A6,n6,c6⟩:IV)) rfl s6 rx (i:=e) oo ?_
  intro h7 o7 x7 e7 s7 r7
  rw [wiS e oo]
  refine ⟨⟨e+1,g6,o7,_,oo,rfl,A0 l E,s7,?_,r7,by rw [List.length_set];exact j,?_⟩,by simp only [Ca];omega⟩
  ·rw [e7];exact rb.other hne _
  ·exact (rp.mono P2 E).set oo i6
 ·obtain rfl:e=G+1:=oo
  obtain ⟨g3,u,C,X⟩:=B1n P2 s rx.rowB j rp
  have V:dH (o2.without bp) bs ws:=rb.keep fun x hx=>by
   unfold Heap.without;rw [iN hne];exact hx
  have a:=A0 l u
  exact C4z (T:=T) (er.mono Qn a) C V hw (rr.mono P2 a) X (iq.mono a) (id.mono a) hk6 hn oo hex zb (fun e he=>(B5j hq hp1 he hG).mono hpT) zd hpm hq hp1 hT oo (fun b r B Q N M R aa l'=>hcont G hG (fun i hi=>(hex i hi).2) b r B Q N M R aa (A0 a l'))
def C51(er:RowV ENr g A n (tm ts))(s:Sep hp g o)(rb:dH o bs ws)(hw:ws.length=n)(rr:Row ZIr g ws n sc)(iq:RQ g w q)(id:ZI g ds dA dn dc d)(hk6:k<6)(hn:n<=1000)(hD:D<=1000)(hex:∀ i,i<n->0<=exA ts k i/\exA ts k i<=(D:Int))(zb:∀ i,i<n->ZB T (sc i))(zd:ZB T d)(hq:Sz p q)(hp1:1<=p)(hT:T<=100000000)(hpT:p*D+2<=T)(hpm:p<=6400000000)
 (hcont:C5s ts n k bs q d sc g D (C5c Invv1 muv1 k ds dA dn dc hp)):
 Pj prog A n (some ⟨bs,0,none⟩) n Invv1 muv1 (k:Int) ds dA dn dc w.s w.A w.n w.c w.s2 w.A2 w.n2 w.c2 hp:=by
 unfold Pj
 refine ⟨fun L r=>∃ (i G:Nat) (H:aI),i<=n/\L=[I (G:Int),I (i:Int)]/\g.le H/\Sep r H o/\G<=D/\∀ j,j<i->exA ts k j<=(G:Int),fun L _=>n-(iAt L 1).toNat,⟨0,0,g,oo,rfl,B0 _,s,oo,fun j M=>oo⟩,?_⟩
 clear s
 rintro zG z aa ⟨i,G,g2,hi,eL,m,s,hG,l⟩
 obtain ⟨rfl,rfl⟩:zG=(G:Int)/\z=(i:Int):=by simpa using eL
 refine B4 (fun af=>?_) (fun ae=>?_)
 ·have E:i<n:=oo
  obtain ⟨a,e,ea,⟨_,B⟩,hc⟩:=(er.mono Qn m).eat E
  have b:=fun (j:Nat) (u:cM) (h1:(enc e)[j]? = some u)=>B7 s.le (hc j u h1)
  refine ⟨a,ea,oo,oo,_,_,_,_,_,_,_,_,_,_,_,_,_,_,b 0 _ rfl,b 1 _ rfl,b 2 _ rfl,b 3 _ rfl,b 4 _ rfl,b 5 _ rfl,b 6 _ rfl,b 7 _ rfl,b 8 _ rfl,b 9 _ rfl,?_⟩
  refine Iv (e:=e) ?_
  intro F y
  have R:g2 F=none:=by
   cases e1:g2 F with
   | none=>rfl
   | some u=>rw [s.le _ _ e1] at y;cases y
  have O:(aa.put F (.cells (enc e).toArray 126)).cell? (aC (aC ⟨F,0,none⟩ 0) (k*1))=some (I (e.xs.getD k 0)):=by
   rw [Nat.mul_one,F3]
   exact O1 rfl (B64 e hk6)
  refine ⟨⟨oo,oo⟩,_,O,?_⟩
  have Q:e.xs.getD k 0=exA ts k i:=B k hk6
  rw [Q,wiS i oo]
  obtain ⟨x0,xD⟩:=hex i E
  have hm:(if exA ts k i>(G:Int) then exA ts k i else (G:Int))=((if exA ts k i>(G:Int) then (exA ts k i).toNat else G:Nat):Int):=by split<;>omega
  rw [hm]
  refine ⟨⟨i+1,_,_,oo,rfl,A0 m (Heap.le_put _ R),s.vis y _,by split<;>omega,fun j M=>?_⟩,by simp only [iAt,aW,aQ];omega⟩
  by_cases e6:j=i
  ·subst e6;split<;>omega
  ·have:=l j oo
   split<;>omega
 ·obtain rfl:i=n:=oo
  rw [wiS G oo]
  refine D8 tZs (zx:=(⟨false,none,0,0⟩:IV)) rfl oo oo oo oo ?_
  intro b2 x
  rw [aR]
  have C:bs≠b2:=by
   rintro rfl
   obtain ⟨e1,W⟩:=rb
   rw [s.own _ _ W] at x;cases x
  refine ⟨_,_,_,rfl,?_⟩
  have s2:=s.new x (.cells ((bF (G+1) (⟨false,none,0,0⟩:IV)).flatMap enc).toArray 76)
  exact C50 (er.mono Qn m) s2 (rb.other C _) C hw (rr.mono P2 m) RowX.mk (iq.mono m) (id.mono m) hk6 hn hG hD (fun j M=>⟨(hex j M).1,l j M⟩) zb zd hq hp1 hT hpT hpm (fun G' S N r H o' ab X V ac ad l'=>hcont G' S N r H o' ab X V ac ad (A0 m l'))
end
section
set_option maxRecDepth 100000
variable {h:aI} {K:VP}
def tWh:SliceT prog 73 76 (Zv false none 0 0) 2 32:=⟨by kernel_rfl,by kernel_rfl,rfl,dc⟩
def B6p:prog.cellsOf 76=2/\(prog.info? 76).isSome=true:=⟨by kernel_rfl,by kernel_rfl⟩
end
end Go.Proofs.YtbgkfnjmcjfokaaGreatDoor
namespace Go.Proofs.YtbgkfnjmcjfokaaGreatDoor
set_option maxRecDepth 20000
def abR(x:Rat):Rat:=if x<0 then -x else x
def K5(x:Rat):0<=abR x:=by unfold abR;split<;>grind
def Id{x y:Rat}:abR x<=y ↔ -y<=x/\x<=y:=by unfold abR;split<;>grind
def Ie(x y:Rat):abR (x+y)<=abR x+abR y:=by unfold abR;split<;>split<;>split<;>grind
def Wi(x:Rat):abR (-x)=abR x:=by unfold abR;split<;>split<;>grind
def B1h(x y:Rat):abR (x-y)<=abR x+abR y:=by unfold abR;split<;>split<;>split<;>grind
def B90(x y:Rat):abR (x-y)=abR (y-x):=by unfold abR;split<;>split<;>grind
def A22{x:Rat}(h:x≠0):0<abR x:=by unfold abR;split<;>grind
def S7(x y:Rat):abR (x*y)=abR x*abR y:=by
 have key:∀ x y:Rat,0<=x->0<=y->abR (x*y)=x*y:=fun x y a b=>by
  have:=aE a b
  unfold abR;rw [iN gz0]
 have d:∀ x:Rat,0<=x->abR x=x:=fun x a=>by unfold abR;rw [iN gz0]
 have c:∀ x:Rat,¬ 0<=x->abR x= -x:=fun x a=>by unfold abR;rw [iP gz0]
 by_cases a:0<=x<;>by_cases b:0<=y
 ·rw [key x y a b,d x a,d y b]
 ·rw [d x a,c y b,<- key x (-y) a gz0,show x * -y= -(x*y) from gz0,Wi]
 ·rw [c x a,d y b,<- key (-x) y gz0 b,show -x*y= -(x*y) from gz0,Wi]
 ·rw [c x a,c y b,<- key (-x) (-y) gz0 gz0,show -x * -y=x*y from gz0]
def T1{a b c d:Rat}(h1:0<=a)(h2:a<=b)(h3:0<=c)(h4:c<=d):a*c<=b*d:=by
 have e:=aE (show 0<=b-a from gz0) (show 0<=d from gz0)
 have g:=aE h1 (show 0<=d-c from gz0)
 grind
def A61{y C:Rat}(hy:0<y)(hC:0<C):∃ t,0<t/\t*C=y:=
 ⟨y*C⁻¹,aK hy (Rat.inv_pos.2 hC),by rw [bO,bY C gz0,cN]⟩
structure Nice (a b:Rat) (f:Rat->Rat):Prop where
 bd:∃ M,0<=M/\∀ x,a<=x->x<=b->abR (f x)<=M
 li:∃ L,0<=L/\∀ x y,a<=x->x<=b->a<=y->y<=b->abR (f x-f y)<=L*abR (x-y)
section
variable {a b:Rat} {f g:Rat->Rat}
def Nice.const(c:Rat):Nice a b fun _=>c:=
 ⟨⟨abR c,K5 _,fun _ _ _=>gz0⟩,⟨0,gz0,fun x y _ _ _ _=>by rw [show c-c=0 from gz0];unfold abR;grind⟩⟩
def A45:Nice a b fun x=>x:=
 ⟨⟨abR a+abR b,by have:=K5 a;have:=K5 b;grind,fun x c d=>by unfold abR;split<;>split<;>split<;>grind⟩,⟨1,gz0,fun x y _ _ _ _=>gz0⟩⟩
def Nice.add(hf:Nice a b f)(hg:Nice a b g):Nice a b fun x=>f x+g x:=by
 obtain ⟨⟨M,r,m⟩,⟨L,q,n⟩⟩:=hf
 obtain ⟨⟨M',p,e⟩,⟨L',l,i⟩⟩:=hg
 refine ⟨⟨M+M',gz0,fun x d c=>?_⟩,⟨L+L',gz0,fun x y d c k j=>?_⟩⟩
 ·have:=Ie (f x) (g x);have:=m x d c;have:=e x d c;grind
 ·have:=Ie (f x-f y) (g x-g y);have:=n x y d c k j;have:=i x y d c k j
  rw [show f x+g x-(f y+g y)=f x-f y+(g x-g y) from gz0]
  grind
def Nice.mul(hf:Nice a b f)(hg:Nice a b g):Nice a b fun x=>f x*g x:=by
 obtain ⟨⟨M,p,q⟩,⟨L,r,s⟩⟩:=hf
 obtain ⟨⟨M',j,i⟩,⟨L',l,k⟩⟩:=hg
 refine ⟨⟨M*M',aE p j,fun x d c=>?_⟩,⟨M*L'+L*M',?_,fun x y d c n m=>?_⟩⟩
 ·rw [S7];exact T1 (K5 _) (q x d c) (K5 _) (i x d c)
 ·have:=aE p l;have:=aE r j;grind
 ·have e:=Ie (f x*(g x-g y)) ((f x-f y)*g y)
  rw [S7,S7] at e
  have w:=T1 (K5 _) (q x d c) (K5 _) (k x y d c n m)
  have u:=T1 (K5 _) (s x y d c n m) (K5 _) (i y n m)
  rw [show f x*g x-f y*g y=f x*(g x-g y)+(f x-f y)*g y from gz0]
  grind
end
inductive StCh (a b:Rat):List (Rat->Rat)->Prop
 | last {p:Rat->Rat} {δ:Rat} (np:Nice a b p) (hδ:0<δ) (hp:∀ x,a<=x->x<=b->δ<=abR (p x)):StCh a b [p]
 | two {p q:Rat->Rat} (np:Nice a b p) (s:StCh a b [q]):StCh a b [p,q]
 | cons {p q r u:Rat->Rat} {l:List (Rat->Rat)} {α β:Rat} (np:Nice a b p) (nu:Nice a b u) (hα:0<α) (hβ:0<β) (h:∀ x,a<=x->x<=b->α*p x=u x*q x-β*r x) (s:StCh a b (q::r::l)):StCh a b (p::q::r::l)
def StCh.tail{a b:Rat}{p q:Rat->Rat}{l:List (Rat->Rat)}(s:StCh a b (p::q::l)):StCh a b (q::l):=by
 cases s with
 | two _ s=>exact s
 | cons _ _ _ _ _ s=>exact s
def StCh.nice{a b:Rat}{p q:Rat->Rat}{l:List (Rat->Rat)}(s:StCh a b (p::q::l)):Nice a b p:=by
 cases s with
 | two n _=>exact n
 | cons n _ _ _ _ _=>exact n
def StCh.apart{a b:Rat}: ∀ (l:List (Rat->Rat)) (p q:Rat->Rat),StCh a b (p::q::l)->∃ δ,0<δ/\∀ x,a<=x->x<=b->δ<=abR (p x)+abR (q x):=by
 intro l
 induction l with
 | nil=>
  intro p q s
  cases s with
  | two np s=>
   cases s with
   | @last _ δ nq hδ hp=>
    refine ⟨δ,hδ,fun x d c=>?_⟩
    have:=hp x d c
    have:=K5 (p x)
    grind
 | cons r l ih=>
  intro p q s
  cases s with
  | @cons _ _ _ u _ α β np nu hα hβ h s=>
   obtain ⟨δ,hδ,j⟩:=ih q r s
   obtain ⟨M,A,n⟩:=nu.bd
   have i:0<β+M+α:=gz0
   obtain ⟨δ',hδ',eδ⟩:=A61 (aK hβ hδ) i
   refine ⟨δ',hδ',fun x d c=>?_⟩
   ·have C:β*r x=u x*q x-α*p x:=by have:=h x d c;grind
    have y:abR (β*r x)<=abR (u x*q x)+abR (α*p x):=by rw [C];exact B1h _ _
    have eβ:abR β=β:=by unfold abR;grind
    have eα:abR α=α:=by unfold abR;grind
    rw [S7,S7,S7,eβ,eα] at y
    have G:=T1 (K5 _) (n x d c) (K5 (q x)) (by grind:abR (q x)<=abR (q x))
    have H:=T1 (by grind:(0:Rat)<=β) (by grind:β<=β) (by grind:0<=δ) (j x d c)
    have D:=K5 (p x)
    have m:=K5 (q x)
    have E:=aE (show 0<=β+M from gz0) D
    have F:=aE (show 0<=α from gz0) m
    have k:β*δ<=(abR (p x)+abR (q x))*(β+M+α):=gz0
    exact aU (by rw [eδ];exact k) i
def sgR(x:Rat):Int:=if x<0 then -1 else if x=0 then 0 else 1
def R5{x:Rat}:sgR x=1↔0<x:=by unfold sgR;split<;>(try split)<;>grind
def S3{x:Rat}:sgR x= -1↔x<0:=by unfold sgR;split<;>(try split)<;>grind
def N7{x:Rat}:sgR x=0↔x=0:=by unfold sgR;split<;>(try split)<;>grind
def D9(x:Rat):sgR x=1\/sgR x= -1\/sgR x=0:=by unfold sgR;split<;>(try split)<;>grind
def Xe{x y t:Rat}(h1:t<=abR x)(h2:abR (x-y)<t):sgR x=sgR y/\sgR x≠0:=by
 unfold abR at h1 h2
 unfold sgR
 split at h1<;>split at h2<;>constructor<;>(repeat' split)<;>grind
def chg:Int->List Int->Nat
 | _,[]=>0
 | b,s::l=>if s=0 then chg b l else (if b= -s then 1 else 0)+chg s l
def Fp{b s:Int}(h:s≠0)(l:List Int):chg b (s::l)=(if b= -s then 1 else 0)+chg s l:=by rw [chg,iN h]
def B13{p q r:Int}(hp:p≠0)(hr:r= -p)(hq:q=1\/q= -1\/q=0)(hp1:p=1\/p= -1)(l:List Int):chg p (q::r::l)=1+chg r l:=by
 subst hr
 rcases hq with rfl|rfl|rfl<;>rcases hp1 with rfl|rfl<;>simp [chg]
section
variable {a b:Rat}
def Vx(l:List (Rat->Rat))(x:Rat):List Int:=l.map fun p=>sgR (p x)
def StCh.const:∀ (n:Nat) (t:List (Rat->Rat)) (p:Rat->Rat),t.length<=n->StCh a b (p::t)->∃ η,0<η/\∀ x y,a<=x->x<=b->a<=y->y<=b->abR (x-y)<=η->sgR (p x)=sgR (p y)->sgR (p x)≠0->chg (sgR (p x)) (Vx t x)=chg (sgR (p y)) (Vx t y):=by
 intro n
 induction n with
 | zero=>
  intro t p F s
  obtain rfl:t=[]:=aP o
  exact ⟨1,gz0,fun x y _ _ _ _ _ _ _=>rfl⟩
 | succ n ih=>
  intro t p F s
  cases s with
  | last _ _ _=>exact ⟨1,gz0,fun x y _ _ _ _ _ _ _=>rfl⟩
  | @two _ q np s=>
   cases s with
   | @last _ δ nq hδ hp=>
    obtain ⟨L,l0,Q⟩:=nq.li
    obtain ⟨η,n0,hn⟩:=A61 hδ (show 0<L+1 from gz0)
    refine ⟨η,n0,fun x y g i k j X m _=>?_⟩
    have W:=Q x y g i k j
    have q2:=T1 l0 (by grind:L<=L) (K5 (x-y)) X
    have:=(Xe (hp x g i) (show abR (q x-q y)<δ from gz0)).1
    simp only [Vx,bK,cV,this,m]
  | @cons _ q r u l α β np nu hα hβ h s=>
   obtain ⟨η1,e1,k1⟩:=ih (r::l) q (by simpa using F) s
   obtain ⟨η2,e2,k2⟩:=ih l r (by simp only [aL] at F;omega) s.tail
   obtain ⟨δ,hδ,hd⟩:=StCh.apart (r::l) p q (.cons np nu hα hβ h s)
   obtain ⟨M,C,hM⟩:=nu.bd
   obtain ⟨L,T,Q⟩:=s.nice.li
   have aa:0<M+α:=gz0
   obtain ⟨τ,hτ0,hτ⟩:∃ τ,0<τ/\4*(τ*(M+α))=α*δ:=by
    obtain ⟨τ,g,i⟩:=A61 (aK hα hδ) (show 0<4*(M+α) from gz0)
    exact ⟨τ,g,gz0⟩
   obtain ⟨ζ,hζ0,hζ⟩:=A61 hτ0 (show 0<L+1 from gz0)
   obtain ⟨η,hη0,m1,m2,m3⟩:∃ η:Rat,0<η/\η<=η1/\η<=η2/\η<=ζ:=by
    by_cases c1:η1<=η2<;>by_cases c2:η1<=ζ<;>by_cases c3:η2<=ζ
    all_goals first|exact ⟨η1,e1,gz0,gz0,gz0⟩|exact ⟨η2,e2,gz0,gz0,gz0⟩|exact ⟨ζ,hζ0,gz0,gz0,gz0⟩
   refine ⟨η,hη0,fun x y g i k j X m D=>?_⟩
   have B:abR (q x-q y)<τ:=by
    have W:=Q x y g i k j
    have q2:=T1 T (by grind:L<=L) (K5 (x-y)) (show abR (x-y)<=ζ from gz0)
    grind
   show chg (sgR (p x)) (sgR (q x)::sgR (r x)::Vx l x)=chg (sgR (p y)) (sgR (q y)::sgR (r y)::Vx l y)
   by_cases hc:τ<=abR (q x)
   ·obtain ⟨E,N⟩:=Xe hc B
    have:=k1 x y g i k j gz0 E N
    rw [Fp N,Fp (s:=sgR (q y)) (by rw [<- E];exact N),<- m,<- E]
    rw [<- E] at this
    simp only [Vx,bK] at this ⊢
    omega
   ·have A:∀ z,a<=z->z<=b->abR (q z)<2*τ->sgR (p z)≠0->sgR (r z)= -sgR (p z):=by
     intro z O G z3 z4
     have d:=hd z O G
     have e:=h z O G
     have V:=T1 (K5 _) (hM z O G) (K5 (q z)) (show abR (q z)<=2*τ from gz0)
     rw [<- S7] at V
     obtain ⟨f2,f3⟩:=Id.1 V
     have f4:=T1 (show (0:Rat)<=α from gz0) (by grind:α<=α) (show 0<=δ-2*τ by
      have W:=aE (show 0<=τ from gz0) C
      by_cases hh:0<=δ-2*τ
      ·exact hh
      ·have:=aK hα (show 0<2*τ-δ from gz0)
       have:=aK hα hτ0
       grind) (show δ-2*τ<=abR (p z) from gz0)
     have f5:=aK hα hτ0
     have f6:=aE C (show 0<=τ from gz0)
     rcases D9 (p z) with c|c|c
     ·rw [c]
      have c1:=R5.1 c
      have c2:abR (p z)=p z:=by unfold abR;grind
      rw [c2] at f4
      refine S3.2 ?_
      have:β*r z<0:=gz0
      by_cases S:r z<0
      ·exact S
      ·have:=aE (show 0<=β from gz0) (show 0<=r z from gz0);grind
     ·rw [c]
      have c1:=S3.1 c
      have c2:abR (p z)= -p z:=by unfold abR;grind
      rw [c2] at f4
      refine R5.2 ?_
      have:0<β*r z:=gz0
      by_cases S:0<r z
      ·exact S
      ·have:=aE (show 0<=β from gz0) (show 0 <= -r z from gz0);grind
     ·exact absurd c z4
    have ox:=A x g i gz0 D
    have oy:=A y k j (by
     have:=Ie (q x) (q y-q x)
     rw [B90] at B
     rw [show q x+(q y-q x)=q y from gz0] at this
     grind) (by rw [<- m];exact D)
    have w:sgR (p x)=1\/sgR (p x)= -1:=by have:=D9 (p x);omega
    rw [B13 D ox (D9 _) w,B13 (by rw [<- m];exact D) oy (D9 _) (by rw [<- m];exact w)]
    rw [k2 x y g i k j gz0 o o]
end
end Go.Proofs.YtbgkfnjmcjfokaaGreatDoor
namespace Go.Proofs.YtbgkfnjmcjfokaaGreatDoor
set_option maxRecDepth 20000
section
variable {a b:Rat}
def Pf(p:Rat->Rat)(l:List (Rat->Rat))(x:Rat):Vx (p::l) x=sgR (p x)::Vx l x:=rfl
def A1n{p q:Int}(hq:q≠0)(l:List Int):chg 0 (p::q::l)=(if p= -q then 1 else 0)+chg q l:=by
 by_cases a:p=0
 ·subst a
  rw [chg,iP rfl,Fp hq]
 ·rw [Fp a,iN o,Fp hq];omega
def C3b{x y z:Rat}(hx:0<x)(hy:0<y)(hz:0<z):∃ m:Rat,0<m/\m<=x/\m<=y/\m<=z:=by
 by_cases c1:x<=y<;>by_cases c2:x<=z<;>by_cases c3:y<=z
 all_goals first|exact ⟨x,hx,gz0,gz0,gz0⟩|exact ⟨y,hy,gz0,gz0,gz0⟩|exact ⟨z,hz,gz0,gz0,gz0⟩
def Tay(a b:Rat)(p q:Rat->Rat):Prop:=∃ K c,0<=K/\0<c/\∀ x y,a<=x->x<=b->a<=y->y<=b->abR (p y-p x-(y-x)*(c*q x))<=K*((y-x)*(y-x))
def cell{p q:Rat->Rat}{t:List (Rat->Rat)}(s:StCh a b (p::q::t))(tay:Tay a b p q)(nq:Nice a b q):∃ η,0<η/\∀ x y,a<=x->x<y->y<=b->y-x<=η->
 (sgR (p x)=sgR (p y)/\sgR (p x)≠0/\chg 0 (Vx (p::q::t) x)=chg 0 (Vx (p::q::t) y))\/
 ∃ (e:Int) (W:Nat),(e=1\/e= -1)/\chg 0 (Vx (p::q::t) x)=(if sgR (p x)= -e then 1 else 0)+W/\chg 0 (Vx (p::q::t) y)=(if sgR (p y)= -e then 1 else 0)+W/\sgR (p y-p x)=e:=by
 obtain ⟨η1,e1,G⟩:=StCh.const (t.length+1) (q::t) p (by simp) s
 obtain ⟨η2,T,k2⟩:=StCh.const t.length t q (aJ _) s.tail
 obtain ⟨δ,hδ,H⟩:=StCh.apart t p q s
 obtain ⟨L,n,V⟩:=s.nice.li
 obtain ⟨L',j,D⟩:=nq.li
 obtain ⟨K,c,F,E,Q⟩:=tay
 obtain ⟨ζ,z0,hz⟩:=A61 (show 0<δ by exact hδ) (show 0<2*(L+L'+1) from gz0)
 obtain ⟨ξ,w,hx⟩:=A61 (aK E hδ) (show 0<2*(K+1) from gz0)
 obtain ⟨μ,R,u1,u2,u3⟩:=C3b e1 T z0
 obtain ⟨η,X,n1,n2,n3⟩:=C3b R w w
 refine ⟨η,X,fun x y k h2 m h4=>?_⟩
 have d:x<=b:=gz0
 have g:a<=y:=gz0
 have B:abR (x-y)=y-x:=by unfold abR;grind
 by_cases i:sgR (p x)=sgR (p y)/\sgR (p x)≠0
 ·refine .inl ⟨i.1,i.2,?_⟩
  have:=G x y k d g m gz0 i.1 i.2
  rw [Pf p,Pf p,Fp i.2,Fp (s:=sgR (p y)) (by rw [<- i.1];exact i.2),iN (by have:=i.2;omega),iN (by have:=i.2;omega),this]
 ·have small:abR (p x)<=abR (p x-p y):=by
   unfold sgR at i
   unfold abR
   (repeat' split at i)<;>(repeat' split)<;>grind
  have A:=V x y k d g m
  have z:=D x y k d g m
  rw [B] at A z
  have f1:=T1 n (by grind:L<=L) (show 0<=y-x from gz0) (show y-x<=ζ from gz0)
  have f2:=T1 j (by grind:L'<=L') (show 0<=y-x from gz0) (show y-x<=ζ from gz0)
  have g1:=aE (show 0<=ζ from gz0) n
  have g2:=aE (show 0<=ζ from gz0) j
  have M:=H x k d
  have big:δ<=2*abR (q x):=gz0
  have l:abR (q x-q y)<δ/2:=gz0
  obtain ⟨u,r⟩:=Xe (x:=q x) (y:=q y) (t:=δ/2) gz0 l
  have O:=k2 x y k d g m gz0 u r
  refine .inr ⟨sgR (q x),chg (sgR (q x)) (Vx t x),by have:=D9 (q x);omega,?_,?_,?_⟩
  ·rw [Pf,Pf,A1n r]
  ·rw [Pf,Pf,A1n (q:=sgR (q y)) (by rw [<- u];exact r),<- u,O,<- u]
  ·have N:=Q x y k d g m
   obtain ⟨t1,t2⟩:=Id.1 N
   have v1:=T1 F (by grind:K<=K) (show 0<=(y-x)*(y-x) by exact aE gz0 gz0) (show (y-x)*(y-x)<=ξ*(y-x) by exact T1 gz0 gz0 gz0 gz0)
   have v2:=aK (show 0<y-x from gz0) w
   have v3:=aE F (show 0<=(y-x)*ξ from gz0)
   have v4:=aK (show 0<y-x from gz0) (aK E hδ)
   have v5:=aK (show 0<y-x from gz0) E
   have v6:2*(K*(ξ*(y-x)))<(y-x)*(c*δ):=by
    have:(y-x)*(ξ*(2*(K+1)))=(y-x)*(c*δ):=by rw [hx]
    grind
   rcases D9 (q x) with c1|c1|c1
   ·rw [c1]
    have c2:=R5.1 c1
    have c3:abR (q x)=q x:=by unfold abR;grind
    rw [c3] at big
    have S:=aE (show 0<=(y-x)*c from gz0) (show 0<=2*q x-δ from gz0)
    exact R5.2 gz0
   ·rw [c1]
    have c2:=S3.1 c1
    have c3:abR (q x)= -q x:=by unfold abR;grind
    rw [c3] at big
    have S:=aE (show 0<=(y-x)*c from gz0) (show 0 <= -(2*q x)-δ from gz0)
    exact S3.2 gz0
   ·exact absurd c1 r
def C1s(x:Rat):∃ n:Nat,x<=(n:Rat):=by
 refine ⟨x.ceil.toNat,?_⟩
 have a:=Rat.le_ceil (x:=x)
 by_cases h:0<=x.ceil
 ·have e:((x.ceil.toNat:Nat):Int)=x.ceil:=Int.toNat_of_nonneg h
  have:((x.ceil.toNat:Nat):Rat)=((x.ceil:Int):Rat):=by rw [<- e];rfl
  rw [this];exact a
 ·have:((x.ceil:Int):Rat)<=((0:Int):Rat):=Rat.intCast_le_intCast.2 o
  have b:((0:Int):Rat)=0:=rfl
  have c:(0:Rat)<=((x.ceil.toNat:Nat):Rat):=by
   have:((0:Int):Rat)<=(((x.ceil.toNat:Nat):Int):Rat):=Rat.intCast_le_intCast.2 o
   exact this
  grind
def C1v{η:Rat}(hη:0<η){R:Rat->Rat->Prop}(r0:∀ x,a<=x->x<=b->R x x)(r1:∀ x y,a<=x->x<y->y<=b->y-x<=η->R x y)(r2:∀ x y z,a<=x->x<y->y<z->z<=b->R x y->R y z->R x z)(hab:a<=b):R a b:=by
 have key:∀ (n:Nat) x y,a<=x->x<=y->y<=b->y-x<=(n:Rat)*η->R x y:=by
  intro n
  induction n with
  | zero=>
   intro x y c k d e
   have g:((0:Nat):Rat)=0:=rfl
   rw [g,bG] at e
   obtain rfl:x=y:=gz0
   exact r0 x c d
  | succ n ih=>
   intro x y c k d e
   by_cases m:y-x<=η
   ·by_cases j:x=y
    ·subst j;exact r0 x c d
    ·exact r1 x y c gz0 d m
   ·have i:((n+1:Nat):Rat)=(n:Rat)+1:=by
     show (((n+1:Nat):Int):Rat)=_
     rw [cK,aX];rfl
    rw [i] at e
    refine r2 x (y-η) y c gz0 gz0 d (ih x (y-η) c gz0 gz0 gz0) (r1 (y-η) y gz0 gz0 d gz0)
 obtain ⟨t,q,l⟩:=A61 (show 0<(1:Rat) from gz0) hη
 obtain ⟨n,p⟩:=C1s ((b-a)*t)
 refine key n a b gz0 hab gz0 ?_
 have:=T1 (show 0<=(b-a)*t from aE gz0 gz0) p (show 0<=η from gz0) (by grind:η<=η)
 rw [bO,l,cN] at this
 exact this
def A06{p q:Rat->Rat}{t:List (Rat->Rat)}(s:StCh a b (p::q::t))(tay:Tay a b p q)(nq:Nice a b q){σ:Int}(hσ:σ=1\/σ= -1)(mono:∀ x y,a<=x->x<y->y<=b->0<=σ*sgR (p x)->0<σ*sgR (p y))(hab:a<=b):
 chg 0 (Vx (p::q::t) a)=chg 0 (Vx (p::q::t) b)+(if σ*sgR (p a)<0/\0<=σ*sgR (p b) then 1 else 0):=by
 obtain ⟨η,hη,G⟩:=cell s tay nq
 refine C1v (R:=fun x y=>chg 0 (Vx (p::q::t) x)=chg 0 (Vx (p::q::t) y)+(if σ*sgR (p x)<0/\0<=σ*sgR (p y) then 1 else 0)) hη (fun x _ _=>?_) (fun x y j i k m=>?_) (fun x y z j i k m w E=>?_) hab
 ·rw [iN o];omega
 ·have F:=mono x y j i k
  rcases G x y j i k m with ⟨c1,c2,c3⟩|⟨e,W,H,A,C,r⟩
  ·rw [c3,c1,iN o];omega
  ·rw [A,C]
   have c:=D9 (p x)
   have d:=D9 (p y)
   have l:e=1->(sgR (p x)=1->sgR (p y)=1)/\(sgR (p x)=0->sgR (p y)=1):=by
    intro h;subst h
    have:=R5.1 r
    exact ⟨fun h=>R5.2 (by have:=R5.1 h;grind),fun h=>R5.2 (by have:=N7.1 h;grind)⟩
   have n:e= -1->(sgR (p x)= -1->sgR (p y)= -1)/\(sgR (p x)=0->sgR (p y)= -1):=by
    intro h;subst h
    have:=S3.1 r
    exact ⟨fun h=>S3.2 (by have:=S3.1 h;grind),fun h=>S3.2 (by have:=N7.1 h;grind)⟩
   rcases hσ with rfl|rfl<;>rcases H with rfl|rfl<;>rcases c with c|c|c<;>rcases d with d|d|d<;>simp [c,d] at F l n ⊢ <;> omega
 ·have D:=mono x y j i gz0
  have u:=mono y z gz0 k m
  show chg 0 (Vx (p::q::t) x)=_
  rw [w,E]
  have c:=D9 (p x)
  have d:=D9 (p y)
  have g:=D9 (p z)
  rcases hσ with rfl|rfl<;>rcases c with c|c|c<;>rcases d with d|d|d<;>rcases g with g|g|g<;>simp [c,d,g] at D u ⊢ <;> omega
end
end Go.Proofs.YtbgkfnjmcjfokaaGreatDoor
namespace Go.Proofs.YtbgkfnjmcjfokaaGreatDoor
set_option maxRecDepth 20000
def pe:List Int->Rat->Rat
 | [],_=>0
 | c::w,x=>(c:Rat)+x*pe w x
def pd:List Int->Rat->Rat
 | [],_=>0
 | _::w,x=>pe w x+x*pd w x
def J7(a b:Rat):∀ w,Nice a b (pe w):=by
 intro w
 induction w with
 | nil=>exact Nice.const 0
 | cons c w ih=>exact (Nice.const (c:Rat)).add (A45.mul ih)
def B7t(a b:Rat):∀ w,Nice a b (pd w):=by
 intro w
 induction w with
 | nil=>exact Nice.const 0
 | cons c w ih=>exact (J7 a b w).add (A45.mul ih)
def C5a(x:Rat):abR x*abR x=x*x:=by unfold abR;split<;>grind
def Lg(a b:Rat):∀ w,∃ K,0<=K/\∀ x y,a<=x->x<=b->a<=y->y<=b->abR (pe w y-pe w x-(y-x)*pd w x)<=K*((y-x)*(y-x)):=by
 intro w
 induction w with
 | nil=>exact ⟨0,gz0,fun x y _ _ _ _=>by simp only [pe,pd];unfold abR;grind⟩
 | cons c w ih=>
  obtain ⟨K,m,n⟩:=ih
  obtain ⟨L,u,s⟩:=(J7 a b w).li
  obtain ⟨B,l,p⟩:=(A45 (a:=a) (b:=b)).bd
  refine ⟨B*K+L,by have:=aE l m;grind,fun x y i g k j=>?_⟩
  have e:pe (c::w) y-pe (c::w) x-(y-x)*pd (c::w) x=x*(pe w y-pe w x-(y-x)*pd w x)+(y-x)*(pe w y-pe w x):=by
   simp only [pe,pd];grind
  have q:=Ie (x*(pe w y-pe w x-(y-x)*pd w x)) ((y-x)*(pe w y-pe w x))
  rw [S7,S7] at q
  have z:=T1 (K5 _) (p x i g) (K5 _) (n x y i g k j)
  have C:=T1 (K5 (y-x)) (by grind:abR (y-x)<=abR (y-x)) (K5 _) (s y x k j i g)
  have r:=C5a (y-x)
  rw [e]
  generalize (y-x)*(y-x)=D at *
  generalize abR (y-x)=d at *
  generalize abR (pe w y-pe w x)=F at *
  generalize abR x*abR (pe w y-pe w x-(y-x)*pd w x)=E at *
  have A:d*(L*d)=L*D:=by rw [<- r];grind
  grind
end Go.Proofs.YtbgkfnjmcjfokaaGreatDoor
namespace Go.Proofs.YtbgkfnjmcjfokaaGreatDoor
set_option maxRecDepth 20000
section
variable {a b:Rat}
def TyR(a b:Rat)(p d:Rat->Rat):Prop:=∃ K,0<=K/\∀ x y,a<=x->x<=b->a<=y->y<=b->abR (p y-p x-(y-x)*d x)<=K*((y-x)*(y-x))
def TyR.neg{p d:Rat->Rat}(t:TyR a b p d):TyR a b (fun x=> -p x) fun x=> -d x:=by
 obtain ⟨K,g,i⟩:=t
 refine ⟨K,g,fun x y j c k e=>?_⟩
 have:=i x y j c k e
 rw [<- Wi,show -(-p y - -p x-(y-x) * -d x)=p y-p x-(y-x)*d x from gz0]
 exact this
def A2w{p d:Rat->Rat}{g x y:Rat}(t:TyR a b p d)(hd:∀ z,a<=z->z<=b->g<=d z)(hx:a<=x)(hxy:x<=y)(hy:y<=b):g*(y-x)<=p y-p x:=by
 obtain ⟨K,j,k⟩:=t
 have key:∀ ε,0<ε->(g-ε)*(y-x)<=p y-p x:=by
  intro ε hε
  obtain ⟨η,l,m⟩:=A61 hε (show 0<K+1 from gz0)
  refine C1v (a:=x) (b:=y) (R:=fun x y=>(g-ε)*(y-x)<=p y-p x) l (fun z _ _=>gz0) (fun u v A q E i=>?_) (fun u v w _ _ _ _ r F=>gz0) hxy
  obtain ⟨s,_⟩:=Id.1 (k u v gz0 gz0 gz0 gz0)
  have H:=aE (show 0<=v-u from gz0) (show 0<=d u-g by have:=hd u gz0 gz0;grind)
  have B:=T1 j (by grind:K<=K) (aE (show 0<=v-u from gz0) (show 0<=v-u from gz0)) (T1 (by grind:0<=v-u) i (show 0<=v-u from gz0) (by grind:v-u<=v-u))
  have D:K*(η*(v-u))=(v-u)*ε-η*(v-u):=by
   have:(η*(K+1))*(v-u)=ε*(v-u):=by rw [m]
   grind
  have C:=aE (show 0<=η from gz0) (show 0<=v-u from gz0)
  grind
 by_cases n:g*(y-x)<=p y-p x
 ·exact n
 ·exfalso
  obtain ⟨ε,c,G⟩:=A61 (show 0<g*(y-x)-(p y-p x) from gz0) (show 0<y-x+1 from gz0)
  have:=key ε c
  grind
def A08{p d:Rat->Rat}{g x y:Rat}(t:TyR a b p d)(hd:∀ z,a<=z->z<=b->d z<=g)(hx:a<=x)(hxy:x<=y)(hy:y<=b):p y-p x<=g*(y-x):=by
 have:=A2w (g:= -g) t.neg (fun z c e=>by have:=hd z c e;grind) hx hxy hy
 grind
def Re{c:Rat->Rat}{δ:Rat}(n:Nice a b c)(hδ:0<δ)(hc:∀ x,a<=x->x<=b->δ<=abR (c x)){x y:Rat}(h1:a<=x)(h2:x<=y)(h3:y<=b):sgR (c x)=sgR (c y):=by
 obtain ⟨L,g,l⟩:=n.li
 obtain ⟨η,k,w⟩:=A61 hδ (show 0<L+1 from gz0)
 refine C1v (a:=x) (b:=y) (R:=fun x y=>sgR (c x)=sgR (c y)) k (fun _ _ _=>rfl) (fun u v q p r e=>?_) (fun _ _ _ _ _ _ _ i d=>i.trans d) h2
 refine (Xe (hc u gz0 gz0) ?_).1
 have j:=l u v gz0 gz0 gz0 gz0
 have m:abR (u-v)=v-u:=by unfold abR;grind
 rw [m] at j
 have s:=T1 g (by grind:L<=L) (show 0<=v-u from gz0) e
 grind
def Ds(x y:Rat):sgR (x*y)=sgR x*sgR y:=by
 rcases D9 x with h|h|h<;>rcases D9 y with k|k|k<;>rw [h,k]
 ·exact R5.2 (aK (R5.1 h) (R5.1 k))
 ·have:=aK (R5.1 h) (show 0 < -y by have:=S3.1 k;grind)
  exact S3.2 gz0
 ·rw [N7.1 k,cI];rfl
 ·have:=aK (show 0 < -x by have:=S3.1 h;grind) (R5.1 k)
  exact S3.2 gz0
 ·have:=aK (show 0 < -x by have:=S3.1 h;grind) (show 0 < -y by have:=S3.1 k;grind)
  exact R5.2 gz0
 ·rw [N7.1 k,cI];rfl
 ·rw [N7.1 h,bG];rfl
 ·rw [N7.1 h,bG];rfl
 ·rw [N7.1 h,bG];rfl
def A53{p d:Rat->Rat}{m Y gl gh:Rat}(t:TyR a b p d)(hm1:a<=m)(hm2:m<=b)(hg:∀ z,a<=z->z<=b->gl<=d z/\d z<=gh)
 (hin:∀ g x,gl<=g->g<=gh->a<=x->x<=b->a<m-Y*p m+(1-Y*g)*(x-m)/\m-Y*p m+(1-Y*g)*(x-m)<b):
 a<b/\∃ (σ:Int) (δ:Rat),(σ=1\/σ= -1)/\0<δ/\(∀ z,a<=z->z<=b->δ<=(σ:Rat)*d z)/\(σ:Rat)*p a<0/\0<(σ:Rat)*p b:=by
 have j:gl<=gh:=by have:=hg m hm1 hm2;grind
 have B:a<b:=by have:=hin gl m gz0 j hm1 hm2;grind
 have pos:∀ g,gl<=g->g<=gh->0<Y*g:=by
  intro g l k
  have i1:=hin g a l k gz0 gz0
  have R:=hin g b l k gz0 gz0
  by_cases A:0<Y*g
  ·exact A
  ·have:=aE (show 0 <= -(Y*g) from gz0) (show 0<=b-a from gz0)
   grind
 have O:Y≠0:=by
  rintro rfl
  have:=pos gl gz0 j
  grind
 have w:∀ y,m<=y->y<=b->gl*(y-m)<=p y-p m/\p y-p m<=gh*(y-m):=fun y l k=>
  ⟨A2w t (fun z r q=>(hg z r q).1) hm1 l k,A08 t (fun z r q=>(hg z r q).2) hm1 l k⟩
 have u:∀ y,a<=y->y<=m->gl*(m-y)<=p m-p y/\p m-p y<=gh*(m-y):=fun y l k=>
  ⟨A2w t (fun z r q=>(hg z r q).1) l k hm2,A08 t (fun z r q=>(hg z r q).2) l k hm2⟩
 have s:∀ D F:Rat,0<D->gl*D<=F->F<=gh*D->∃ g,gl<=g/\g<=gh/\g*D=F:=by
  intro D F L l k
  refine ⟨F*D⁻¹,?_,?_,by rw [bO,bY D gz0,cN]⟩
  ·refine aU (c:=D) ?_ L
   rw [bO,bY D gz0,cN];exact l
  ·refine aU (c:=D) ?_ L
   rw [bO,bY D gz0,cN];exact k
 have H:0<Y*p b:=by
  by_cases e:m=b
  ·subst e
   have:=hin gl m gz0 j hm1 hm2
   grind
  ·obtain ⟨g,E,C,G⟩:=s (b-m) (p b-p m) gz0 (w b hm2 gz0).1 (w b hm2 gz0).2
   have:=(hin g b E C gz0 gz0).2
   have N:Y*(g*(b-m))=Y*(p b-p m):=by rw [G]
   grind
 have S:Y*p a<0:=by
  by_cases e:m=a
  ·subst e
   have:=hin gl m gz0 j hm1 hm2
   grind
  ·obtain ⟨g,E,C,G⟩:=s (m-a) (p m-p a) gz0 (u a gz0 hm1).1 (u a gz0 hm1).2
   have:=(hin g a E C gz0 gz0).1
   have N:Y*(g*(m-a))=Y*(p m-p a):=by rw [G]
   grind
 refine ⟨B,sgR Y,?_⟩
 have Q:=pos gl gz0 j
 have M:=pos gh j gz0
 have neg:∀ x:Rat,Y<0->0<Y*x->x<0:=fun x l k=>by
  by_cases A:x<0
  ·exact A
  ·have:=aE (show 0 <= -Y from gz0) (show 0<=x from gz0);grind
 have n:∀ x:Rat,0<Y->0<Y*x->0<x:=fun x l k=>by
  by_cases A:0<x
  ·exact A
  ·have:=aE (show 0<=Y from gz0) (show 0 <= -x from gz0);grind
 rcases D9 Y with h|h|h
 ·rw [h]
  have i:=R5.1 h
  refine ⟨gl,.inl rfl,n gl i Q,fun z r q=>?_,?_,?_⟩
  ·have:=(hg z r q).1
   show gl<=((1:Int):Rat)*d z
   have e:((1:Int):Rat)=1:=rfl
   rw [e];grind
  ·have:=n (-p a) i gz0
   have e:((1:Int):Rat)=1:=rfl
   rw [e];grind
  ·have:=n (p b) i H
   have e:((1:Int):Rat)=1:=rfl
   rw [e];grind
 ·rw [h]
  have i:=S3.1 h
  have e:((-1:Int):Rat)= -1:=rfl
  refine ⟨-gh,.inr rfl,by have:=neg gh i M;grind,fun z r q=>?_,?_,?_⟩
  ·have:=(hg z r q).2
   rw [e];grind
  ·have:=neg (-p a) i gz0
   rw [e];grind
  ·have:=neg (p b) i H
   rw [e];grind
 ·exact absurd (N7.1 h) O
end
end Go.Proofs.YtbgkfnjmcjfokaaGreatDoor
namespace Go.Proofs.YtbgkfnjmcjfokaaGreatDoor
set_option maxRecDepth 20000
def Ia:List Int->List Int->List Int
 | [],b=>b
 | a,[]=>a
 | c::a,d::b=>(c+d)::Ia a b
def R6(k:Int)(a:List Int):List Int:=a.map (k * ·)
def Ch:List Int->List Int->List Int
 | [],_=>[]
 | c::a,b=>Ia (R6 c b) (0::Ch a b)
abbrev cf(w:List Int)(i:Nat):Int:=w.getD i 0
def Ey(a:List Int):∀ b x,pe (Ia a b) x=pe a x+pe b x:=by
 induction a with
 | nil=>intro b x;simp only [Ia,pe];grind
 | cons c a ih=>
  intro b x
  cases b with
  | nil=>simp only [Ia,pe];grind
  | cons d b=>simp only [Ia,pe,ih,aX];grind
def G9(k:Int)(a:List Int)(x:Rat):pe (R6 k a) x=(k:Rat)*pe a x:=by
 induction a with
 | nil=>simp only [R6,cV,pe];grind
 | cons c a ih=>
  simp only [R6,bK,pe,aF] at ih ⊢
  rw [ih];grind
def O8(a:List Int):∀ b x,pe (Ch a b) x=pe a x*pe b x:=by
 induction a with
 | nil=>intro b x;simp only [Ch,pe];grind
 | cons c a ih=>
  intro b x
  have e:((0:Int):Rat)=0:=rfl
  simp only [Ch,Ey,G9,pe,ih,e];grind
def A3v(a:List Int):∀ b i,cf (Ia a b) i=cf a i+cf b i:=by
 induction a with
 | nil=>intro b i;simp [Ia,cf]
 | cons c a ih=>
  intro b i
  cases b with
  | nil=>simp [Ia,cf]
  | cons d b=>
   cases i with
   | zero=>simp [Ia,cf]
   | succ i=>simpa [Ia,cf] using ih b i
def Hu(k:Int)(a:List Int)(i:Nat):cf (R6 k a) i=k*cf a i:=by
 simp only [cf,R6,aH,List.getElem?_map]
 cases a[i]? <;> simp
def B7s:∀ w:List Int,(∀ x,pe w x=0)->∀ i,cf w i=0:=by
 intro w
 induction w with
 | nil=>intro _ i;simp [cf]
 | cons c w ih=>
  intro h i
  have b:=h 0
  simp only [pe,bG,bH] at b
  have s:c=0:=by
   have e:((0:Int):Rat)=0:=rfl
   rw [<- e] at b
   exact Rat.intCast_inj.1 b
  subst s
  have e:((0:Int):Rat)=0:=rfl
  have g:∀ x,x≠0->pe w x=0:=fun x a=>by
   have:=h x
   simp only [pe,e,Rat.zero_add] at this
   exact (Rat.mul_eq_zero.1 this).resolve_left a
  have n:pe w 0=0:=by
   by_cases d:pe w 0=0
   ·exact d
   ·exfalso
    obtain ⟨L,k,u⟩:=(J7 0 1 w).li
    obtain ⟨t,j,B⟩:=A61 (A22 d) (show 0<L+1 from gz0)
    obtain ⟨m,A,r,z,_⟩:=C3b j (show (0:Rat)<1 from gz0) j
    have q:=u 0 m gz0 gz0 gz0 gz0
    rw [g m gz0] at q
    have l:abR (0-m)=m:=by unfold abR;grind
    have y:pe w 0-0=pe w 0:=gz0
    rw [l,y] at q
    have C:=T1 k (by grind:L<=L) (show 0<=m from gz0) r
    grind
  have p:∀ x,pe w x=0:=fun x=>by
   by_cases a:x=0
   ·subst a;exact n
   ·exact g x a
  cases i with
  | zero=>simp [cf]
  | succ i=>simpa [cf] using ih p i
def Se{u v:List Int}(h:∀ x,pe u x=pe v x)(i:Nat):cf u i=cf v i:=by
 have:=B7s (Ia u (R6 (-1) v)) (fun x=>by
  have e:((-1:Int):Rat)= -1:=rfl
  rw [Ey,G9,h,e];grind) i
 rw [A3v,Hu] at this
 omega
def Nz(w:List Int):Prop:=∀ h:w≠[],w.getLast h≠0
def Nz.ext{u v:List Int}(hu:Nz u)(hv:Nz v)(h:∀ x,pe u x=pe v x):u=v:=by
 have key:∀ u v:List Int,Nz u->(∀ i,cf u i=cf v i)->u.length<=v.length:=by
  intro u v hu h
  by_cases e:u.length<=v.length
  ·exact e
  ·exfalso
   have a:u≠[]:=by rintro rfl;simp at e
   have c:=h (u.length-1)
   have b:cf v (u.length-1)=0:=by simp only [cf,aH];rw [cL o];rfl
   have j:cf u (u.length-1)=u.getLast a:=by
    have g:u.length-1<u.length:=by have:=List.length_pos_iff.2 a;omega
    simp only [cf,aH,dK g,Option.getD_some,dN]
   exact hu a (by rw [<- j,c,b])
 have d:=Se h
 have l:=key u v hu d
 have k:=key v u hv fun i=>(d i).symm
 refine List.ext_getElem o fun i c b=>?_
 have:=d i
 simpa [cf,aH,c,b] using this
def Nd(p:Int)(w:List Int):Prop:=∃ i,¬ p∣cf w i
def C1r{p:Int}(hp:∀ a b:Int,p∣a*b->p∣a\/p∣b):∀ (n:Nat) (a b u:List Int),a.length+b.length<=n->(∀ x,pe u x=pe a x*pe b x)->Nd p a->Nd p b->Nd p u:=by
 intro n
 induction n with
 | zero=>
  rintro a b u h _ ⟨i,l⟩ _
  obtain rfl:a=[]:=aP o
  exact absurd (by simp [cf]) l
 | succ n ih=>
  rintro a b u A h ⟨i,l⟩ ⟨j,q⟩
  cases a with
  | nil=>exact absurd (by simp [cf]) l
  | cons c a=>
   cases b with
   | nil=>exact absurd (by simp [cf]) q
   | cons d b=>
    simp only [aL] at A
    by_cases y:p∣c
    ·have z:Nd p a:=by
      cases i with
      | zero=>exact absurd (by simpa [cf] using y) l
      | succ i=>exact ⟨i,by simpa [cf] using l⟩
     obtain ⟨k,s⟩:=ih a (d::b) (Ch a (d::b)) (by simp only [aL];omega) (fun x=>O8 _ _ x) z ⟨j,q⟩
     have e:=Se (u:=u) (v:=Ia (R6 c (d::b)) (0::Ch a (d::b))) (fun x=>by
      have e:((0:Int):Rat)=0:=rfl
      rw [h,Ey,G9]
      simp only [pe,O8,e];grind) (k+1)
     rw [A3v,Hu] at e
     have m:cf (0::Ch a (d::b)) (k+1)=cf (Ch a (d::b)) k:=by simp [cf]
     rw [m] at e
     refine ⟨k+1,fun g=>s ?_⟩
     rw [e] at g
     exact (Int.dvd_add_right (cH y)).1 g
    ·by_cases r:p∣d
     ·have B:Nd p b:=by
       cases j with
       | zero=>exact absurd (by simpa [cf] using r) q
       | succ j=>exact ⟨j,by simpa [cf] using q⟩
      obtain ⟨k,s⟩:=ih (c::a) b (Ch (c::a) b) (by simp only [aL];omega) (fun x=>O8 _ _ x) ⟨i,l⟩ B
      have e:=Se (u:=u) (v:=Ia (R6 d (c::a)) (0::Ch (c::a) b)) (fun x=>by
       have e:((0:Int):Rat)=0:=rfl
       rw [h,Ey,G9]
       simp only [pe,O8,e];grind) (k+1)
      rw [A3v,Hu] at e
      have m:cf (0::Ch (c::a) b) (k+1)=cf (Ch (c::a) b) k:=by simp [cf]
      rw [m] at e
      refine ⟨k+1,fun g=>s ?_⟩
      rw [e] at g
      exact (Int.dvd_add_right (cH r)).1 g
     ·have e:=Se (u:=u) (v:=Ch (c::a) (d::b)) (fun x=>by rw [h,O8]) 0
      have m:cf (Ch (c::a) (d::b)) 0=c*d:=by simp [Ch,R6,Ia,cf]
      refine ⟨0,fun g=>?_⟩
      rw [e,m] at g
      rcases hp c d g with w|w
      ·exact y w
      ·exact r w
def B9a(w:List Int):Prop:=∀ k:Int,(∀ i,k∣cf w i)->k=1\/k= -1
def B00:∀ n:Nat,2<=n->∃ p:Nat,2<=p/\p∣n/\∀ a b:Int,(p:Int)∣a*b->(p:Int)∣a\/(p:Int)∣b:=by
 intro n
 induction n using Nat.strongRecOn with
 | _ n ih=>
  intro x
  by_cases g:∃ m,2<=m/\m<n/\m∣n
  ·obtain ⟨m,r,c,s⟩:=g
   obtain ⟨p,j,q,i⟩:=ih m c r
   exact ⟨p,j,Nat.dvd_trans q s,i⟩
  ·refine ⟨n,x,Nat.dvd_refl n,fun a b h=>?_⟩
   have k:n∣a.natAbs*b.natAbs:=by
    have:=Int.natAbs_dvd_natAbs.2 h
    rwa [bL,Int.natAbs_mul] at this
   have d:bZ n a.natAbs∣n:=Nat.gcd_dvd_left _ _
   have u:0<bZ n a.natAbs:=Nat.gcd_pos_of_pos_left _ o
   have w:bZ n a.natAbs<=n:=Nat.le_of_dvd o d
   by_cases e:bZ n a.natAbs=n
   ·left
    refine Int.natAbs_dvd_natAbs.1 ?_
    rw [bL,<- e]
    exact Nat.gcd_dvd_right _ _
   ·right
    have l:bZ n a.natAbs=1:=by
     by_cases c:2<=bZ n a.natAbs
     ·exact absurd ⟨_,c,o,d⟩ g
     ·omega
    refine Int.natAbs_dvd_natAbs.1 ?_
    rw [bL]
    exact Nat.Coprime.dvd_of_dvd_mul_left l k
def B46{k:Int}(hk:k≠0){e:List Int}(h:∀ i,k∣cf e i):∃ f,e=R6 k f:=by
 refine ⟨e.map (· / k),List.ext_getElem (by simp [R6]) fun i a c=>?_⟩
 have:=h i
 simp only [R6,List.map_map,List.getElem_map,Function.comp]
 have b:cf e i=e[i]:=by simp [cf,aH,a]
 rw [b] at this
 exact (Int.mul_ediv_cancel' this).symm
def C4x{g:List Int}(hg:B9a g):∀ (n:Nat) (N:Int) (w e:List Int),N.natAbs<=n->N≠0->(∀ x,(N:Rat)*pe w x=pe e x*pe g x)->∃ f,∀ x,pe w x=pe f x*pe g x:=by
 intro n
 induction n with
 | zero=>intro N w e d D;omega
 | succ n ih=>
  intro N w e z u h
  by_cases d:N.natAbs=1
  ·refine ⟨R6 N e,fun x=>?_⟩
   rw [G9]
   have B:(N:Rat)*(N:Rat)=1:=by
    rw [<- aF]
    have:N*N=1:=by rcases Int.natAbs_eq N with q|q<;>rw [d] at q<;>subst q<;>rfl
    rw [this];rfl
   have:=h x
   have A:(N:Rat)*((N:Rat)*pe w x)=(N:Rat)*(pe e x*pe g x):=by rw [this]
   rw [<- bO,B] at A
   grind
  ·obtain ⟨p,r,pd,y⟩:=B00 N.natAbs o
   have c:(p:Int)∣N:=Int.natAbs_dvd_natAbs.1 (by rw [bL];exact pd)
   have C:Nd p g:=by
    by_cases a:Nd p g
    ·exact a
    ·exfalso
     have:=hg p fun i=>by
      by_cases q:(p:Int)∣cf g i
      ·exact q
      ·exact absurd ⟨i,q⟩ a
     omega
   have ne:¬ Nd p e:=fun a=>by
    obtain ⟨i,j⟩:=C1r y _ e g (R6 N w) (aJ _) (fun x=>by rw [G9,h]) a C
    rw [Hu] at j
    exact j (cH c)
   obtain ⟨f,rfl⟩:=B46 (k:=p) o (e:=e) fun i=>by
    by_cases q:(p:Int)∣cf e i
    ·exact q
    ·exact absurd ⟨i,q⟩ ne
   obtain ⟨M,rfl⟩:=c
   have s:M≠0:=by rintro rfl;simp at u
   refine ih M w f ?_ s fun x=>?_
   ·rw [Int.natAbs_mul,bL] at z
    have:1<=M.natAbs:=o
    have:2*M.natAbs<=p*M.natAbs:=aV _ r
    omega
   ·have:=h x
    rw [G9,aF] at this
    have b:(((p:Nat):Int):Rat)≠0:=by
     intro q
     have l:((0:Int):Rat)=0:=rfl
     rw [<- l] at q
     have:=Rat.intCast_inj.1 q
     omega
    have m:(((p:Nat):Int):Rat)*((M:Rat)*pe w x-pe f x*pe g x)=0:=gz0
    have:=(Rat.mul_eq_zero.1 m).resolve_left b
    grind
end Go.Proofs.YtbgkfnjmcjfokaaGreatDoor
namespace Go.Proofs.YtbgkfnjmcjfokaaGreatDoor
set_option maxRecDepth 20000
inductive PCh:List (List Int)->Prop
 | one (v:List Int):PCh [v]
 | two {p q e:List Int} {N:Int} (hN:N≠0) (h:∀ x,(N:Rat)*pe p x=pe e x*pe q x):PCh [p,q]
 | cons {p q r u:List Int} {l:List (List Int)} {α β:Int} (hα:0<α) (hβ:0<β) (h:∀ x,(α:Rat)*pe p x=pe u x*pe q x-(β:Rat)*pe r x) (s:PCh (q::r::l)):PCh (p::q::r::l)
def Dv(d p:List Int):Prop:=∃ (N:Int) (e:List Int),N≠0/\∀ x,(N:Rat)*pe p x=pe e x*pe d x
def Dv.refl(d:List Int):Dv d d:=⟨1,[1],dc,fun x=>by
 have e:((1:Int):Rat)=1:=rfl
 simp only [pe,e];grind⟩
def F6{N:Int}(h:N≠0):(N:Rat)≠0:=fun q=>h (by
 have a:((0:Int):Rat)=0:=rfl
 rw [<- a] at q
 exact Rat.intCast_inj.1 q)
def H0{N:Int}(h:0<N):(0:Rat)<(N:Rat):=by
 have a:((0:Int):Rat)=0:=rfl
 rw [<- a];exact Rat.intCast_lt_intCast.2 h
def Ck:List Int->List (List Int)->List Int
 | p,[]=>p
 | _,q::t=>Ck q t
def PCh.dvd:∀ (t:List (List Int)) (p:List Int),PCh (p::t)->Dv (Ck p t) p/\∀ q t',t=q::t'->Dv (Ck p t) q:=by
 intro t
 induction t with
 | nil=>intro p _;exact ⟨Dv.refl _,fun q t' h=>by cases h⟩
 | cons q t ih=>
  intro p s
  cases s with
  | @two _ _ e N hN h=>exact ⟨⟨N,e,hN,h⟩,fun n t' h=>by cases h;exact Dv.refl _⟩
  | @cons _ _ r u l α β hα hβ h s=>
   obtain ⟨a,c⟩:=ih q s
   have g:=c r l rfl
   refine ⟨?_,fun n t' h=>by cases h;exact a⟩
   obtain ⟨N,e,y,b⟩:=a
   obtain ⟨M,f,w,d⟩:=g
   refine ⟨α*(N*M),Ia (R6 M (Ch u e)) (R6 (-(β*N)) f),fun z=>?_,fun x=>?_⟩
   ·rcases Int.mul_eq_zero.1 z with z|z
    ·omega
    ·rcases Int.mul_eq_zero.1 z with z|z<;>contradiction
   ·show _=_*pe (Ck q (r::l)) x
    have j:=h x
    have k:=b x
    have m:=d x
    rw [Ey,G9,G9,O8,aF,aF,cJ,aF]
    generalize pe (Ck q (r::l)) x=D at *
    have i:(N:Rat)*(M:Rat)*((α:Rat)*pe p x)=(M:Rat)*pe u x*((N:Rat)*pe q x)-(N:Rat)*(β:Rat)*((M:Rat)*pe r x):=by rw [j];grind
    rw [k,m] at i
    grind
section
variable {a b:Rat}
def Aw(a b:Rat)(f:Rat->Rat):Prop:=∃ δ,0<δ/\∀ x,a<=x->x<=b->δ<=abR (f x)
def Aw.factor{f e d:Rat->Rat}{N:Rat}(hf:Aw a b f)(ne:Nice a b e)(hN:N≠0)(h:∀ x,N*f x=e x*d x):Aw a b d:=by
 obtain ⟨δ,l,k⟩:=hf
 obtain ⟨M,q,m⟩:=ne.bd
 have g:=A22 hN
 obtain ⟨t,n,s⟩:=A61 (aK g l) (show 0<M+1 from gz0)
 refine ⟨t,n,fun x j i=>?_⟩
 have r:=T1 (show 0<=abR N from gz0) (by grind:abR N<=abR N) (show 0<=δ from gz0) (k x j i)
 have w:abR N*abR (f x)=abR (e x)*abR (d x):=by rw [<- S7,<- S7,h]
 have u:=T1 (K5 (e x)) (m x j i) (K5 (d x)) (by grind:abR (d x)<=abR (d x))
 have p:=K5 (d x)
 refine aU (c:=M+1) ?_ gz0
 grind
def PCh.st:∀ (t:List (List Int)) (p:List Int),PCh (p::t)->Aw a b (pe (Ck p t))->StCh a b (pe p::t.map pe):=by
 intro t
 induction t with
 | nil=>
  rintro p _ ⟨δ,d,c⟩
  exact .last (J7 _ _ _) d c
 | cons q t ih=>
  intro p s e
  cases s with
  | two hN h=>
   obtain ⟨δ,d,c⟩:=e
   exact .two (J7 _ _ _) (.last (J7 _ _ _) d c)
  | @cons _ _ r u l α β hα hβ h s=>
   exact .cons (J7 _ _ _) (J7 _ _ u) (H0 hα) (H0 hβ) (fun x _ _=>h x) (ih q s e)
structure Sq (w:List Int) (S:List Int) (t:List (List Int)):Prop where
 ch:PCh (S::t)
 sq:∃ (G:List Int) (c N:Int) (e:List Int),0<c/\N≠0/\(∀ x,pe w x=(c:Rat)*(pe S x*pe G x))/\∀ x,(N:Rat)*pd w x=pe e x*pe G x
 der:∀ Q t',t=Q::t'->∃ c:Int,0<c/\∀ x,pd S x=(c:Rat)*pe Q x
 con:t=[]->∃ s:Rat,∀ x,pe S x=s
def He{w S G:List Int}{c:Rat}(h:∀ x,pe w x=c*(pe S x*pe G x))(x:Rat):pd w x=c*(pd S x*pe G x+pe S x*pd G x):=by
 have L:=Lg (x-1) (x+1) w
 have p:=Lg (x-1) (x+1) S
 have q:=Lg (x-1) (x+1) G
 obtain ⟨K1,k1,F⟩:=L
 obtain ⟨K2,R,u⟩:=p
 obtain ⟨K3,D,O⟩:=q
 obtain ⟨L2,W,i⟩:=(J7 (x-1) (x+1) S).li
 obtain ⟨L3,H,e⟩:=(J7 (x-1) (x+1) G).li
 obtain ⟨B2,N,g⟩:=(J7 (x-1) (x+1) S).bd
 obtain ⟨B3,B,j⟩:=(J7 (x-1) (x+1) G).bd
 by_cases k:pd w x-c*(pd S x*pe G x+pe S x*pd G x)=0
 ·grind
 ·exfalso
  have nn:0<=abR c*(K2*B3+B2*K3+L2*L3):=aE (K5 _) (by
   have:=aE R B;have:=aE N D;have:=aE W H;grind)
  obtain ⟨s,m,hs⟩:=A61 (A22 k) (show 0<K1+abR c*(K2*B3+B2*K3+L2*L3)+1 from gz0)
  obtain ⟨r,E,y,r2,_⟩:=C3b m (show (0:Rat)<1 from gz0) m
  have z:x+r-x=r:=gz0
  have M:=F x (x+r) gz0 gz0 gz0 gz0
  have l:=u x (x+r) gz0 gz0 gz0 gz0
  have n:=O x (x+r) gz0 gz0 gz0 gz0
  have b:=i (x+r) x gz0 gz0 gz0 gz0
  have d:=e (x+r) x gz0 gz0 gz0 gz0
  have X:=g x gz0 gz0
  have A:=j x gz0 gz0
  rw [z] at M l n b d
  have a:abR r=r:=by unfold abR;grind
  rw [a] at b d
  have T:r*(pd w x-c*(pd S x*pe G x+pe S x*pd G x))=c*((pe S (x+r)-pe S x-r*pd S x)*pe G x+pe S x*(pe G (x+r)-pe G x-r*pd G x)+(pe S (x+r)-pe S x)*(pe G (x+r)-pe G x))-(pe w (x+r)-pe w x-r*pd w x):=by
   rw [h (x+r),h x];grind
  generalize pe S (x+r)-pe S x-r*pd S x=E2 at *
  generalize pe G (x+r)-pe G x-r*pd G x=E3 at *
  generalize pe w (x+r)-pe w x-r*pd w x=E1 at *
  generalize pe S (x+r)-pe S x=D2 at *
  generalize pe G (x+r)-pe G x=D3 at *
  generalize pd w x-c*(pd S x*pe G x+pe S x*pd G x)=Z at *
  generalize pe S x=S0 at *
  generalize pe G x=G0 at *
  have C:=B1h (c*(E2*G0+S0*E3+D2*D3)) E1
  rw [<- T,S7,S7,a] at C
  have Q:=Ie (E2*G0+S0*E3) (D2*D3)
  have V:=Ie (E2*G0) (S0*E3)
  rw [S7 E2,S7 S0] at V
  rw [S7 D2] at Q
  have p1:=T1 (K5 E2) l (K5 G0) A
  have p2:=T1 (K5 S0) X (K5 E3) n
  have p3:=T1 (K5 D2) b (K5 D3) d
  have p4:=T1 (K5 c) (by grind:abR c<=abR c) (K5 (E2*G0+S0*E3+D2*D3)) (show abR (E2*G0+S0*E3+D2*D3)<=(K2*B3+B2*K3+L2*L3)*(r*r) from gz0)
  have p5:r*abR Z<=(K1+abR c*(K2*B3+B2*K3+L2*L3))*(r*r):=gz0
  have p6:abR Z<=(K1+abR c*(K2*B3+B2*K3+L2*L3))*r:=by
   refine aU (c:=r) ?_ E
   grind
  have p7:=T1 (show 0<=K1+abR c*(K2*B3+B2*K3+L2*L3) from gz0) (by grind:K1+abR c*(K2*B3+B2*K3+L2*L3)<=K1+abR c*(K2*B3+B2*K3+L2*L3)) (show 0<=r from gz0) y
  have p8:=A22 k
  grind
end
end Go.Proofs.YtbgkfnjmcjfokaaGreatDoor
namespace Go.Proofs.YtbgkfnjmcjfokaaGreatDoor
set_option maxRecDepth 20000
section
variable {a b:Rat} {w S:List Int} {t:List (List Int)}
def Vs(l:List (List Int))(x:Rat):List Int:=l.map fun w=>sgR (pe w x)
def B1j(l:List (List Int))(x:Rat):Vx (l.map pe) x=Vs l x:=by
 simp [Vx,Vs,List.map_map,Function.comp]
def Sq.mulw(q:Sq w S t):∃ (G:List Int) (c N:Int) (e:List Int),0<c/\N≠0/\(∀ x,pe w x=(c:Rat)*(pe S x*pe G x))/\(∀ x,(N:Rat)*pd w x=pe e x*pe G x)/\∀ x,pd w x=(c:Rat)*(pd S x*pe G x+pe S x*pd G x):=by
 obtain ⟨G,c,N,e,b,d,a,g⟩:=q.sq
 exact ⟨G,c,N,e,b,d,a,g,fun x=>He a x⟩
def C05{c:Int}(h:0<c):sgR (c:Rat)=1:=R5.2 (H0 h)
def A1l(q:Sq w S t)(hab:a<=b)(hw:Aw a b (pe w)):chg 0 (Vs (S::t) a)=chg 0 (Vs (S::t) b):=by
 obtain ⟨G,c,N,e,n,l,d,T⟩:=q.sq
 have r:Aw a b (pe S):=hw.factor (N:=1) (e:=fun x=>(c:Rat)*pe G x) ((Nice.const _).mul (J7 _ _ _)) gz0 fun x=>by rw [d];grind
 cases t with
 | nil=>
  have z:∀ s:Int,chg 0 [s]=0:=fun s=>by
   by_cases h:s=0
   ·simp [chg,h]
   ·rw [Fp h,iN o];rfl
  simp only [Vs,bK,cV,z]
 | cons Q t'=>
  obtain ⟨R,_⟩:=q.ch.dvd
  obtain ⟨M,f,O,H⟩:=R
  have A:Aw a b (pe (Ck S (Q::t'))):=r.factor (J7 _ _ _) (F6 O) H
  have st:=PCh.st _ _ q.ch A
  obtain ⟨k,C,B⟩:=q.der Q t' rfl
  obtain ⟨K,K0,E⟩:=Lg a b S
  obtain ⟨δ,L,j⟩:=r
  have D:∀ x y,a<=x->x<=y->y<=b->sgR (pe S x)=sgR (pe S y):=fun x y n l d=>Re (J7 a b S) L j n l d
  have nz:sgR (pe S a)≠0:=fun z=>by
   have:=j a gz0 hab
   rw [N7.1 z] at this
   unfold abR at this;grind
  have u:=D9 (pe S a)
  have:=A06 st ⟨K,(k:Rat),K0,H0 C,fun x y p m i F=>by rw [<- B];exact E x y p m i F⟩ (J7 _ _ _) (σ:=sgR (pe S a)) o (fun x y p m i _=>by
   rw [<- D a y gz0 gz0 i]
   rcases u with z|z|z<;>rw [z]<;>first|decide|exact absurd z nz) hab
  rw [iN (fun z=>by
   have:=z.1
   rcases u with y|y|y<;>rw [y] at this<;>omega)] at this
  have g:=B1j (S::Q::t')
  simp only [bK] at g this
  rw [g,g] at this
  omega
def My(q:Sq w S t)(hab:a<b){σ:Int}(hσ:σ=1\/σ= -1){δ:Rat}(hδ:0<δ)(hd:∀ z,a<=z->z<=b->δ<=(σ:Rat)*pd w z):
 chg 0 (Vs (S::t) a)=chg 0 (Vs (S::t) b)+(if σ*sgR (pe w a)<0/\0<=σ*sgR (pe w b) then 1 else 0):=by
 obtain ⟨G,c,N,e,F,C,h3,h4,h5⟩:=q.mulw
 have sσ:sgR (σ:Rat)=σ:=by rcases hσ with rfl|rfl<;>decide
 have n:Aw a b (pd w):=⟨δ,hδ,fun x i j=>by
  have:=hd x i j
  rcases hσ with rfl|rfl
  ·have e:((1:Int):Rat)=1:=rfl
   rw [e] at this;unfold abR;split<;>grind
  ·have e:((-1:Int):Rat)= -1:=rfl
   rw [e] at this;unfold abR;split<;>grind⟩
 have aG:Aw a b (pe G):=n.factor (J7 _ _ _) (F6 C) h4
 obtain ⟨δG,g0,X⟩:=aG
 have cG:∀ x,a<=x->x<=b->sgR (pe G x)=sgR (pe G a):=fun x F C=>(Re (J7 a b G) g0 X gz0 F C).symm
 have nG:sgR (pe G a)≠0:=fun z=>by
  have:=X a gz0 gz0
  rw [N7.1 z] at this
  unfold abR at this;grind
 have sG:=D9 (pe G a)
 have B:∀ x,a<=x->x<=b->sgR (pe w x)=sgR (pe S x)*sgR (pe G a):=fun x k1 k2=>by
  rw [h3,Ds,Ds,C05 F,cG x k1 k2];omega
 have T:=B a gz0 gz0
 have H:=B b gz0 gz0
 have aa:=D9 (pe S a)
 have ab:=D9 (pe S b)
 cases t with
 | nil=>
  obtain ⟨s,hs⟩:=q.con rfl
  rw [hs] at T H
  have z:∀ s:Int,chg 0 [s]=0:=fun s=>by
   by_cases h:s=0
   ·simp [chg,h]
   ·rw [Fp h,iN o];rfl
  rw [iN (by rw [T,H];omega)]
  simp only [Vs,bK,cV,z]
 | cons Q t'=>
  obtain ⟨dS,dQ⟩:=q.ch.dvd
  obtain ⟨M,f,m0,hf⟩:=dS
  obtain ⟨P,r,p0,hr⟩:=dQ Q t' rfl
  obtain ⟨k,k0,V⟩:=q.der Q t' rfl
  have aD:Aw a b (pe (Ck S (Q::t'))):=n.factor (N:=(M:Rat)*(P:Rat)) (e:=fun x=>(c:Rat)*((M:Rat)*(k:Rat)*(pe r x*pe G x)+(P:Rat)*(pe f x*pd G x)))
   ((Nice.const _).mul (((Nice.const _).mul ((J7 _ _ _).mul (J7 _ _ _))).add ((Nice.const _).mul ((J7 _ _ _).mul (B7t _ _ _)))))
   (fun z=>by rcases Rat.mul_eq_zero.1 z with z|z;exact F6 m0 z;exact F6 p0 z) fun x=>by
    have a1:=hf x
    have a2:=hr x
    rw [h5,V]
    generalize pe (Ck S (Q::t')) x=D at *
    have:(M:Rat)*(P:Rat)*((c:Rat)*((k:Rat)*pe Q x*pe G x+pe S x*pd G x))=(c:Rat)*((M:Rat)*(k:Rat)*pe G x*((P:Rat)*pe Q x)+(P:Rat)*pd G x*((M:Rat)*pe S x)):=gz0
    rw [this,a1,a2];grind
  have st:=PCh.st _ _ q.ch aD
  obtain ⟨K,K0,hK⟩:=Lg a b S
  obtain ⟨Kw,Kw0,E⟩:=Lg a b w
  have mw:∀ x y,a<=x->x<y->y<=b->0<=σ*sgR (pe w x)->0<σ*sgR (pe w y):=by
   intro x y i j l A
   have sx:0<=sgR ((σ:Rat)*pe w x):=by rw [Ds,sσ];exact A
   have px:0<=(σ:Rat)*pe w x:=by
    by_cases z:0<=(σ:Rat)*pe w x
    ·exact z
    ·have:=S3.2 (show (σ:Rat)*pe w x<0 from gz0);omega
   have sl:=A2w (a:=a) (b:=b) (p:=fun z=>(σ:Rat)*pe w z) (d:=fun z=>(σ:Rat)*pd w z) (g:=δ) ⟨Kw,Kw0,fun u v u1 u2 u3 u4=>by
    have:=E u v u1 u2 u3 u4
    rcases hσ with rfl|rfl
    ·have e:((1:Int):Rat)=1:=rfl
     rw [e,show 1*pe w v-1*pe w u-(v-u)*(1*pd w u)=pe w v-pe w u-(v-u)*pd w u from gz0];exact this
    ·have e:((-1:Int):Rat)= -1:=rfl
     rw [e,<- Wi,show -(-1*pe w v - -1*pe w u-(v-u)*(-1*pd w u))=pe w v-pe w u-(v-u)*pd w u from gz0];exact this⟩ hd i gz0 l
   have pos:=aK hδ (show 0<y-x from gz0)
   have:=R5.2 (show 0<(σ:Rat)*pe w y from gz0)
   rw [Ds,sσ] at this;omega
  have κ:sgR (pe G a)=1\/sgR (pe G a)= -1:=o
  have:=A06 st ⟨K,(k:Rat),K0,H0 k0,fun x y i j l A=>by rw [<- V];exact hK x y i j l A⟩ (J7 _ _ _) (σ:=σ*sgR (pe G a)) (by rcases hσ with z|z<;>rcases κ with y|y<;>rw [z,y]<;>decide) (fun x y i j l A=>by
   have m:=mw x y i j l
   rw [B x i gz0,B y gz0 l] at m
   have O:σ*(sgR (pe S x)*sgR (pe G a))=σ*sgR (pe G a)*sgR (pe S x):=by rw [bM (sgR (pe S x)),cP]
   have L:σ*(sgR (pe S y)*sgR (pe G a))=σ*sgR (pe G a)*sgR (pe S y):=by rw [bM (sgR (pe S y)),cP]
   rw [O,L] at m
   exact m A) gz0
  have O:σ*(sgR (pe S a)*sgR (pe G a))=σ*sgR (pe G a)*sgR (pe S a):=by rw [bM (sgR (pe S a)),cP]
  have L:σ*(sgR (pe S b)*sgR (pe G a))=σ*sgR (pe G a)*sgR (pe S b):=by rw [bM (sgR (pe S b)),cP]
  have R:=B1j (S::Q::t')
  simp only [bK] at R this
  rw [R,R] at this
  rw [this,T,H,O,L]
def B4a(q:Sq w S t)(hab:a<b){σ:Int}(hσ:σ=1\/σ= -1){δ:Rat}(hδ:0<δ)(hd:∀ z,a<=z->z<=b->δ<=(σ:Rat)*pd w z)(ha:(σ:Rat)*pe w a<0)(hb:0<(σ:Rat)*pe w b):
 chg 0 (Vs (S::t) a)=chg 0 (Vs (S::t) b)+1:=by
 have sσ:sgR (σ:Rat)=σ:=by rcases hσ with rfl|rfl<;>decide
 have c:=S3.2 ha
 have e:=R5.2 hb
 rw [Ds,sσ] at c e
 rw [My q hab hσ hδ hd,iP ⟨o,o⟩]
end
end Go.Proofs.YtbgkfnjmcjfokaaGreatDoor
namespace Go.Proofs.YtbgkfnjmcjfokaaGreatDoor
set_option maxRecDepth 20000
def B1f{u v:List Int}(h:u.length<v.length):(Ia u v).length=v.length/\∀ h1 h2,(Ia u v).getLast h1=v.getLast h2:=by
 induction u generalizing v with
 | nil=>exact ⟨rfl,fun _ _=>rfl⟩
 | cons c u ih=>
  cases v with
  | nil=>simp at h
  | cons d v=>
   simp only [aL] at h
   obtain ⟨i1,e⟩:=ih (v:=v) o
   refine ⟨by simp only [Ia,aL,i1],fun h1 h2=>?_⟩
   have a:v≠[]:=by rintro rfl;simp at h
   have b:Ia u v≠[]:=by intro z;rw [z] at i1;simp at i1;exact a (aP i1.symm)
   simp only [Ia]
   rw [aZ b,aZ a]
   exact e b a
def Hk{a b:List Int}(ha:a≠[])(hb:b≠[]):(Ch a b).length+1=a.length+b.length/\∀ h,(Ch a b).getLast h=a.getLast ha*b.getLast hb:=by
 induction a with
 | nil=>exact absurd rfl ha
 | cons c a ih=>
  have p:=List.length_pos_iff.2 hb
  cases a with
  | nil=>
   have e:Ch [c] b=R6 c b:=by
    have j:∀ l:List Int,l≠[]->Ia l [0]=l:=fun l i=>by
     cases l with
     | nil=>exact absurd rfl i
     | cons x l=>cases l<;>simp [Ia]
    simp only [Ch]
    exact j _ (by simpa [R6] using hb)
   rw [e]
   refine ⟨by simp [R6];omega,fun h=>?_⟩
   simp [R6,List.getLast_map]
  | cons d a=>
   obtain ⟨i1,m⟩:=ih (by simp)
   have g:Ch (d::a) b≠[]:=by intro z;rw [z] at i1;simp at i1;omega
   have i:(R6 c b).length<(0::Ch (d::a) b).length:=by simp only [R6,List.length_map,aL] at i1 ⊢;omega
   obtain ⟨k,n⟩:=B1f i
   have e:Ch (c::d::a) b=Ia (R6 c b) (0::Ch (d::a) b):=rfl
   refine ⟨by rw [e,k];simp only [aL] at i1 ⊢;omega,fun h=>?_⟩
   have:=n (by rw [<- e];exact h) (by simp)
   rw [aZ g,m g] at this
   simp only [e]
   rw [this,aZ (by simp:d::a≠[])]
def Nz.mul{a b:List Int}(ha:Nz a)(hb:Nz b)(h1:a≠[])(h2:b≠[]):Nz (Ch a b):=by
 intro h
 obtain ⟨_,e⟩:=Hk h1 h2
 rw [e h]
 intro z
 rcases Int.mul_eq_zero.1 z with z|z
 ·exact ha h1 z
 ·exact hb h2 z
def Nz.scl{a:List Int}{k:Int}(ha:Nz a)(hk:k≠0):Nz (R6 k a):=by
 intro h
 have b:a≠[]:=by rintro rfl;exact h rfl
 intro z
 simp only [R6,List.getLast_map] at z
 rcases Int.mul_eq_zero.1 z with z|z
 ·exact hk z
 ·exact ha b z
def Sk{N:Int}{u a b:List Int}(hN:N≠0)(hu:Nz u)(ha:Nz a)(hb:Nz b)(h1:a≠[])(h2:b≠[])(h:∀ x,(N:Rat)*pe u x=pe a x*pe b x):u.length+1=a.length+b.length:=by
 have e:R6 N u=Ch a b:=Nz.ext (hu.scl hN) (ha.mul hb h1 h2) fun x=>by rw [G9,O8,h]
 have:=(Hk h1 h2).1
 rw [<- e] at this
 simpa [R6] using this
def Nz.val{a:List Int}(ha:Nz a)(h1:a≠[]):∃ x,pe a x≠0:=by
 by_cases h:∃ x,pe a x≠0
 ·exact h
 ·exfalso
  have:a=[]:=Nz.ext ha (fun h=>absurd rfl h) fun x=>by
   by_cases z:pe a x=0
   ·rw [z];rfl
   ·exact absurd ⟨x,z⟩ h
  exact h1 this
def trZ:List Int->List Int
 | []=>[]
 | c::w=>if c=0/\trZ w=[] then [] else c::trZ w
def Kz:∀ w,Nz (trZ w):=by
 intro w
 induction w with
 | nil=>intro h;exact absurd rfl h
 | cons c w ih=>
  by_cases b:c=0/\trZ w=[]
  ·have e:trZ (c::w)=[]:=by rw [trZ,iP b]
   rw [e];intro h;exact absurd rfl h
  ·have e:trZ (c::w)=c::trZ w:=by rw [trZ,iN b]
   rw [e];intro h
   by_cases a:trZ w=[]
   ·have:¬ c=0:=fun z=>b ⟨z,a⟩
    simp only [a,List.getLast_singleton]
    exact this
   ·rw [aZ a];exact ih a
def Db{l:List Int}(h:l≠[]):l.getLast h=cf l (l.length-1):=by
 have a:l.length-1<l.length:=by have:=List.length_pos_iff.2 h;omega
 simp only [cf,aH,dK a,Option.getD_some,dN]
def Hc:∀ w x,pe (trZ w) x=pe w x:=by
 intro w x
 induction w with
 | nil=>rfl
 | cons c w ih=>
  simp only [trZ]
  split
  ·rename_i a
   rw [a.2] at ih
   have e:((0:Int):Rat)=0:=rfl
   simp only [pe] at ih ⊢
   rw [<- ih,a.1,e];grind
  ·simp only [pe,ih]
def B6i:∀ w,(trZ w).length<=w.length:=by
 intro w
 induction w with
 | nil=>exact aJ _
 | cons c w ih=>
  simp only [trZ]
  split
  ·simp
  ·simp only [aL];omega
def Td:Nat->List Int->List Int
 | _,[]=>[]
 | k,c::w=>(c*k)::Td (k+1) w
def dl:List Int->List Int
 | []=>[]
 | _::w=>Td 1 w
def B0r:∀ (k:Nat) w x,pe (Td (k+1) w) x=pe (Td k w) x+pe w x:=by
 intro k w
 induction w generalizing k with
 | nil=>intro x;simp only [Td,pe];grind
 | cons c w ih=>
  intro x
  have e:((c*((k+1:Nat):Int):Int):Rat)=((c*(k:Int):Int):Rat)+(c:Rat):=by
   rw [<- aX];congr 1;rw [cK,Int.mul_add];omega
  simp only [Td,pe,ih,e];grind
def Jb:∀ w x,pe (dl w) x=pd w x:=by
 intro w
 induction w with
 | nil=>intro x;rfl
 | cons c w ih=>
  intro x
  show pe (Td 1 w) x=pe w x+x*pd w x
  rw [<- ih]
  cases w with
  | nil=>simp only [Td,dl,pe];grind
  | cons d w=>
   show pe (Td 1 (d::w)) x=pe (d::w) x+x*pe (Td 1 w) x
   have e:((d*((1:Nat):Int):Int):Rat)=(d:Rat):=by rw [show d*((1:Nat):Int)=d from o]
   simp only [Td,pe,e,B0r];grind
def Yw(k:Nat)(w:List Int):(Td k w).length=w.length:=by
 induction w generalizing k with
 | nil=>rfl
 | cons c w ih=>simp [Td,ih]
def Qd(w:List Int):(dl w).length=w.length-1:=by
 cases w with
 | nil=>rfl
 | cons c w=>simp [dl,Yw]
def B0s(k:Nat)(w:List Int)(i:Nat):cf (Td k w) i=cf w i*((k+i:Nat):Int):=by
 induction w generalizing k i with
 | nil=>simp [Td,cf]
 | cons c w ih=>
  cases i with
  | zero=>simp [Td,cf]
  | succ i=>
   have:=ih (k+1) i
   simp only [Td,cf,List.getD_cons_succ] at this ⊢
   rw [this];congr 2;omega
def A67{w:List Int}(hw:Nz w):Nz (dl w):=by
 intro h
 cases w with
 | nil=>exact absurd rfl h
 | cons c w=>
  have a:w≠[]:=by rintro rfl;exact h rfl
  have g:=List.length_pos_iff.2 a
  have e:(Td 1 w).getLast h=cf (Td 1 w) (w.length-1):=by
   have:=Db (l:=Td 1 w) h
   rw [Yw] at this;exact this
  have d:=Db a
  have b:=hw (by simp)
  rw [aZ a,d] at b
  show (Td 1 w).getLast h≠0
  rw [e,B0s]
  intro z
  rcases Int.mul_eq_zero.1 z with z|z
  ·exact b z
  ·omega
def Dv.step{d a b q r r':List Int}{m c:Int}(hm:m≠0)(h:∀ x,(m:Rat)*pe a x=pe q x*pe b x+pe r x)(hr:∀ x,pe r x=(c:Rat)*pe r' x)(h1:Dv d b)(h2:Dv d r'):Dv d a:=by
 obtain ⟨N,e,n,h1⟩:=h1
 obtain ⟨M,f,l,h2⟩:=h2
 refine ⟨m*(N*M),Ia (R6 M (Ch q e)) (R6 (c*N) f),fun z=>?_,fun x=>?_⟩
 ·rcases Int.mul_eq_zero.1 z with z|z
  ·exact hm z
  ·rcases Int.mul_eq_zero.1 z with z|z<;>contradiction
 ·have g:=h x
  have k:=h1 x
  have j:=h2 x
  rw [hr] at g
  rw [Ey,G9,G9,O8,aF,aF,aF]
  generalize pe d x=D at *
  have i:(N:Rat)*(M:Rat)*((m:Rat)*pe a x)=(M:Rat)*pe q x*((N:Rat)*pe b x)+(N:Rat)*(c:Rat)*((M:Rat)*pe r' x):=by rw [g];grind
  rw [k,j] at i
  grind
def Dv.nil(d:List Int):Dv d []:=⟨1,[],dc,fun x=>by simp only [pe];grind⟩
def Sq.of{w W G S:List Int}{t:List (List Int)}{c:Int}(hc:0<c)(hW:∀ x,pe w x=(c:Rat)*pe W x)(d2:Dv G (dl W))(hS:∀ x,pe W x=pe S x*pe G x)(ch:PCh (S::t))
 (hd:∀ Q t',t=Q::t'->∃ c:Int,0<c/\∀ x,pd S x=(c:Rat)*pe Q x) (h0:t=[]->S.length<=1):Sq w S t:=by
 obtain ⟨N,e,i,g⟩:=d2
 refine ⟨ch,⟨G,c,N,R6 c e,hc,i,fun x=>by rw [hW,hS],fun x=>?_⟩,hd,fun d=>?_⟩
 ·have a:pd w x=(c:Rat)*pd W x:=by
   have:=He (w:=w) (S:=[1]) (G:=W) (c:=(c:Rat)) (fun x=>by
    have e:((1:Int):Rat)=1:=rfl
    rw [hW];simp only [pe,e];grind) x
   have e:((1:Int):Rat)=1:=rfl
   rw [this];simp only [pe,pd,e];grind
  have:=g x
  rw [Jb] at this
  rw [a,G9]
  have q:(N:Rat)*((c:Rat)*pd W x)=(c:Rat)*((N:Rat)*pd W x):=gz0
  rw [q,this];grind
 ·have b:=h0 d
  match S,b with
  | [],_=>exact ⟨0,fun x=>rfl⟩
  | [s],_=>exact ⟨s,fun x=>by simp only [pe];grind⟩
end Go.Proofs.YtbgkfnjmcjfokaaGreatDoor
namespace Go.Proofs.YtbgkfnjmcjfokaaGreatDoor
set_option maxRecDepth 20000
def pwx(x:Rat):Nat->Rat
 | 0=>1
 | n+1=>x*pwx x n
def A8w(x:Rat)(m n:Nat):pwx x (m+n)=pwx x m*pwx x n:=by
 induction m with
 | zero=>rw [bI];simp only [pwx];grind
 | succ m ih=>rw [Nat.succ_add];simp only [pwx,ih];grind
def ps(z:Nat->Int)(x:Rat):Nat->Rat
 | 0=>0
 | n+1=>ps z x n+(z n:Rat)*pwx x n
def A4v{z y:Nat->Int}{x:Rat}: ∀ {n:Nat},(∀ i,i<n->z i=y i)->ps z x n=ps y x n:=by
 intro n
 induction n with
 | zero=>intro _;rfl
 | succ n ih=>intro h;simp only [ps];rw [ih fun i a=>h i o,h n o]
def B7n(z:Nat->Int)(x:Rat):∀ n,ps z x (n+1)=(z 0:Rat)+x*ps (fun i=>z (i+1)) x n:=by
 intro n
 induction n with
 | zero=>simp only [ps,pwx];grind
 | succ n ih=>
  rw [ps,ih]
  simp only [ps,pwx];grind
def A0o:∀ (w:List Int) (x:Rat),ps (cf w) x w.length=pe w x:=by
 intro w
 induction w with
 | nil=>intro x;rfl
 | cons c w ih=>
  intro x
  rw [aL,B7n]
  simp only [pe]
  rw [<- ih x]
  rfl
def A90(z:Nat->Int)(n:Nat)(x:Rat):pe ((List.range n).map z) x=ps z x n:=by
 rw [<- A0o,List.length_map,List.length_range]
 exact A4v fun i a=>by simp [cf,aH,a]
def A1o(z:Nat->Int){n i:Nat}(hi:i<n):cf ((List.range n).map z) i=z i:=by
 simp [cf,aH,hi]
def A5d{w:List Int}{i:Nat}(h:w.length<=i):cf w i=0:=by
 simp only [cf,aH];rw [cL h];rfl
def A0p{z y u:Nat->Int}{x:Rat}{a b:Int}: ∀ {n:Nat},(∀ i,i<n->u i=a*z i+b*y i)->ps u x n=(a:Rat)*ps z x n+(b:Rat)*ps y x n:=by
 intro n
 induction n with
 | zero=>intro _;simp only [ps];grind
 | succ n ih=>
  intro h
  simp only [ps]
  rw [ih fun i c=>h i o,h n o,aX,aF,aF]
  grind
def Xn{v u:Nat->Int}{x:Rat}{k:Nat}(h0:∀ i,i<k->u i=0):∀ {n:Nat},(∀ i,i<n->u (k+i)=v i)->ps u x (k+n)=pwx x k*ps v x n:=by
 intro n
 induction n with
 | zero=>
  intro _
  have:∀ m,m<=k->ps u x m=0:=by
   intro m
   induction m with
   | zero=>intro _;rfl
   | succ m ih=>
    intro a
    have e:((0:Int):Rat)=0:=rfl
    simp only [ps];rw [ih o,h0 m o,e];grind
  rw [dP,this k (aJ _)]
  simp only [ps];grind
 | succ n ih=>
  intro h
  rw [<- Nat.add_assoc]
  simp only [ps]
  rw [ih fun i b=>h i o,h n o,A8w]
  grind
def Xm{z:Nat->Int}{x:Rat}{m:Nat}: ∀ {k:Nat},(∀ i,m<=i->i<m+k->z i=0)->ps z x (m+k)=ps z x m:=by
 intro k
 induction k with
 | zero=>intro _;rfl
 | succ k ih=>
  intro h
  have e:((0:Int):Rat)=0:=rfl
  rw [<- Nat.add_assoc,ps,ih fun i a b=>h i a o,h (m+k) o o,e]
  grind
def B7p{r s v:Nat->Int}{x:Rat}{n k:Nat}{lead top:Int}(hl:lead=v n)(ht:top=r (n+k))(hs:∀ i,i<n+k->s i=r i*lead-(if k<=i then top*v (i-k) else 0)):
 (lead:Rat)*ps r x (n+k+1)=ps s x (n+k)+(top:Rat)*(pwx x k*ps v x (n+1)):=by
 have e:ps s x (n+k)=(lead:Rat)*ps r x (n+k)+((-1:Int):Rat)*ps (fun i=>if k<=i then top*v (i-k) else 0) x (n+k):=A0p fun i b=>by rw [hs i b,bM];omega
 have a:ps (fun i=>if k<=i then top*v (i-k) else 0) x (k+n)=pwx x k*ps (fun i=>top*v i) x n:=Xn (fun i b=>iN o) fun i _=>by rw [iP o,dM]
 have g:ps (fun i=>top*v i) x n=(top:Rat)*ps v x n+((0:Int):Rat)*ps v x n:=A0p fun i _=>by omega
 rw [dR k n] at a
 rw [e,a,g]
 have c:((0:Int):Rat)=0:=rfl
 have d:((-1:Int):Rat)= -1:=rfl
 simp only [ps,A8w,<- hl,<- ht,c,d]
 grind
def C1i{q u:Nat->Int}{x:Rat}{n k:Nat}{a t:Int}(hk:k<n)(hu:∀ i,i<n->u i=a*q i+(if i=k then t else 0)):ps u x n=(a:Rat)*ps q x n+(t:Rat)*pwx x k:=by
 have d:ps u x n=(a:Rat)*ps q x n+((1:Int):Rat)*ps (fun i=>if i=k then t else 0) x n:=A0p fun i c=>by rw [hu i c];omega
 have b:ps (fun i=>if i=k then t else 0) x (k+1+(n-(k+1)))=ps (fun i=>if i=k then t else 0) x (k+1):=Xm fun i d b=>iN o
 have g:ps (fun i=>if i=k then t else 0) x (k+1)=pwx x k*ps (fun _=>t) x 1:=Xn (fun i c=>iN o) fun i c=>by rw [iP o]
 rw [show k+1+(n-(k+1))=n from o,g] at b
 rw [d,b]
 have e:((1:Int):Rat)=1:=rfl
 simp only [ps,pwx,e];grind
end Go.Proofs.YtbgkfnjmcjfokaaGreatDoor
namespace Go.Proofs.YtbgkfnjmcjfokaaGreatDoor
set_option maxRecDepth 20000
def PF(f:Rat->Rat):Prop:=∃ (N:Int) (e:List Int),N≠0/\∀ x,(N:Rat)*f x=pe e x
def PF.po(w:List Int):PF (pe w):=⟨1,w,dc,fun x=>by
 have e:((1:Int):Rat)=1:=rfl
 rw [e,Rat.one_mul]⟩
def PF.de(w:List Int):PF (pd w):=by
 obtain ⟨N,e,a,h⟩:=PF.po (dl w)
 exact ⟨N,e,a,fun x=>by rw [<- Jb,h]⟩
def PF.int(k:Int):PF fun _=>(k:Rat):=⟨1,[k],dc,fun x=>by
 have e:((1:Int):Rat)=1:=rfl
 simp only [Go.Proofs.YtbgkfnjmcjfokaaGreatDoor.pe,e];grind⟩
def PF.add{f g:Rat->Rat}(hf:PF f)(hg:PF g):PF fun x=>f x+g x:=by
 obtain ⟨N,e,a,h⟩:=hf
 obtain ⟨M,u,b,k⟩:=hg
 refine ⟨N*M,Ia (R6 M e) (R6 N u),fun z=>by rcases Int.mul_eq_zero.1 z with z|z<;>contradiction,fun x=>?_⟩
 rw [Ey,G9,G9,<- h,<- k,aF];grind
def PF.mul{f g:Rat->Rat}(hf:PF f)(hg:PF g):PF fun x=>f x*g x:=by
 obtain ⟨N,e,a,h⟩:=hf
 obtain ⟨M,u,b,k⟩:=hg
 refine ⟨N*M,Ch e u,fun z=>by rcases Int.mul_eq_zero.1 z with z|z<;>contradiction,fun x=>?_⟩
 rw [O8,<- h,<- k,aF];grind
def Tu{a:List Int}{f g:Rat->Rat}(ha:Nz a)(h1:a≠[])(hf:PF f)(hg:PF g)(h:∀ x,pe a x*f x=pe a x*g x)(x:Rat):f x=g x:=by
 obtain ⟨N,e,l,k⟩:=hf.add ((PF.int (-1)).mul hg)
 have c:((-1:Int):Rat)= -1:=rfl
 have m:trZ e=[]:=by
  by_cases b:trZ e=[]
  ·exact b
  ·exfalso
   obtain ⟨y,j⟩:=(ha.mul (Kz e) h1 b).val (by
    intro z
    have:=(Hk h1 b).1
    rw [z] at this
    have:=List.length_pos_iff.2 h1
    have:=List.length_pos_iff.2 b
    simp at *;omega)
   apply j
   rw [O8,Hc,<- k y]
   have:=h y
   rw [c];grind
 have d:=k x
 rw [<- Hc,m] at d
 have i:f x+((-1:Int):Rat)*g x=0:=by
  have:(N:Rat)*(f x+((-1:Int):Rat)*g x)=0:=d
  exact (Rat.mul_eq_zero.1 this).resolve_left (F6 l)
 rw [c] at i
 grind
def Dv.of{d p:List Int}{g:Rat->Rat}(hg:PF g){K:Int}(hK:K≠0)(h:∀ x,(K:Rat)*pe p x=g x*pe d x):Dv d p:=by
 obtain ⟨N,e,a,k⟩:=hg
 refine ⟨N*K,e,fun z=>by rcases Int.mul_eq_zero.1 z with z|z<;>contradiction,fun x=>?_⟩
 rw [<- k,aF]
 have:=h x
 grind
def lpw(d:List Int):Nat->List Int
 | 0=>[1]
 | k+1=>Ch d (lpw d k)
def Y3(x:Rat):pe [1] x=1:=by
 have e:((1:Int):Rat)=1:=rfl
 simp only [pe,e];grind
def A0u(x:Rat):pd [1] x=0:=by simp only [pe,pd];grind
def C1k(d:List Int):∀ k x,pd (lpw d (k+1)) x=((k+1:Nat):Rat)*(pe (lpw d k) x*pd d x):=by
 intro k
 induction k with
 | zero=>
  intro x
  have:=He (w:=lpw d 1) (S:=d) (G:=[1]) (c:=1) (fun x=>by rw [lpw,lpw,O8];grind) x
  rw [this,Y3,A0u]
  have e:((0+1:Nat):Rat)=1:=rfl
  rw [e]
  simp only [lpw,Y3];grind
 | succ k ih=>
  intro x
  have:=He (w:=lpw d (k+2)) (S:=d) (G:=lpw d (k+1)) (c:=1) (fun x=>by rw [lpw,O8];grind) x
  rw [this,ih]
  have b:((k+1+1:Nat):Rat)=((k+1:Nat):Rat)+1:=by
   show (((k+1+1:Nat):Int):Rat)=_
   rw [cK,aX];rfl
  have a:pe (lpw d (k+1)) x=pe d x*pe (lpw d k) x:=by rw [lpw,O8]
  rw [b,a];grind
def C4w{d:List Int}(hd:Nz d)(h2:2<=d.length):∀ (n:Nat) (g:List Int),Nz g->g≠[]->g.length<=n->∃ (k:Nat) (M:List Int) (N:Int),Nz M/\M≠[]/\N≠0/\(∀ x,(N:Rat)*pe g x=pe (lpw d k) x*pe M x)/\¬ Dv d M:=by
 have q:d≠[]:=by rintro rfl;simp at h2
 intro n
 induction n with
 | zero=>intro g _ h B;exact absurd (aP o) h
 | succ n ih=>
  intro g b j E
  by_cases l:Dv d g
  ·obtain ⟨N,e,m,h⟩:=l
   have c:trZ e≠[]:=fun z=>by
    obtain ⟨y,s⟩:=b.val j
    apply s
    have:=h y
    rw [<- Hc e,z] at this
    have w:(N:Rat)*pe g y=0:=by rw [this];simp only [pe];grind
    exact (Rat.mul_eq_zero.1 w).resolve_left (F6 m)
   have D:=Sk m b (Kz e) hd c q (fun x=>by rw [Hc];exact h x)
   obtain ⟨k,M,P,A,r,C,p,a⟩:=ih (trZ e) (Kz e) c o
   refine ⟨k+1,M,N*P,A,r,fun z=>by rcases Int.mul_eq_zero.1 z with z|z<;>contradiction,fun x=>?_,a⟩
   have u:=h x
   have i:=p x
   rw [Hc] at i
   rw [lpw,O8,aF]
   have:(N:Rat)*(P:Rat)*pe g x=(P:Rat)*((N:Rat)*pe g x):=gz0
   rw [this,u,show (P:Rat)*(pe e x*pe d x)=((P:Rat)*pe e x)*pe d x from gz0,i];grind
  ·exact ⟨0,g,1,b,j,dc,fun x=>by
    have e:((1:Int):Rat)=1:=rfl
    simp only [lpw,Y3,e],l⟩
def B5t{d:List Int}(hd:Nz d)(d0:d≠[]):∀ k,Nz (lpw d k)/\lpw d k≠[]:=by
 intro k
 induction k with
 | zero=>exact ⟨fun _=>by simp [lpw],by simp [lpw]⟩
 | succ k ih=>
  refine ⟨hd.mul ih.1 d0 ih.2,fun z=>?_⟩
  have:=(Hk d0 ih.2).1
  rw [lpw] at z
  rw [z] at this
  have:=List.length_pos_iff.2 d0
  have:=List.length_pos_iff.2 ih.2
  simp at *;omega
def A5t{W S G D:List Int}(hG:Nz G)(G0:G≠[])(hWS:∀ x,pe W x=pe S x*pe G x)(hW':Dv G (dl W))
 (bez:∃ (N:Int) (α β:Rat->Rat),N≠0/\PF α/\PF β/\∀ x,(N:Rat)*pe G x=α x*pe W x+β x*pd W x)
 (hD:Nz D) (d1:Dv D S) (d2:Dv D (dl S)):D.length<=1:=by
 by_cases O:D.length<=1
 ·exact O
 exfalso
 have D0:D≠[]:=by rintro rfl;simp at O
 obtain ⟨Nh,b,nh,hh⟩:=hW'
 obtain ⟨NB,α,β,nb,pα,pβ,T⟩:=bez
 obtain ⟨N1,a,n1,B⟩:=d1
 obtain ⟨N2,l,n2,H⟩:=d2
 obtain ⟨k,M,NG,hM,M0,ng,A,L⟩:=C4w hD o G.length G hG G0 (aJ _)
 have pW:∀ x,pd W x=pd S x*pe G x+pe S x*pd G x:=fun x=>by
  have:=He (w:=W) (S:=S) (G:=G) (c:=1) (fun x=>by rw [hWS];grind) x
  rw [this];grind
 have m:∀ x,(Nh:Rat)*pd W x=pe b x*pe G x:=fun x=>by rw [<- Jb,hh]
 have bz:∀ x,(NB:Rat)*(Nh:Rat)=(Nh:Rat)*α x*pe S x+β x*pe b x:=by
  refine Tu hG G0 ((PF.int NB).mul (PF.int Nh)) (((((PF.int Nh).mul pα).mul (PF.po S)).add (pβ.mul (PF.po b)))) fun x=>?_
  have d:=T x
  have y:=m x
  rw [hWS] at d
  have:pe G x*((NB:Rat)*(Nh:Rat))=(Nh:Rat)*((NB:Rat)*pe G x):=gz0
  rw [this,d]
  have:(Nh:Rat)*(α x*(pe S x*pe G x)+β x*pd W x)=(Nh:Rat)*α x*pe S x*pe G x+β x*((Nh:Rat)*pd W x):=gz0
  rw [this,y];grind
 have r: ∀ x,(Nh:Rat)*(pe S x*pd G x)=pe G x*(pe b x-(Nh:Rat)*pd S x):=fun x=>by
  have d:=m x
  rw [pW] at d
  grind
 have dS:∀ x,(N1:Rat)*pd S x=pd a x*pe D x+pe a x*pd D x:=fun x=>by
  have:=He (w:=R6 N1 S) (S:=a) (G:=D) (c:=1) (fun x=>by rw [G9,B];grind) x
  have q:=He (w:=R6 N1 S) (S:=[1]) (G:=S) (c:=(N1:Rat)) (fun x=>by rw [G9,Y3];grind) x
  rw [this,Y3,A0u] at q
  grind
 have s:∀ x,(N2:Rat)*pd S x=pe l x*pe D x:=fun x=>by rw [<- Jb,H]
 have V:∀ x,(N2:Rat)*(pe a x*pd D x)=pe D x*((N1:Rat)*pe l x-(N2:Rat)*pd a x):=fun x=>by
  have d:=dS x
  have y:=s x
  have:(N2:Rat)*((N1:Rat)*pd S x)=(N1:Rat)*((N2:Rat)*pd S x):=gz0
  rw [d,y] at this
  grind
 have p:∃ i:Rat,PF (fun _:Rat=>i)/\∀ x,(Nh:Rat)*(pe a x*(i*(pd D x*pe M x)+pe D x*pd M x))=(N1:Rat)*(pe M x*(pe b x-(Nh:Rat)*pd S x)):=by
  cases k with
  | zero=>
   refine ⟨0,⟨1,[],dc,fun x=>by simp only [pe];grind⟩,fun x=>?_⟩
   have d:=r x
   have n:=A x
   have u:(NG:Rat)*pd G x=pd M x:=by
    have q:=He (w:=M) (S:=[1]) (G:=G) (c:=(NG:Rat)) (fun x=>by
     have:=A x
     rw [lpw,Y3] at this
     rw [Y3];grind) x
    rw [Y3,A0u] at q
    grind
   rw [lpw,Y3] at n
   have c1:=B x
   have:(N1:Rat)*((NG:Rat)*((Nh:Rat)*(pe S x*pd G x)))=(Nh:Rat)*(((N1:Rat)*pe S x)*((NG:Rat)*pd G x)):=gz0
   rw [d,c1,u] at this
   have E:(N1:Rat)*((NG:Rat)*(pe G x*(pe b x-(Nh:Rat)*pd S x)))=(N1:Rat)*(((NG:Rat)*pe G x)*(pe b x-(Nh:Rat)*pd S x)):=gz0
   rw [E,n] at this
   grind
  | succ j=>
   obtain ⟨lz,l0⟩:=B5t hD D0 j
   have F:=hD.mul lz D0 l0
   have l1:Ch D (lpw D j)≠[]:=(B5t hD D0 (j+1)).2
   have C:PF fun _:Rat=>((j+1:Nat):Rat):=PF.int ((j+1:Nat):Int)
   refine ⟨((j+1:Nat):Rat),C,Tu F l1 ((PF.int Nh).mul ((PF.po a).mul ((C.mul ((PF.de D).mul (PF.po M))).add ((PF.po D).mul (PF.de M))))) ((PF.int N1).mul ((PF.po M).mul (by
    have:=(PF.po b).add ((PF.int (-Nh)).mul (PF.de S))
    obtain ⟨N,e,n0,h⟩:=this
    exact ⟨N,e,n0,fun x=>by rw [<- h,cJ];grind⟩))) fun x=>?_⟩
   have d:=r x
   have n:=A x
   have u:(NG:Rat)*pd G x=pd (lpw D (j+1)) x*pe M x+pe (lpw D (j+1)) x*pd M x:=by
    have q:=He (w:=R6 NG G) (S:=lpw D (j+1)) (G:=M) (c:=1) (fun x=>by rw [G9,A];grind) x
    have q2:=He (w:=R6 NG G) (S:=[1]) (G:=G) (c:=(NG:Rat)) (fun x=>by rw [G9,Y3];grind) x
    rw [q,Y3,A0u] at q2
    grind
   rw [C1k] at u
   have e3:pe (lpw D (j+1)) x=pe D x*pe (lpw D j) x:=by rw [lpw,O8]
   rw [e3] at n u
   rw [O8]
   have c1:=B x
   have:(N1:Rat)*((NG:Rat)*((Nh:Rat)*(pe S x*pd G x)))=(Nh:Rat)*(((N1:Rat)*pe S x)*((NG:Rat)*pd G x)):=gz0
   rw [d,c1,u] at this
   have E:(N1:Rat)*((NG:Rat)*(pe G x*(pe b x-(Nh:Rat)*pd S x)))=(N1:Rat)*(((NG:Rat)*pe G x)*(pe b x-(Nh:Rat)*pd S x)):=gz0
   rw [E,n] at this
   grind
 obtain ⟨i,C,hm⟩:=p
 apply L
 have K0:N2*N1*(NB*Nh)≠0:=fun z=>by
  rcases Int.mul_eq_zero.1 z with z|z
  ·rcases Int.mul_eq_zero.1 z with z|z<;>contradiction
  ·rcases Int.mul_eq_zero.1 z with z|z<;>contradiction
 refine Dv.of (g:=fun x=>(N2:Rat)*((Nh:Rat)*(α x*(pe a x*pe M x)))+β x*((Nh:Rat)*(i*(pe M x*((N1:Rat)*pe l x+((-N2:Int):Rat)*pd a x)))+((N2:Rat)*((Nh:Rat)*(pe a x*pd M x))+(N1:Rat)*((Nh:Rat)*(pe M x*pe l x)))))
  (((PF.int N2).mul ((PF.int Nh).mul (pα.mul ((PF.po a).mul (PF.po M))))).add (pβ.mul (((PF.int Nh).mul (C.mul ((PF.po M).mul (((PF.int N1).mul (PF.po l)).add ((PF.int (-N2)).mul (PF.de a)))))).add (((PF.int N2).mul ((PF.int Nh).mul ((PF.po a).mul (PF.de M)))).add ((PF.int N1).mul ((PF.int Nh).mul ((PF.po M).mul (PF.po l)))))))) K0 fun x=>?_
 have d:=bz x
 have y:=hm x
 have a3:=V x
 have a4:=s x
 have a5:=B x
 rw [aF,aF,aF,cJ,d]
 have s1:(N2:Rat)*(N1:Rat)*((Nh:Rat)*α x*pe S x+β x*pe b x)*pe M x=(N2:Rat)*((Nh:Rat)*(α x*(((N1:Rat)*pe S x)*pe M x)))+β x*((N2:Rat)*((N1:Rat)*(pe M x*pe b x))):=gz0
 have X:(N2:Rat)*((N1:Rat)*(pe M x*pe b x))=(N2:Rat)*((N1:Rat)*(pe M x*(pe b x-(Nh:Rat)*pd S x)))+(N1:Rat)*((Nh:Rat)*(pe M x*((N2:Rat)*pd S x))):=gz0
 have s3:(N2:Rat)*((Nh:Rat)*(pe a x*(i*(pd D x*pe M x)+pe D x*pd M x)))=(Nh:Rat)*(i*(pe M x*((N2:Rat)*(pe a x*pd D x))))+(N2:Rat)*((Nh:Rat)*(pe a x*(pe D x*pd M x))):=gz0
 rw [s1,X,<- y,s3,a3,a4,a5]
 grind
end Go.Proofs.YtbgkfnjmcjfokaaGreatDoor
namespace Go.Proofs.YtbgkfnjmcjfokaaGreatDoor
set_option maxRecDepth 20000
section
variable {a b:Rat}
def Vn(l:List (List Int))(x:Rat):Nat:=chg 0 (Vs l x)
def A6u:∀ (l:List Int) (s e:Int),(s=1\/s= -1)->(e=1\/e= -1)->(∀ x∈l,x=1\/x= -1\/x=0)->(chg s (l++[e])%2=0↔s=e):=by
 intro l
 induction l with
 | nil=>
  intro s e c a _
  rcases c with rfl|rfl<;>rcases a with rfl|rfl<;>simp [chg]
 | cons x l ih=>
  intro s e c a d
  have b: ∀ y∈l,y=1\/y= -1\/y=0:=fun y g=>d y (List.mem_cons_of_mem _ g)
  rcases d x List.mem_cons_self with rfl|rfl|rfl
  ·have:=ih 1 e (.inl rfl) a b
   rw [cF,Fp dc]
   rcases c with rfl|rfl<;>rcases a with rfl|rfl<;>simp at this ⊢ <;> omega
  ·have:=ih (-1) e (.inr rfl) a b
   rw [cF,Fp dc]
   rcases c with rfl|rfl<;>rcases a with rfl|rfl<;>simp at this ⊢ <;> omega
  ·have:=ih s e c a b
   rw [cF,chg,iP rfl]
   exact this
def B4t(t:List (List Int)):∀ (S:List Int) (x:Rat),∃ l,Vs (S::t) x=l++[sgR (pe (Ck S t) x)]/\(∀ y∈l,y=1\/y= -1\/y=0)/\(t≠[]->∃ l',l=sgR (pe S x)::l'):=by
 induction t with
 | nil=>intro S x;exact ⟨[],rfl,fun y a=>(by cases a),fun h=>absurd rfl h⟩
 | cons Q t ih=>
  intro S x
  obtain ⟨l,b,c,_⟩:=ih Q x
  refine ⟨sgR (pe S x)::l,?_,fun y a=>?_,fun _=>⟨l,rfl⟩⟩
  ·show sgR (pe S x)::Vs (Q::t) x=_
   rw [b];rfl
  ·rcases List.mem_cons.1 a with rfl|a
   ·exact D9 _
   ·exact c y a
def B3h{S Q:List Int}{t:List (List Int)}{x y:Rat}(hD:sgR (pe (Ck S (Q::t)) x)=sgR (pe (Ck S (Q::t)) y))(hD0:sgR (pe (Ck S (Q::t)) x)≠0)(hx:pe S x≠0)(hy:pe S y≠0)(h:Vn (S::Q::t) x=Vn (S::Q::t) y+1):sgR (pe S x)*sgR (pe S y)= -1:=by
 have a:∀ z,pe S z≠0->sgR (pe (Ck S (Q::t)) z)≠0->(Vn (S::Q::t) z%2=0↔sgR (pe S z)=sgR (pe (Ck S (Q::t)) z)):=by
  intro z n s
  obtain ⟨l,i,e,j⟩:=B4t (Q::t) S z
  obtain ⟨g,rfl⟩:=j (by simp)
  have nz:sgR (pe S z)≠0:=fun q=>n (N7.1 q)
  have w:=D9 (pe S z)
  have p:=D9 (pe (Ck S (Q::t)) z)
  unfold Vn
  rw [i,cF,Fp nz,iN o,bI]
  exact A6u g _ _ o o fun y hy=>e y (List.mem_cons_of_mem _ hy)
 have c:=a x hx hD0
 have b:=a y hy (by rw [<- hD];exact hD0)
 have A:sgR (pe S x)≠0:=fun q=>hx (N7.1 q)
 have r:sgR (pe S y)≠0:=fun q=>hy (N7.1 q)
 have k:=D9 (pe S x)
 have m:=D9 (pe S y)
 have d:=D9 (pe (Ck S (Q::t)) x)
 rw [<- hD] at b
 rcases k with z|z|z<;>rcases m with y|y|y<;>rcases d with u|u|u<;>rw [z,u] at c<;>rw [y,u] at b<;>rw [z,y]<;>simp at c b ⊢ <;> omega
end
