/- A part. -/
import Derived.Test.YtmbfcbbkbefgfaaGreatDoorG22
import Derived.Test.YtmbfcbbkbefgfaaGreatDoorG21
import Derived.Test.YtmbfcbbkbefgfaaGreatDoorG20
open Go.Proofs.Tryz
set_option linter.all false
open _root_.Array renaming replicate->bN
open Bool renaming eq_iff_iff->cJ
open _root_.Go.Builtin renaming zeroCells->bU,append_->bZ
open _root_.ByteArray renaming size->dF
open Int renaming toNat_natCast->aC,natAbs_natCast->aK,natCast_pow->aR,natCast_mul->aU,sign_eq_one_of_pos->bA,gcd->bI,pow_succ->bM,ofNat_tdiv->bX,mul_le_mul_of_nonneg_right->cG,tmod->cM,sign_eq_neg_one_of_neg->cN,ofNat_tmod->dE,tdiv->dI,le_of_lt->dJ,natCast_ediv->dM,pow_pos->dP,natCast_add->dR,mul_ne_zero->dS,tdiv_eq_ediv_of_dvd->eD,gcd_natCast_natCast->eE
open List renaming length_append->aD,replicate->aE,eq_nil_of_length_eq_zero->aF,take_of_length_le->aG,getElem?_cons_zero->aH,getElem?_cons_succ->aJ,length_take->aL,append_assoc->aO,getElem?_eq_getElem->aT,length_drop->aX,drop_zero->bC,take_append_drop->bO,mem_of_mem_take->bV,exists_cons_of_ne_nil->bW,append_nil->bY,take_succ_eq_append_getElem->cC,drop_of_length_le->cD,takeWhile_append_dropWhile->cF,take_append_of_le_length->cH,drop_eq_getElem_cons->cP,take_append->cR,getElem_mem->cT,map_append->cW,length_map->cX,head?_cons->cY,length_singleton->cZ,length->dD,take_replicate->dG,length_cons->dK,getElem_map->dL,length_nil->dQ,getLast?_eq_getElem?->dV,getLast?_singleton->eB,append_cancel_left->eC,takeWhile_sublist->eI
open List.cons renaming injEq->aI
open Nat renaming pow_le_pow_right->aN,lt_of_lt_of_le->aW,mul_one->aY,min_eq_left->aZ,div_le_self->bF,gcd->bH,le_refl->bJ,sub_zero->bK,le_trans->bL,pow_succ->cA,pow_le_pow_left->cK,add_sub_cancel->cL,gcd_dvd_right->cQ,pow_pos->dB,div_one->dC,pow_mul->dN,pow_add->dO,le_of_dvd->dX,gcd_pos_of_pos_right->dY,add_sub_cancel_left->eA,zero_add->eF,mul_comm->eG
open Option.some renaming injEq->bG
open Rat renaming divInt->cU,num_eq_zero->cV,lt_iff->dH,add->dT,ceil_eq_neg_floor_neg->dU
open _root_.Go.Value renaming int->bB,agg->dZ
open _root_.Go.Value.int renaming injEq->aP
open _root_.Go.Value.slice renaming injEq->aS
open _root_.Go renaming Addr->aQ,TypeId->bD,Value->cO
open _root_.Go.Proofs.YtmbfcbbkbefgfaaGreatDoor renaming FCall->aM,Heap->aV,Priv->cI
namespace Go.Proofs.YtmbfcbbkbefgfaaGreatDoor
set_option maxRecDepth 20000
open Go
def A4w{ws:List Int}{k:Nat}(d:Dig b64 ws)(hl:ws.length=k+1)(h:b64^k<=val b64 ws):Norm ws:=by
 unfold Norm
 intro e
 rw [dV,hl,cL] at e
 have:=(Gr (B:=b64) (by decide) d hl).1
 have a:ws.getD k 0=0:=by simp [List.getD,e]
 rw [a] at this
 omega
section
variable {h g:aV} {K:VP} {A B:Option aQ} {ac bc:Nat}
def B27{Invv:LP}{muv:LN}{d1:ByteArray}{n c:Nat}{chunk base:Int}{us:List Int}{hp hp2:aV}(p:Pw hp2 g A n c us)(hn:n=us.length)(du:Dig b64 us)(nu:Norm us)(hl:n<=100000000)(hch:0<=chunk/\chunk<18446744073709551616)(hba:1<=base/\base<18446744073709551616)
 (hK:∀ A' n' c' us' h' g',g.le g'->Pw h' g' A' n' c' us'->n'=us'.length->n'<=n+1->Dig b64 us'->Norm us'->val b64 us'=chunk+base*val b64 us->Invv [.string ((d1).extract ((B4 ((cM (B4 (((dF d1:Nat):Int)-(1:Int))) (19:Int))+(1:Int))).toNat) ((d1).size)),.slice A' n' c'] h'/\muv [.string ((d1).extract ((B4 ((cM (B4 (((dF d1:Nat):Int)-(1:Int))) (19:Int))+(1:Int))).toNat) ((d1).size)),.slice A' n' c'] h'<muv [.string d1,.slice A n c] hp):
 T5 prog Invv muv d1 A n c chunk base hp hp2:=by
 have E:=C1 (by decide) du
 unfold T5
 refine ⟨fun l o=>∃ (k:Nat) (j:Int) (d:List Int),l=[U j,I k]/\k<=n/\(0<=j/\j<18446744073709551616)/\d.length=us.length/\Dig b64 d/\Pw o g A n c d/\d.drop k=us.drop k/\val b64 (d.take k)+b64^k*j=chunk+base*val b64 (us.take k),fun l _=>n-(iAt l 1).toNat,⟨0,chunk,us,rfl,by omega,hch,rfl,du,p,rfl,by simp [val]⟩,?_⟩
 rintro j i o ⟨k,J,d,H,hk,s,e,z,pw,y,C⟩
 obtain ⟨rfl,rfl⟩:j=J/\i=(k:Int):=by simpa using H
 refine B3 (fun h1=>?_) (fun h1=>?_)
 ·have Q:=J5 z k
  have F:=G6 y
  have S:=C6 b64 us k
  have B:d≠[]:=by rintro rfl;simp at e;omega
  obtain ⟨b,O,w,hc⟩:=Dg pw B
  refine w.sl.load (by omega) (by omega) (by omega) ?_
  simp only [aC]
  generalize hx:d.getD k 0=x at *
  refine Q0 Q (by omega) s ⟨_,_,rfl,?_⟩
  obtain ⟨a,R,_⟩:=SlV.at w.sl (i:=k) (by simp;omega)
  refine ⟨a,R,by omega,by omega,w.storeN E2 R (by omega) ?_⟩
  intro h4 w4
  have V:=Jz Q (show 0<=base/\base<18446744073709551616 by omega) s
  have W:=Zn (x*base+j)
  have ek:B4 ((k:Int)+1)=((k+1:Nat):Int):=by rw [B5 (by omega) (by omega)];omega
  rw [ek]
  have L:=w4.priv (m:=n) (c:=c) (by intro T;have:=congrArg dD T;rw [List.length_set,dQ] at this;exact B (aF this)) (by simpa using hc) (by simp;omega)
  rw [aG (by simp;omega)] at L
  refine ⟨⟨k+1,_,_,rfl,by omega,V,by simpa using e,z.set (Cs _),L,?_,?_⟩,by simp only [iAt,aH,aJ];omega⟩
  ·rw [E5 (by omega)];exact F1 y
  ·rw [D5 (by omega),G2,aL,aZ (by omega),bM,S,<- F,W]
   show _+b64^k*_+b64^k*18446744073709551616*_=_
   generalize (x*base+j)/18446744073709551616=q at *
   grind
 ·obtain rfl:k=n:=by omega
  rw [aG (show d.length<=k by omega),aG (show us.length<=k by omega)] at C
  refine J9 (fun D=>?_) (fun D=>?_)
  ·refine Fg K9 pw rfl rfl (by omega) (by omega) ?_
   intro A5 X Z g5 l5 N
   rw [<- List.map_singleton (f:=bB .u64),<- cW] at N
   refine hK A5 (k+1) X (d++[j]) Z g5 l5 N (by simp;omega) (by omega) (z.append (Dig.one s)) ?_ ?_
   ·unfold Norm;simpa using D
   ·rw [G2,<- C,e,<- hn]
  ·subst D
   rw [Int.mul_zero,Int.add_zero] at C
   refine hK A k c d o g (B0 _) pw (by omega) (by omega) z ?_ C
   rcases us with _|⟨u,r⟩
   ·have:d=[]:=aF (by simpa using e)
    rw [this];exact Norm.nil
   ·refine A4w (k:=r.length) z (by simpa using e) ?_
    have M:Mw hp2 A k (val b64 (u::r)):=⟨_,hn,p.slV,du,nu,rfl⟩
    have G:=M.ge (by decide) (by simp at hn;omega)
    rw [show k-1=r.length by simp at hn;omega] at G
    have:1*val b64 (u::r)<=base*val b64 (u::r):=cG hba.1 E
    omega
end
section
variable {h g:aV} {K:VP} {A B:Option aQ} {ac bc:Nat}
def B33{k:Nat}(h:k<=19):10^k<=10000000000000000000:=bL (aN (by decide) h) (by decide)
def A5a{Invv:LP}{muv:LN}{d1:ByteArray}{n c tn:Nat}{T:Option aQ}{l:List UInt8}{hp hp1:aV}(sv:SlV hp1 T (yv l))(ht:tn=l.length)(hd:∀ c∈l,H0 c)(h19:l.length<=19)
 (hK:(0<=B4 ((cM (B4 (((dF d1:Nat):Int)-(1:Int))) (19:Int))+(1:Int))/\B4 ((cM (B4 (((dF d1:Nat):Int)-(1:Int))) (19:Int))+(1:Int))<=(((d1).size:Nat):Int))/\T5 prog Invv muv d1 A n c (N2 l:Int) ((10^l.length:Nat):Int) hp hp1):
 Cd prog Invv muv d1 A n c T tn hp1 hp:=by
 subst ht
 unfold Cd
 refine ⟨fun s hp=>hp=hp1/\∃ k:Nat,s=[U (N2 (l.take k)),U ((10^k:Nat):Int),I k]/\k<=l.length,fun s _=>l.length-(iAt s 2).toNat,⟨rfl,0,by simp [N2],by omega⟩,?_⟩
 rintro z C i x ⟨rfl,k,d,B⟩
 simp only [aI,aP,and_true,true_and] at d
 obtain ⟨rfl,rfl,rfl⟩:=d
 refine B3 (fun y=>?_) (fun y=>?_)
 ·have b:k<l.length:=by omega
  obtain ⟨a,q,j⟩:=SlV.at sv (i:=k) (by rw [Ey];omega)
  have m:=hd l[k] (cT b)
  have e:=It (l:=l.take k) (fun c j=>hd c (bV j))
  rw [aL,aZ (by omega)] at e
  have r:=B33 (k:=k+1) (by omega)
  have g:10^(k+1)=10^k*10:=cA _ _
  refine ⟨a,q,by omega,by omega,((l[k].toNat:Nat):Int),?_,?_⟩
  ·rw [aC,aY,j];simp [yv]
  ·unfold H0 at m
   have o:C0 (wu8 (((l[k].toNat:Nat):Int)-48))=((l[k].toNat-48:Nat):Int):=by
    rw [A37 (by omega) (by omega),C2 (by omega) (by omega)];omega
   have u:C0 (C0 (10*((N2 (l.take k):Nat):Int))+C0 (wu8 (((l[k].toNat:Nat):Int)-48)))=((N2 (l.take (k+1)):Nat):Int):=by
    rw [o,C2 (n:=10*((N2 (l.take k):Nat):Int)) (by omega) (by omega),C2 (by omega) (by omega),cC b,Kl];omega
   have p:C0 (((10^k:Nat):Int)*10)=((10^(k+1):Nat):Int):=by rw [C2 (by omega) (by omega),g];simp
   have w:B4 ((k:Int)+1)=((k+1:Nat):Int):=by rw [B5 (by omega) (by omega)];omega
   rw [u,p,w]
   exact ⟨⟨rfl,k+1,rfl,by omega⟩,by simp only [iAt,aH,aJ];omega⟩
 ·obtain rfl:k=l.length:=by omega
  rw [List.take_length]
  exact hK
def Oi{l:List UInt8}(hd:∀ c∈l,H0 c)(hl:l.length<=100000000)(hK:∀ A n c h',h.le h'->n<=c->Mw h' A n (N2 l:Int)->K (.slice A n c) h'):aM prog J0 #[.string (bs l)] h K:=by
 refine Rw _ ?_
 unfold Nz Ia
 refine ⟨fun s L=>∃ (i a:List UInt8) (e:List Int) (A:Option aQ) (n c:Nat) (g:aV),s=[.string (bs a),.slice A n c]/\l=i++a/\h.le g/\Pw L g A n c e/\n=e.length/\Dig b64 e/\Norm e/\val b64 e=(N2 i:Int)/\n<=i.length,fun s _=>match s with|[.string d,_]=>d.size|_=>0,⟨[],l,[],none,0,0,h,rfl,rfl,B0 h,Priv.nil _ _ _ _,rfl,Dig.nil,Norm.nil,rfl,by omega⟩,?_⟩
 rintro d1 A1 n1 c1 L ⟨i,a,e,A2,n2,c2,g,E,b,C,p,M,G,H,J,R⟩
 simp only [aI,aS,Value.string.injEq,and_true] at E
 obtain ⟨rfl,rfl,rfl,rfl⟩:=E
 have D:l.length=i.length+a.length:=by rw [b,aD]
 rw [L7]
 refine B3 (fun Z=>?_) (fun Z=>?_)
 ·obtain ⟨sz,hsz⟩:∃ sz,sz=(a.length-1)%19+1:=⟨_,rfl⟩
  have u:B4 (cM (B4 ((a.length:Int)-1)) 19+1)=(sz:Int):=by
   rw [B5 (n:=(a.length:Int)-1) (by omega) (by omega),Int.tmod_eq_emod_of_nonneg (by omega),B5 (by omega) (by omega)];omega
  rw [u,aC,O9]
  refine ⟨⟨by omega,by omega⟩,A4k T8 Fe.und Cn ?_⟩
  intro T tc h2 S aa F
  refine ⟨_,_,_,rfl,?_⟩
  have O:(a.drop 0).take (sz-0)=a.take sz:=by simp
  rw [O] at F ⊢
  have B:(a.take sz).length=sz:=by rw [aL];omega
  obtain ⟨g2,o,X⟩:=p.after S
  refine A5a F rfl (fun c y=>hd c (by rw [b];exact List.mem_append_right _ (bV y))) (by omega) ?_
  rw [L7,u]
  refine ⟨⟨by omega,by omega⟩,?_⟩
  have r:=It (l:=a.take sz) (fun c y=>hd c (by rw [b];exact List.mem_append_right _ (bV y)))
  rw [B] at r ⊢
  have ht:=B33 (k:=sz) (by omega)
  have Q:0<10^sz:=dB (by decide)
  refine B27 X M G H (by omega) (by omega) (by omega) ?_
  intro A' n' W j h' g' w N q V m x z
  rw [L7,u,aC,O9,aG (by rw [aX];omega)]
  refine ⟨⟨i++a.take sz,a.drop sz,j,A',n',W,g',rfl,by rw [aO,bO];exact b,Heap.le_trans C (Heap.le_trans o w),N,q,m,x,?_,by rw [aD,B];omega⟩,?_⟩
  ·rw [z,J,Iu,B,dR,aU,Int.mul_comm];omega
  ·simp only [L7,aX];omega
 ·have:a=[]:=aF (by omega)
  subst this
  rw [bY] at b
  subst b
  exact hK _ _ _ _ (Heap.le_trans C p.le) p.2.1 ⟨e,M,p.slV,G,H,J⟩
end
def zb(l:List UInt8):List Int:=l.map fun c=>(c.toNat:Int)
def Eu(l:List UInt8):(zb l).length=l.length:=by simp [zb]
def Ym(a b:List UInt8):zb (a++b)=zb a++zb b:=by simp [zb]
def B6z(l:List UInt8):(zb l).map (bB .u8)=yv l:=by simp [zb,yv]
def A4o:∀ v,v<100->G3[2*v+1]? = some (dch (v%10))/\G3[2*v]? = some (dch (v/10)):=by decide +kernel
def Yt(a:Nat):cM (a:Int) 100=((a%100:Nat):Int):=(dE a 100).symm
def tm4(a:Nat):cM (a:Int) 10000=((a%10000:Nat):Int):=(dE a 10000).symm
def tm8(a:Nat):cM (a:Int) 100000000=((a%100000000:Nat):Int):=(dE a 100000000).symm
def A1j(a:Nat):dI (a:Int) 100=((a/100:Nat):Int):=(bX a 100).symm
def td4(a:Nat):dI (a:Int) 10000=((a/10000:Nat):Int):=(bX a 10000).symm
def td8(a:Nat):dI (a:Int) 100000000=((a/100000000:Nat):Int):=(bX a 100000000).symm
def Er{a:Nat}(h:a<4294967296):H4 (a:Int)=a:=A68 (by omega) (by omega)
def Jy(a:Nat):(a:Int)*2=((2*a:Nat):Int):=by omega
def A2p(a:Nat):(a:Int)+1=((a+1:Nat):Int):=by omega
def FBI(g:aV)(b:Nat)(e:bD)(A:Option aQ)(pre post:List cO)(N u0 nd u:Nat)(hp:aV):Prop:=
 ∃ (ys:List Int) (t:List UInt8),Win .u8 hp g b e A pre (ys++zb t) post/\ys.length=nd/\nd+t.length=N/\pad N u0=pad nd u++t/\u<10^nd
section
variable {P:Program} {h g:aV} {K:VP} {A:Option aQ} {b:Nat} {e:bD} {pre post:List cO}
def Id(one:P.cellsOf 5=1/\(P.info? 5).isSome=true){N u0 j u:Nat}(f:FBI g b e A pre post N u0 (j+2) u h){E1 E0 I1 I2:Int}(h1:E1=((2*(u%100)+1:Nat):Int))(h0:E0=((2*(u%100):Nat):Int))(hI1:I1=((j+1:Nat):Int))(hI2:I2=(j:Int)){C:aV->Prop}(hC:∀ h',FBI g b e A pre post N u0 j (u/100) h'->C h'):
 ∃ (t:UInt8),(0<=E1/\G3[E1.toNat]? = some t)/\∃ (t0:UInt8),(0<=E0/\G3[E0.toNat]? = some t0)/\∃ a1,A=some a1/\0<=I1/\I1<((N:Nat):Int)/\wpH P (Instr.storeAt 5 (.pointer (some (Addr.add a1 (I1.toNat*1)))) (Y ((t.toNat:Nat):Int))) (fun _ hp1=>∃ a2,A=some a2/\0<=I2/\I2<((N:Nat):Int)/\wpH P (Instr.storeAt 5 (.pointer (some (Addr.add a2 (I2.toNat*1)))) (Y ((t0.toNat:Nat):Int))) (fun _ hp2=>C hp2) hp1) h:=by
 subst h1 h0 hI1 hI2
 obtain ⟨c,t,w,z,D,x,k⟩:=f
 obtain ⟨o,p⟩:=A4o (u%100) (by omega)
 have m:∃ a,A=some a:=by
  rcases w.at_ with h0|h0
  ·have:=congrArg dD h0
   rw [aD,dQ] at this;omega
  ·exact ⟨_,h0⟩
 obtain ⟨a,d⟩:=m
 have l:(c++zb t).length=N:=by rw [aD,Eu];omega
 refine ⟨_,⟨by omega,by rw [aC];exact o⟩,_,⟨by omega,by rw [aC];exact p⟩,a,d,by omega,by omega,?_⟩
 rw [aC]
 refine w.storeN one d (by omega) ?_
 intro B s
 refine ⟨a,d,by omega,by omega,?_⟩
 rw [aC]
 refine s.storeN one d (by rw [List.length_set];omega) ?_
 intro y i
 refine hC y ⟨c.take j,[dch (u/10%10),dch (u%10)]++t,?_,by rw [aL];omega,by simp;omega,?_,?_⟩
 ·have n:((c++zb t).set (j+1) ((dch (u%100%10)).toNat:Int)).set j ((dch (u%100/10)).toNat:Int)=c.take j++zb ([dch (u/10%10),dch (u%10)]++t):=by
   have q:c=c.take j++[c[j]'(by omega),c[j+1]'(by omega)]:=by
    conv=>lhs;rw [<- bO j c]
    congr 1
    rw [cP (by omega),cP (by omega),cD (by omega)]
   have r:(c.take j).length=j:=by rw [aL];omega
   rw [q,show u%100%10=u%10 by omega,show u%100/10=u/10%10 by omega]
   generalize c[j]'_=y0
   generalize c[j+1]'_=y1
   rw [cH (by omega),aG (show (c.take j).length<=j by omega)]
   generalize c.take j=zs at *
   rw [aO,List.set_append_right _ _ (by omega),List.set_append_right _ _ (by omega),r,Ym]
   simp [zb]
  rw [n] at i;exact i
 ·rw [x,B4z];simp
 ·rw [dO] at k
  exact Nat.div_lt_of_lt_mul (by rw [eG];exact k)
end
section
variable {h g:aV} {K:VP} {A:Option aQ} {b:Nat} {e:bD} {pre post:List cO}
def Jg:prog.cellsOf 5=1/\(prog.info? 5).isSome=true:=A4m
def B7x{N u0 nd x:Nat}(hN:N<=24)(f:FBI g b e A pre post N u0 nd x h)(hn:nd<2)(hK:∀ h',Win .u8 h' g b e A pre (zb (pad N u0)) post->K (.tuple #[]) h'):Y9 prog A N K nd x h:=by
 obtain ⟨i,t,w,c,hN,m,l⟩:=f
 unfold Y9
 refine B3 (fun s=>?_) (fun s=>?_)
 ·obtain rfl:nd=1:=by omega
  obtain ⟨y,rfl⟩:∃ y,i=[y]:=by
   rcases i with _|⟨y,_|⟨z,r⟩⟩
   ·simp at c
   ·exact ⟨y,rfl⟩
   ·simp at c
  have p:∃ a,A=some a:=by
   rcases w.at_ with d|d
   ·simp at d
   ·exact ⟨_,d⟩
  obtain ⟨a,n⟩:=p
  refine ⟨a,n,by omega,by omega,?_⟩
  rw [show ((0:Int)).toNat=0 from rfl]
  refine w.storeN Jg n (by simp) ?_
  intro o k
  refine hK o ?_
  have j:x<10:=by simpa using l
  have ev:wu8 (H4 (48+(x:Int)))=((dch x).toNat:Int):=by
   rw [A68 (by omega) (by omega),A37 (by omega) (by omega),Fu j];omega
  rw [ev] at k
  have q:pad 1 x=[dch x]:=by
   rw [Pb,A77 _ (by omega),show x%10=x by omega];rfl
  rw [m,q,Ym]
  simpa [zb] using k
 ·obtain rfl:nd=0:=by omega
  have:i=[]:=aF c
  subst this
  have j:x=0:=by simpa using l
  refine hK h ?_
  rw [m,A77 _ j]
  simpa using w
def B7w{N u0 nd x:Nat}(hN:N<=24)(f:FBI g b e A pre post N u0 nd x h)(hn:nd<4)(hK:∀ h',Win .u8 h' g b e A pre (zb (pad N u0)) post->K (.tuple #[]) h'):Z1 prog A N K nd x h:=by
 unfold Z1
 have u:x<10000:=by
  obtain ⟨_,_,_,_,_,_,p⟩:=f
  exact aW p (bL (aN (by decide) (show nd<=4 by omega)) (by decide))
 refine ⟨fun l d=>∃ nd x:Nat,l=[I nd,U32 x]/\FBI g b e A pre post N u0 nd x d/\nd<2,B3 (fun r=>?_) (fun r=>?_),?_⟩
 ·obtain ⟨j,rfl⟩:∃ j,nd=j+2:=⟨nd-2,by omega⟩
  refine Id Jg f ?_ ?_ (by rw [B5 (by omega) (by omega)];omega) (by rw [B5 (by omega) (by omega)];omega) ?_
  ·simp (disch:=omega) only [Yt,Er,Jy,A2p]
  ·simp (disch:=omega) only [Yt,Er,Jy]
  ·intro s n
   refine ⟨j,x/100,?_,n,by omega⟩
   rw [B5 (by omega) (by omega),A1j,Er (by omega)]
   simp only [aI,aP,and_true,true_and];omega
 ·exact ⟨nd,x,rfl,f,by omega⟩
 ·rintro a o d ⟨k,q,i,m,c⟩
  obtain ⟨rfl,rfl⟩:a=(k:Int)/\o=(q:Int):=by simpa using i
  exact B7x hN m c hK
def U6{u an ac:Nat}{xs:List Int}(w:Win .u8 h g b e A pre xs post)(hn:an=xs.length)(hN:an<=24)(hu:u<10^an)(hu2:u<18446744073709551616)(hK:∀ h',Win .u8 h' g b e A pre (zb (pad an u)) post->K (.tuple #[]) h'):aM prog O0 #[.slice A an ac,U (u:Int)] h K:=by
 refine Ox _ _ _ _ ?_
 unfold Ld
 refine ⟨fun l d=>∃ a v:Nat,l=[U v,I a]/\FBI g b e A pre post an u a v d/\v<=u,fun l _=>(iAt l 1).toNat,⟨an,u,rfl,⟨xs,[],by simpa [zb] using w,hn.symm,by simp,by simp,hu⟩,bJ _⟩,?_⟩
 rintro s o d ⟨a,v,q,f,O⟩
 obtain ⟨rfl,rfl⟩:s=(v:Int)/\o=(a:Int):=by simpa using q
 have z:a<=an:=by obtain ⟨_,_,_,_,hN,_,_⟩:=f;omega
 refine B3 (fun E=>?_) (fun E=>?_)
 ·obtain ⟨j,rfl⟩:∃ j,a=j+8:=⟨a-8,by omega⟩
  refine Id (j:=j+6) Jg f ?_ ?_ (by rw [B5 (by omega) (by omega)];omega) (by rw [B5 (by omega) (by omega)];omega) ?_
  ·simp (disch:=omega) only [tm8,tm4,Yt,Er,Jy,A2p];omega
  ·simp (disch:=omega) only [tm8,tm4,Yt,Er,Jy];omega
  intro p r
  refine Id (j:=j+4) Jg r ?_ ?_ (by rw [B5 (by omega) (by omega)];omega) (by rw [B5 (by omega) (by omega)];omega) ?_
  ·simp (disch:=omega) only [tm8,tm4,A1j,Er,Jy,A2p];omega
  ·simp (disch:=omega) only [tm8,tm4,A1j,Er,Jy];omega
  intro D c
  refine Id (j:=j+2) Jg c ?_ ?_ (by rw [B5 (by omega) (by omega)];omega) (by rw [B5 (by omega) (by omega)];omega) ?_
  ·simp (disch:=omega) only [tm8,Yt,td4,Er,Jy,A2p];omega
  ·simp (disch:=omega) only [tm8,Yt,td4,Er,Jy];omega
  intro L k
  refine Id (j:=j) Jg k ?_ ?_ (by rw [B5 (by omega) (by omega)];omega) (by rw [B5 (by omega) (by omega)];omega) ?_
  ·simp (disch:=omega) only [tm8,A1j,td4,Er,Jy,A2p];omega
  ·simp (disch:=omega) only [tm8,A1j,td4,Er,Jy];omega
  intro N M
  have G:B4 (((j+8:Nat):Int)-8)=(j:Int):=by rw [B5 (by omega) (by omega)];omega
  have y:C0 (dI (v:Int) 100000000)=((v/100/100/100/100:Nat):Int):=by
   rw [td8,C2 (by omega) (by omega)];omega
  rw [G,y]
  exact ⟨⟨j,_,rfl,M,by omega⟩,by simp only [iAt,aH,aJ];omega⟩
 ·have H:v<100000000:=by
   obtain ⟨_,_,_,_,_,_,hu⟩:=f
   exact aW hu (bL (aN (by decide) (show a<=8 by omega)) (by decide))
  refine ⟨fun l d=>∃ a x:Nat,l=[I a,U32 x]/\FBI g b e A pre post an u a x d/\a<4,B3 (fun p=>?_) (fun p=>?_),?_⟩
  ·obtain ⟨j,rfl⟩:∃ j,a=j+4:=⟨a-4,by omega⟩
   refine Id (j:=j+2) Jg f ?_ ?_ (by rw [B5 (by omega) (by omega)];omega) (by rw [B5 (by omega) (by omega)];omega) ?_
   ·simp (disch:=omega) only [tm4,Yt,Er,Jy,A2p];omega
   ·simp (disch:=omega) only [tm4,Yt,Er,Jy];omega
   intro D c
   refine Id (j:=j) Jg c ?_ ?_ (by rw [B5 (by omega) (by omega)];omega) (by rw [B5 (by omega) (by omega)];omega) ?_
   ·simp (disch:=omega) only [tm4,A1j,Er,Jy,A2p];omega
   ·simp (disch:=omega) only [tm4,A1j,Er,Jy];omega
   intro L k
   refine ⟨j,v/100/100,?_,k,by omega⟩
   rw [B5 (by omega) (by omega),Er (by omega),td4,Er (by omega)]
   simp only [aI,aP,and_true,true_and];omega
  ·exact ⟨a,v,by rw [Er (by omega)],f,by omega⟩
  ·rintro i B C ⟨F,J,m,c,n⟩
   obtain ⟨rfl,rfl⟩:i=(F:Int)/\B=(J:Int):=by simpa using m
   exact B7w hN c n hK
end
def Qr{P:Program}{h:aV}{l:List UInt8}{m:Nat}{ys:List cO}(hy:ys=yv l)(hm:m=l.length){K:Array cO->aV->Prop}(x:K ys.toArray h):wpH P (Builtin.firstCells 1 m (.string (bs l))) K h:=by
 subst hm hy
 show K _ h
 have e:((bs l).extract 0 l.length).data.map (fun b=>bB .u8 b.toNat)=(yv l).toArray:=by
  rw [O9]
  apply Array.toList_inj.1
  simp [bs,yv]
 rw [e];exact x
def Ro{P:Program}{t e e' ty:bD}{z:cO}{bytes:Nat}(st:SliceT P t e z 1 bytes){h g:aV}{A:Option aQ}{n c:Nat}{xs:List cO}(p:cI h g e' 1 A n c xs)
 {B:Option aQ} {m d:Nat} {ys:List cO} (hy:ys.length=m) (hc:SlV h B ys) (h1:∀ v∈ys,St v=true) (hb:(2*(n+m)+192)*bytes<=281474976710656) (hm:n+m<=9223372036854775807) {K:VP}
 (x1:n+m<=c->∀ h',cI h' g e' 1 A (n+m) c (xs++ys)->K (.slice A (n+m) c) h') (x2:c<n+m->∀ A' c' h' g',g.le g'->cI h' g' e 1 A' (n+m) c' (xs++ys)->K (.slice A' (n+m) c') h'):
 wpH P (bZ #[t,t] ty #[.slice A n c,.slice B m d]) K h:=by
 obtain ⟨i,E,hz,Q,F⟩:=st.parts
 have R:=st.pos
 have u:=p.1
 rw [aY] at u
 unfold bZ
 simp only [List.getElem?_toArray,aH,aJ,B9,D6 st.und,J2 E,E9,Bool.false_eq_true,if_false,Builtin.lenOf,Q,Bool.not_false,if_true]
 by_cases k:n+m<=c
 ·simp only [k,if_true,B9]
  refine I5 (by omega) hc ?_
  rcases p.2.2 with ⟨J,X⟩|⟨b,l,hA,V,hh,o,H⟩
  ·have N:n=0:=by omega
   have T:m=0:=by omega
   subst N;subst X
   have C:ys=[]:=aF (by omega)
   have M:xs=[]:=aF (by omega)
   have x:K (.slice A (0+m) c) h:=x1 k h ⟨by rw [C,M,T];rfl,by omega,.inl ⟨J,rfl⟩⟩
   subst C
   cases A with
   | none=>exact x
   | some a=>exact x
  ·subst hA
   simp only [B9,H7,eF]
   rw [hh]
   rw [aY] at o H ⊢
   refine H1 ys.toArray.toList n 0 l ?_ (fun v hv=>h1 v (by simpa using hv)) ?_
   ·simp only
    omega
   ·simp only [E9,Nat.add_zero]
    refine x1 k _ ⟨by rw [aD];omega,k,.inr ⟨b,_,rfl,V,rfl,?_,?_⟩⟩
    ·simp only [H8,aD,aL,aX,o,hy];omega
    ·have s:(l.take n).length=n:=by rw [aL,o];omega
     unfold H8
     have t1:(l.take n).take (n+m)=l.take n:=aG (by rw [s];omega)
     have t2:ys.take m=ys:=aG (by omega)
     rw [aY,aO,cR,s,eA,cR,t1,t2,hy,Nat.sub_self,List.take_zero,bY,H]
 ·have D:c<n+m:=by omega
  simp only [k,if_false,B9,F6 E,F]
  have S:=Lv D
  have aa:Builtin.nextslicecap (n+m) c*bytes<=281474976710656:=bL (Nat.mul_le_mul_right _ S) hb
  rw [iN (by rintro ⟨h',_⟩;simp only [IntKind.max,IntKind.signed,IntKind.bits] at h';simp at h';omega)]
  simp only [B9,F6 E,F]
  rw [iN (by simp only [show (2^48:Nat)=281474976710656 from rfl];omega)]
  simp only [E9,B9]
  refine Gq rfl fun Z=>?_
  simp only [Di,F6 E]
  have y:xs=[]\/∃ a,A=some a/\∀ j v,xs[j]? = some v->h.cell? (a.add j)=some v:=p.slV
  refine I5 p.1 y ?_
  refine I5 (by omega) hc ?_
  simp only [K3 E hz,O2]
  intro b q
  have G:∃ r,(Question.appendCap (n+m) c e).cut Z=r/\n+m<=r:=⟨_,rfl,by simp only [Question.cut];omega⟩
  obtain ⟨r,W,L⟩:=G
  rw [W]
  have w:=p.le
  refine x2 D _ r _ h w ⟨by rw [aD];omega,L,.inr ⟨b,xs++ys++(bU z.cells (r-(n+m))).toList,rfl,q,?_,?_,?_⟩⟩
  ·congr 1;simp
  ·have O:(bU z.cells (r-(n+m))).toList.length=r-(n+m):=by simp [bU,st.cells]
   rw [aD,aD,u,hy,O];omega
  ·rw [aY,cH (by rw [aD];omega),aG (by rw [aD];omega)]
def A5f{P:Program}{t e e' ty t2:bD}{z:cO}{bytes:Nat}(st:SliceT P t e z 1 bytes)(hu:P.underlying t2=some .string){h g:aV}{A:Option aQ}{n c:Nat}{xs:List cO}(p:cI h g e' 1 A n c xs)
 {m:Nat} {l:List UInt8} {ys:List cO} (hly:ys=yv l) (hm0:m=l.length) (hy:ys.length=m) (h1:∀ v∈ys,St v=true) (hb:(2*(n+m)+192)*bytes<=281474976710656) (hm:n+m<=9223372036854775807) {K:VP}
 (x1:n+m<=c->∀ h',cI h' g e' 1 A (n+m) c (xs++ys)->K (.slice A (n+m) c) h') (x2:c<n+m->∀ A' c' h' g',g.le g'->cI h' g' e 1 A' (n+m) c' (xs++ys)->K (.slice A' (n+m) c') h'):
 wpH P (bZ #[t,t2] ty #[.slice A n c,.string (bs l)]) K h:=by
 obtain ⟨i,D,X,O,E⟩:=st.parts
 have Q:=st.pos
 have u:=p.1
 rw [aY] at u
 unfold bZ
 simp only [List.getElem?_toArray,aH,aJ,B9,D6 st.und,D6 hu,J2 D,E9,Bool.false_eq_true,if_false,Builtin.lenOf,O,Bool.not_false,if_true,L7,<- hm0]
 by_cases d:n+m<=c
 ·simp only [d,if_true,B9]
  refine Qr hly hm0 ?_
  rcases p.2.2 with ⟨H,V⟩|⟨b,k,hA,S,hh,o,G⟩
  ·have M:n=0:=by omega
   have hm0:m=0:=by omega
   subst M;subst V
   have B:ys=[]:=aF (by omega)
   have L:xs=[]:=aF (by omega)
   have x:K (.slice A (0+m) c) h:=x1 d h ⟨by rw [B,L,hm0];rfl,by omega,.inl ⟨H,rfl⟩⟩
   subst B
   cases A with
   | none=>exact x
   | some a=>exact x
  ·subst hA
   simp only [B9,H7,eF]
   rw [hh]
   rw [aY] at o G ⊢
   refine H1 ys.toArray.toList n 0 k ?_ (fun v hv=>h1 v (by simpa using hv)) ?_
   ·simp only
    omega
   ·simp only [E9,Nat.add_zero]
    refine x1 d _ ⟨by rw [aD];omega,d,.inr ⟨b,_,rfl,S,rfl,?_,?_⟩⟩
    ·simp only [H8,aD,aL,aX,o,hy];omega
    ·have s:(k.take n).length=n:=by rw [aL,o];omega
     unfold H8
     have Z:(k.take n).take (n+m)=k.take n:=aG (by rw [s];omega)
     have t2:ys.take m=ys:=aG (by omega)
     rw [aY,aO,cR,s,eA,cR,Z,t2,hy,Nat.sub_self,List.take_zero,bY,G]
 ·have C:c<n+m:=by omega
  simp only [d,if_false,B9,F6 D,E]
  have R:=Lv C
  have aa:Builtin.nextslicecap (n+m) c*bytes<=281474976710656:=bL (Nat.mul_le_mul_right _ R) hb
  rw [iN (by rintro ⟨h',_⟩;simp only [IntKind.max,IntKind.signed,IntKind.bits] at h';simp at h';omega)]
  simp only [B9,F6 D,E]
  rw [iN (by simp only [show (2^48:Nat)=281474976710656 from rfl];omega)]
  simp only [E9,B9]
  refine Gq rfl fun W=>?_
  simp only [Di,F6 D]
  have y:xs=[]\/∃ a,A=some a/\∀ j v,xs[j]? = some v->h.cell? (a.add j)=some v:=p.slV
  refine I5 p.1 y ?_
  refine Qr hly hm0 ?_
  simp only [K3 D X,O2]
  intro b q
  have F:∃ r,(Question.appendCap (n+m) c e).cut W=r/\n+m<=r:=⟨_,rfl,by simp only [Question.cut];omega⟩
  obtain ⟨r,T,J⟩:=F
  rw [T]
  have w:=p.le
  refine x2 C _ r _ h w ⟨by rw [aD];omega,J,.inr ⟨b,xs++ys++(bU z.cells (r-(n+m))).toList,rfl,q,?_,?_,?_⟩⟩
  ·congr 1;simp
  ·have N:(bU z.cells (r-(n+m))).toList.length=r-(n+m):=by simp [bU,st.cells]
   rw [aD,aD,u,hy,N];omega
  ·rw [aY,cH (by rw [aD];omega),aG (by rw [aD];omega)]
def Wg(l:List UInt8):∀ v∈yv l,St v=true:=by
 intro v a
 simp only [yv,List.mem_map] at a
 obtain ⟨c,_,rfl⟩:=a
 rfl
def Kr{P:Program}{t:bD}{z v:cO}(hz:(P.info? t).map (fun i=>i.zero)=some (some z)){K:VP}{h:aV}(x:∀ b,h b=none->K (.pointer (some ⟨b,0,none⟩)) (h.put b (.cells z.cells t))):wpH P (Instr.alloc t true v) K h:=by
 cases hi:P.info? t with
 | none=>rw [hi] at hz;cases hz
 | some i=>
  rw [hi] at hz
  simp only [Option.map_some,bG] at hz
  unfold Instr.alloc
  simp only [B9,K3 hi hz]
  unfold newVar
  simp only [O2,E9]
  exact x
def A43:(prog.info? Pp).map (fun i=>i.zero)=some (some (.agg (bN 24 (.int .u8 0)))):=by kernel_rfl
def Gp(h:aV):Prop:=∀ k,k<20->h.cell? (Addr.add ⟨3,0,none⟩ (k*1))=some (U ((10^k:Nat):Int))
def Gp.mono{h h':aV}(g:Gp h)(l:h.le h'):Gp h':=fun k a=>C4 l (g k a)
section
variable {h g:aV} {K:VP}
def Tt{i:Nat}(hi:i<100)(hK:K (.string (bs (L0 i))) h):aM prog Pe #[I i] h K:=by
 refine A9s _ ?_
 unfold B41
 have key:∀ i:Nat,i<100->(i<10->Wo.extract i (i+1)=bs (L0 i))/\(¬ i<10->G3.extract (2*i) (2*i+2)=bs (L0 i)):=by
  intro i hi
  have e:L0 i=if i<10 then [dch i] else [dch (i/10),dch (i%10)]:=by
   split
   ·by_cases b:i=0
    ·subst b;rfl
    ·rw [Ag b,P6 b,show i/10=0 by omega,F9,show i%10=i by omega];rfl
   ·rw [Ag (by omega),P6 (by omega),P6 (by omega),show i/10/10=0 by omega,F9,show i/10%10=i/10 by omega];rfl
  rw [e]
  revert i
  decide +kernel
 obtain ⟨g,c⟩:=key i hi
 refine B3 (fun j=>?_) (fun j=>?_)
 ·have a:B4 ((i:Int)+1)=((i+1:Nat):Int):=by rw [B5 (by omega) (by omega)];omega
  rw [a,aC,aC,g (by omega)]
  exact ⟨⟨by omega,by show _<=((36:Nat):Int);omega⟩,⟨by omega,by omega⟩,hK⟩
 ·have a:B4 ((i:Int)*2)=((2*i:Nat):Int):=by rw [B5 (by omega) (by omega)];omega
  have d:B4 (((2*i:Nat):Int)+2)=((2*i+2:Nat):Int):=by rw [B5 (by omega) (by omega)];omega
  rw [a,d,aC,aC,c (by omega)]
  exact ⟨⟨by omega,by show _<=((200:Nat):Int);omega⟩,⟨by omega,by omega⟩,hK⟩
def Ca{d:Nat}(gp:Gp h)(h0:d≠0)(hd:d<18446744073709551616)(hK:K (I ((dd d).length:Int)) h):aM prog X4 #[U (d:Int)] h K:=by
 refine Xx _ ?_
 unfold Uy
 have c:M0 d<=64:=Fx hd
 obtain ⟨_,_,e⟩:=B39 (M0 d) (by omega)
 refine Wp hd ⟨_,rfl,Xy _ ?_⟩
 unfold Uz
 have a:Int.fdiv (B4 ((M0 d:Int)*78913)) (2^(min ((18:Int)).toNat 64))=((ndg (M0 d):Nat):Int):=by
  rw [show (2:Int)^(min ((18:Int)).toNat 64)=262144 by decide,Int.fdiv_eq_ediv_of_nonneg _ (by decide),B5 (by omega) (by omega)]
  unfold ndg;omega
 rw [a]
 refine ⟨_,rfl,⟨by omega,by omega⟩,_,by rw [aC];exact gp _ (by omega),A9t _ ?_⟩
 unfold B42
 rw [B7o h0 hd] at hK
 refine B3 (fun b=>⟨_,rfl,?_⟩) (fun b=>⟨_,rfl,?_⟩)
 ·rw [iP (by omega)] at hK
  rw [B5 (by omega) (by omega)]
  exact hK
 ·rw [iN (by omega)] at hK
  rw [B5 (by omega) (by omega)]
  exact hK
def Ba{e':bD}{A:Option aQ}{n c i:Nat}{l:List UInt8}(gp:Gp h)(p:cI h g e' 1 A n c (yv l))(hi:i<18446744073709551616)(hn:n<=1000000000000)
 (hK:∀ A' c' e2 h' g',g.le g'->cI h' g' e2 1 A' (n+(L0 i).length) c' (yv (l++L0 i))->(n+(L0 i).length<=c->A'=A/\c'=c/\e2=e')->(e'=G0->e2=G0)->K (.slice A' (n+(L0 i).length:Nat) c') h'):aM prog T3 #[.slice A n c,U (i:Int),I 10] h K:=by
 refine Tj _ _ _ _ _ ?_
 unfold Sh
 refine E7 (fun _=>?_) (fun e=>absurd rfl e)
 have x:(L0 i).length<=20:=(Kn (by decide)).2 (by show i<10^20;omega)
 refine B3 (fun M=>?_) (fun M=>?_)
 ·rw [B5 (by omega) (by omega)]
  refine Tt (by omega) ⟨_,rfl,?_⟩
  refine A5f Fe T8 p (l:=L0 i) rfl rfl (Ey _) (Wg _) (by omega) (by omega) ?_ ?_
  ·intro q h' a
   rw [<- W6] at a
   exact ⟨_,_,_,rfl,hK _ _ _ _ _ (B0 _) a (fun _=>⟨rfl,rfl,rfl⟩) id⟩
  ·intro q A' c' h' g' r a
   rw [<- W6] at a
   exact ⟨_,_,_,rfl,hK _ _ _ _ _ r a (fun e=>by omega) (fun _=>rfl)⟩
 ·refine Kr A43 ?_
  intro b j
  have H:(dZ (bN 24 (.int .u8 0))).cells=((aE 24 (0:Int)).map (bB .u8)).toArray:=by rfl
  rw [H]
  have E:Win .u8 (h.put b (.cells ((aE 24 (0:Int)).map (bB .u8)).toArray Pp)) h b Pp (some ⟨b,0,none⟩) [] (aE 24 (0:Int)) []:=⟨j,by simp,.inr rfl⟩
  generalize (h.put b (.cells ((aE 24 (0:Int)).map (bB .u8)).toArray Pp))=h1' at *
  refine ⟨_,rfl,Ca (gp.mono E.le) (by omega) hi ⟨_,rfl,?_⟩⟩
  have C:L0 i=dd i:=Ag (by omega)
  rw [C] at x hK
  refine ⟨⟨by omega,by omega⟩,?_⟩
  rw [aC,bK]
  have F:=E.sub (l:=0) (m:=(dd i).length) (c:=24) (by omega) (by simp;omega) (by simp)
  have u:((aE 24 (0:Int)).drop 0).take ((dd i).length-0)=aE (dd i).length 0:=by
   rw [bC,dG,bK,aZ (by omega)]
  rw [u] at F
  have y:i<10^(dd i).length:=Q5.1 (bJ _)
  refine U6 F (by simp) (by omega) y hi ?_
  intro D B
  refine ⟨rfl,⟨by omega,by omega⟩,?_⟩
  have w:pad (dd i).length i=dd i:=by simp [pad]
  rw [w] at B
  have J:SlV D (J6 (some ⟨b,0,none⟩) 24 0 1) (yv (dd i)):=by
   have:=B.sl
   unfold SlI at this
   rw [B6z] at this
   exact this
  have z:=B.eq
  obtain ⟨o,ho⟩:∃ o,D=h.put b o:=⟨_,z⟩
  subst ho
  have L:=p.put j o
  have d:g.le (g.put b o):=by
   intro k N G
   have s:k≠b:=by
    rintro rfl
    rw [p.le k N G] at j;cases j
   rw [B6 _ _ s];exact G
  refine Ro Fe L (Ey _) J (Wg _) (by omega) (by omega) ?_ ?_
  ·intro q h' a
   rw [<- W6] at a
   exact ⟨_,_,_,rfl,hK _ _ _ _ _ d a (fun _=>⟨rfl,rfl,rfl⟩) id⟩
  ·intro q A' c' h' g' r a
   rw [<- W6] at a
   exact ⟨_,_,_,rfl,hK _ _ _ _ _ (Heap.le_trans d r) a (fun e=>by omega) (fun _=>rfl)⟩
end
structure Ext (g:aV) (e':bD) (A:Option aQ) (n c:Nat) (l t:List UInt8) (A':Option aQ) (n' c':Nat) (e2:bD) (g' h':aV):Prop where
 le:g.le g'
 priv:cI h' g' e2 1 A' n' c' (yv (l++t))
 len:n'=n+t.length
 fit:n+t.length<=c->A'=A/\c'=c/\e2=e'
 tag:e'=G0->e2=G0
def Ext.trans{g g1 g2 h1 h2:aV}{e' e1 e2:bD}{A A1 A2:Option aQ}{n c n1 c1 n2 c2:Nat}{l t s:List UInt8}(x:Ext g e' A n c l t A1 n1 c1 e1 g1 h1)(y:Ext g1 e1 A1 n1 c1 (l++t) s A2 n2 c2 e2 g2 h2):Ext g e' A n c l (t++s) A2 n2 c2 e2 g2 h2:=by
 refine ⟨Heap.le_trans x.le y.le,?_,?_,?_,fun e=>y.tag (x.tag e)⟩
 ·have:=y.priv;rwa [aO] at this
 ·rw [y.len,x.len,aD];omega
 ·intro a
  rw [aD] at a
  obtain ⟨rfl,rfl,rfl⟩:=x.fit (by omega)
  have b:=x.len
  exact y.fit (by omega)
section
variable {h g:aV} {K:VP} {A:Option aQ} {n c:Nat} {e':bD} {l:List UInt8}
def Ek{i:Nat}(gp:Gp h)(p:cI h g e' 1 A n c (yv l))(hi:i<18446744073709551616)(hn:n<=1000000000000)
 (hK:∀ A' n' c' e2 g' h',Ext g e' A n c l (L0 i) A' n' c' e2 g' h'->K (.slice A' n' c') h'):aM prog Ec #[.slice A n c,U (i:Int),I 10] h K:=by
 refine To _ _ _ _ _ ?_
 unfold Sn
 refine Ba gp p hi hn ?_
 intro A' c' e2 h' g' e b a d
 exact ⟨_,_,_,rfl,hK _ _ _ _ _ _ ⟨e,b,rfl,a,d⟩⟩
def Dr{ch:UInt8}{v:Int}(hv:v=(ch.toNat:Int))(p:cI h g e' 1 A n c (yv l))(hn:n<=1000000000000){KK:Option aQ->Nat->Nat->aV->Prop}
 (x:∀ A' n' c' e2 g' h',Ext g e' A n c l [ch] A' n' c' e2 g' h'->KK A' n' c' h'):
 wpH prog (Instr.buildSlice Fb 1 #[(0,Y v)]) (fun v1 hp1=>∃ (A1:Option aQ) (n1 c1:Nat),v1= .slice A1 n1 c1/\wpH prog (bZ #[Fb,Fb] Fb #[.slice A n c,.slice A1 n1 c1]) (fun v2 hp2=>∃ (A2:Option aQ) (n2 c2:Nat),v2= .slice A2 n2 c2/\KK A2 n2 c2 hp2) hp1) h:=by
 subst hv
 refine Ao Fe rfl ?_
 intro b a
 refine ⟨_,_,_,rfl,?_⟩
 have y:=p.put a (.cells #[Y (ch.toNat:Int)] G0)
 have d:g.le (g.put b (.cells #[Y (ch.toNat:Int)] G0)):=by
  intro k B r
  have o:k≠b:=by
   rintro rfl
   rw [p.le k B r] at a;cases a
  rw [B6 _ _ o];exact r
 have z:SlV (h.put b (.cells #[Y (ch.toNat:Int)] G0)) (some ⟨b,0,none⟩) (yv [ch]):=by
  refine .inr ⟨_,rfl,fun j u q=>?_⟩
  rw [H7,D7]
  match j with
  | 0=>simpa [yv] using q
  | j+1=>simp [yv] at q
 refine Ro Fe y (m:=1) (ys:=yv [ch]) rfl z (Wg _) (by omega) (by omega) ?_ ?_
 ·intro s h' i
  rw [<- W6] at i
  exact ⟨_,_,_,rfl,x _ _ _ _ _ _ ⟨d,i,rfl,fun _=>⟨rfl,rfl,rfl⟩,id⟩⟩
 ·intro s A' c' h' g' w i
  rw [<- W6] at i
  exact ⟨_,_,_,rfl,x _ _ _ _ _ _ ⟨Heap.le_trans d w,i,rfl,fun e=>by simp at e;omega,fun _=>rfl⟩⟩
def Vr{i:Int}(h:i<0):Hp i=[45]++L0 i.natAbs:=by unfold Hp;rw [iP h];rfl
def Jh{i:Int}(h:¬ i<0):Hp i=L0 i.natAbs:=by unfold Hp;rw [iN h]
def Hx{i:Int}(gp:Gp g)(p:cI h g e' 1 A n c (yv l))(h1: -9223372036854775808<=i)(h2:i<9223372036854775808)(hn:n<=100000000000)
 (hK:∀ A' n' c' e2 g' h',Ext g e' A n c l (Hp i) A' n' c' e2 g' h'->K (.slice A' n' c') h'):aM prog Bs #[.slice A n c,I i,I 10] h K:=by
 refine Yl _ _ _ _ _ ?_
 unfold Vn
 refine Yc _ _ _ _ _ ?_
 unfold Vd
 refine B3 (fun j=>?_) (fun j=>?_)
 ·rw [Vr j] at hK
  refine Dr (ch:=45) rfl p (by omega) ?_
  intro A1 s c1 u w q a
  have e:C0 (0-C0 i)=((i.natAbs:Nat):Int):=by rw [F3,F3];omega
  rw [e]
  refine Ba (gp.mono (Heap.le_trans a.le a.priv.le)) a.priv (by omega) (by have:=a.len;simp at this;omega) ?_
  intro A2 c2 e2 o r m k b d
  exact ⟨_,_,_,rfl,_,_,_,rfl,hK _ _ _ _ _ _ (a.trans ⟨m,k,rfl,b,d⟩)⟩
 ·rw [Jh j] at hK
  have e:C0 i=((i.natAbs:Nat):Int):=by rw [F3];omega
  rw [e]
  refine Ba (gp.mono p.le) p (by omega) (by omega) ?_
  intro A2 c2 e2 o r m k b d
  exact ⟨_,_,_,rfl,_,_,_,rfl,hK _ _ _ _ _ _ ⟨m,k,rfl,b,d⟩⟩
def Yn{b:Nat}{e:bD}{B:Option aQ}{pre post:List cO}{s:List UInt8}(w:Win .u8 h g b e B pre (zb s) post):SlV h B (yv s):=by
 have:=w.sl
 unfold SlI at this
 rw [B6z] at this
 exact this
def Hs{i:Int}(gp:Gp h)(h1: -9223372036854775808<=i)(h2:i<9223372036854775808)(hK:K (.string (bs (Hp i))) h):aM prog Bq #[I i,I 10] h K:=by
 refine FCall.pure (Yj _ _ ?_)
 unfold Vl
 refine Ya _ _ ?_
 unfold Vb
 refine E7 (fun _=>?_) (fun e=>absurd rfl e)
 refine ⟨fun L q=>L=[.bool (decide (0<=i/\i<100))]/\q=h,B3 (fun n=>⟨by simp [n],rfl⟩) (fun n=>⟨by simp [n],rfl⟩),?_⟩
 rintro y q ⟨M,rfl⟩
 obtain rfl:y=decide (0<=i/\i<100):=by simpa using M
 refine B3 (fun n=>?_) (fun n=>?_)
 ·obtain ⟨k,rfl⟩:∃ k:Nat,i=k:=⟨i.toNat,by omega⟩
  refine Tt (by omega) ⟨_,rfl,⟨_,rfl,B0 _,?_⟩⟩
  rw [Jh (by omega)] at hK
  exact hK
 ·refine Kr A43 ?_
  intro b G
  have F:(dZ (bN 24 (.int .u8 0))).cells=((aE 24 (0:Int)).map (bB .u8)).toArray:=by rfl
  rw [F]
  have r:Win .u8 (q.put b (.cells ((aE 24 (0:Int)).map (bB .u8)).toArray Pp)) q b Pp (some ⟨b,0,none⟩) [] (aE 24 (0:Int)) []:=⟨G,by simp,.inr rfl⟩
  generalize (q.put b (.cells ((aE 24 (0:Int)).map (bB .u8)).toArray Pp))=hp1 at *
  refine ⟨_,rfl,?_⟩
  obtain ⟨u,hu⟩:∃ u:Nat,u=i.natAbs:=⟨_,rfl⟩
  have a:u≠0:=by omega
  have A:L0 u=dd u:=Ag a
  have H:(dd u).length<=20:=Q5.2 (by show u<10^20;omega)
  have B:B4 (1+(((dd u).length:Nat):Int))=((1+(dd u).length:Nat):Int):=by rw [B5 (by omega) (by omega)];omega
  have w:=r.sub (l:=1) (m:=1+(dd u).length) (c:=24) (by omega) (by simp;omega) (by simp)
  have s:((aE 24 (0:Int)).drop 1).take (1+(dd u).length-1)=aE (dd u).length 0:=by
   rw [List.drop_replicate,dG,aZ (by omega)];congr 1;omega
  rw [s] at w
  have o:u<10^(dd u).length:=Q5.1 (bJ _)
  have g:pad (dd u).length u=dd u:=by simp [pad]
  have j:1+(dd u).length-1=(dd u).length:=by omega
  refine B3 (fun p=>?_) (fun p=>?_)
  ·rw [Vr p,<- hu,A] at hK
   have e:C0 (0-C0 i)=(u:Int):=by rw [F3,F3];omega
   rw [e]
   refine Ca (gp.mono r.le) a (by omega) ⟨_,rfl,?_⟩
   rw [B,aC]
   refine ⟨⟨by omega,by omega⟩,⟨by omega,by omega⟩,?_⟩
   rw [show ((1:Int)).toNat=1 from rfl,j]
   refine U6 w (by simp) (by omega) o (by omega) ?_
   intro x d
   rw [g] at d
   refine ⟨rfl,B3 (fun _=>?_) (fun z=>absurd p z)⟩
   have J:=r.whole (l:=1) (m:=1+(dd u).length) (by omega) (by simp;omega) (by rw [Eu];omega) d
   refine ⟨⟨by omega,by omega⟩,?_⟩
   rw [show ((0:Int)).toNat=0 from rfl]
   refine J.storeN Jg rfl (by simp) ?_
   intro N D
   refine ⟨⟨by omega,by omega⟩,?_⟩
   have C:=D.sub (l:=0) (m:=1+(dd u).length) (c:=24) (by omega) (by simp [Eu];omega) (by simp [Eu];omega)
   have E:((((aE 24 (0:Int)).take 1++zb (dd u)++(aE 24 (0:Int)).drop (1+(dd u).length)).set 0 45).drop 0).take (1+(dd u).length-0)=zb ([45]++dd u):=by
    rw [bC,dG,show min 1 24=1 from rfl,show aE 1 (0:Int)=[0] from rfl,aO,List.singleton_append,List.set_cons_zero,bK,Nat.add_comm 1,List.take_succ_cons,List.take_left' (Eu _)]
    rfl
   rw [E] at C
   refine Ji Fe.und Cn T8 (Yn C) (by simp;omega) ⟨_,rfl,_,rfl,?_,hK⟩
   exact D.le
  ·rw [Jh p,<- hu,A] at hK
   have e:C0 i=(u:Int):=by rw [F3];omega
   rw [e]
   refine Ca (gp.mono r.le) a (by omega) ⟨_,rfl,?_⟩
   rw [B,aC]
   refine ⟨⟨by omega,by omega⟩,⟨by omega,by omega⟩,?_⟩
   rw [show ((1:Int)).toNat=1 from rfl,j]
   refine U6 w (by simp) (by omega) o (by omega) ?_
   intro x d
   rw [g] at d
   refine ⟨rfl,B3 (fun z=>absurd z p) (fun _=>?_)⟩
   refine ⟨⟨by omega,by omega⟩,⟨by omega,by omega⟩,?_⟩
   exact Ji Fe.und Cn T8 (Yn d) rfl ⟨_,rfl,_,rfl,d.le,hK⟩
def Sw{s q:List UInt8}(hK:K (.tuple #[.string (bs (if q <+: s then s.drop q.length else s)),.bool (decide (q <+: s))]) h):aM prog Ft #[.string (bs s),.string (bs q)] h K:=by
 refine Yk _ _ ?_
 unfold Vm
 refine Yb _ _ ?_
 unfold Vc
 have b:aM prog Fs #[.string (bs s),.string (bs q)] h (fun r b=>r= .bool (decide (q <+: s))/\b=h):=by
  refine Xz _ _ ?_
  unfold Va
  simp only [L7]
  refine B3 (fun a=>?_) (fun a=>?_)
  ·refine ⟨⟨by omega,by omega⟩,?_,trivial⟩
   rw [aC,O9,Ny]
   congr 1
   rw [decide_eq_decide,bC,bK,List.prefix_iff_eq_take]
   exact eq_comm
  ·refine ⟨?_,trivial⟩
   congr 1
   symm
   rw [decide_eq_false_iff_not]
   intro c
   have:=c.length_le
   omega
 refine b.mono ?_
 rintro r d ⟨rfl,rfl⟩
 refine ⟨_,rfl,T6 (B3 (fun a=>?_) (fun a=>?_))⟩
 ·rw [iP a,decide_eq_true a] at hK
  have:=a.length_le
  simp only [L7]
  refine ⟨⟨by omega,by omega⟩,_,_,rfl,?_⟩
  rw [aC,O9,aG (by rw [aX];omega)]
  exact hK
 ·rw [iN a,decide_eq_false a] at hK
  exact ⟨_,_,rfl,hK⟩
end
abbrev cB:Int:=10000000000000000000
section
variable {h g:aV} {K:VP} {A B:Option aQ} {ac bc:Nat}
def B8r{Invv:LP}{muv:LN}{WA CA:Option aQ}{wn wc cn cc:Nat}{us:List Int}{hp1 g1:aV}(p:Pw hp1 g1 WA wn wc us)(hne:us≠[])(hwn:wn=us.length)(du:Dig b64 us)(hl:wn<=100000000)
 (hK:∀ (ws:List Int) (m:Nat) (r:Int) (hp2:aV),Pw hp2 g1 WA m wc (ws.take m)->m=(ws.take m).length->m<=wn->Norm (ws.take m)->Dig b64 (ws.take m)->val b64 us=val b64 (ws.take m)*cB+r->(0<=r/\r<cB)->
  wpH prog (Instr.buildSlice V3 1 #[(0,U r)]) (fun v hp6=>∃ (t44A:Option aQ) (t44n:Nat) (t44c:Nat),v= .slice t44A t44n t44c/\wpH prog (bZ #[V3,V3] V3 #[.slice CA cn cc,.slice t44A t44n t44c]) (fun v1 hp7=>∃ (t45A:Option aQ) (t45n:Nat) (t45c:Nat),v1= .slice t45A t45n t45c/\Invv [.slice WA m wc,.slice t45A t45n t45c] hp7/\muv [.slice WA m wc,.slice t45A t45n t45c] hp7<muv [.slice WA wn wc,.slice CA cn cc] hp1) hp6) hp2):
 Bb prog Invv muv WA wn wc CA cn cc hp1:=by
 obtain ⟨b,l,G,W⟩:=Dg p hne
 unfold Bb
 refine ⟨fun s R=>∃ (k:Nat) (r:Int) (ws:List Int),s=[U r,I ((k:Int)-1)]/\k<=wn/\(0<=r/\r<cB)/\ws.length=us.length/\Dig b64 ws/\Win .u64 R g1 b B7 WA [] ws l/\ws.take k=us.take k/\val b64 (us.drop k)=val b64 (ws.drop k)*cB+r,fun s _=>(iAt s 1+1).toNat,⟨wn,0,us,by rw [B5 (by omega) (by omega)],by omega,by decide,rfl,du,G,rfl,by rw [cD (by omega)];simp [val]⟩,?_⟩
 rintro c i hp2 ⟨k,r,ws,J,T,A,g,u,w,n,B⟩
 obtain ⟨rfl,rfl⟩:c=r/\i=(k:Int)-1:=by simpa using J
 refine B3 (fun M=>?_) (fun M=>?_)
 ·obtain ⟨j,rfl⟩:∃ j,k=j+1:=⟨k-1,by omega⟩
  have e:((j+1:Nat):Int)-1=(j:Int):=by omega
  rw [e]
  have O:=J5 u j
  refine w.sl.load (by omega) (by omega) (by omega) ?_
  rw [aC]
  refine Pk (y:=10000000000000000000) A O (by decide) ⟨_,_,rfl,?_⟩
  have H:us.getD j 0=ws.getD j 0:=by
   have o:(ws.take (j+1)).getD j 0=(us.take (j+1)).getD j 0:=by rw [n]
   simpa [List.getD,List.getElem?_take] using o.symm
  generalize hx:ws.getD j 0=x at *
  have L:0<=c/\c<10000000000000000000:=A
  have V:0<=c*18446744073709551616+x:=by omega
  have E:0<=(c*18446744073709551616+x)/10000000000000000000/\(c*18446744073709551616+x)/10000000000000000000<18446744073709551616:=by omega
  obtain ⟨a,D,_⟩:=SlV.at w.sl (i:=j) (by simp;omega)
  refine ⟨a,D,by omega,by omega,w.storeN E2 D (by omega) ?_⟩
  intro S Q
  rw [B5 (by omega) (by omega)]
  refine ⟨⟨j,_,_,rfl,by omega,by show _/\_<(10000000000000000000:Int);omega,by simpa using g,u.set E,Q,?_,?_⟩,by simp only [iAt,aH,aJ];omega⟩
  ·rw [List.take_set_of_le (by omega)]
   have o:=congrArg (List.take j) n
   rw [List.take_take,List.take_take,aZ (by omega)] at o
   exact o
  ·rw [Ef (by omega),Pa b64 (by omega),B,H]
   have:=Int.mul_ediv_add_emod (c*18446744073709551616+x) 10000000000000000000
   simp only [val]
   generalize (c*18446744073709551616+x)/10000000000000000000=q at *
   generalize (c*18446744073709551616+x)%10000000000000000000=s at *
   grind
 ·obtain rfl:k=0:=by omega
  rw [bC,bC] at B
  rw [show wn=ws.length by omega] at hK ⊢
  refine Cj w.sl (by omega) (by omega) ?_
  intro m C N z
  refine ⟨_,_,_,rfl,?_⟩
  have d:ws≠[]:=by intro F;apply hne;exact aF (by rw [<- g,F];rfl)
  exact hK ws m c hp2 (w.priv d (by omega) C) (by rw [aL];omega) C N (u.take m) (by rw [z];exact B) A
end
def nv:List Nat->Nat
 | []=>0
 | c::r=>c+10^19*nv r
def A7d(ns:List Nat)(c:Nat):((nv (ns++[c]):Nat):Int)=(nv ns:Int)+cB^ns.length*(c:Int):=by
 induction ns with
 | nil=>simp [nv]
 | cons d r ih=>
  have e:((10^19:Nat):Int)=cB:=by decide
  simp only [List.cons_append,nv,dK,bM,dR,aU,ih,e]
  grind
def C0f{ns:List Nat}(h:∀ c∈ns,c<10^19):nv ns<10^(19*ns.length):=by
 induction ns with
 | nil=>simp [nv]
 | cons d r ih=>
  have e:=h d (by simp)
  have b:=ih fun c a=>h c (by simp [a])
  simp only [nv,dK]
  rw [show 19*(r.length+1)=19+19*r.length by omega,dO]
  have:=Nat.mul_le_mul_left (10^19) (show nv r+1<=10^(19*r.length) by omega)
  rw [Nat.mul_add] at this;omega
def C0e{ns:List Nat}(hne:ns≠[])(h:ns.getLast? ≠ some 0):nv ns≠0:=by
 induction ns with
 | nil=>exact absurd rfl hne
 | cons d r ih=>
  cases r with
  | nil=>simp at h;simp [nv];exact h
  | cons e s=>
   have:=ih (by simp) (by simpa [List.getLast?_cons_cons] using h)
   simp only [nv] at this ⊢
   have a:0<10^19*(e+10^19*nv s):=Nat.mul_pos (by decide) (by omega)
   omega
def B1h{c:Nat}:aE (19-(L0 c).length) 48++L0 c=pad 19 c:=by
 unfold L0 pad
 split
 ·rename_i h;subst h;rw [F9];rfl
 ·rfl
def A78{c w:Nat}(h:c≠0):aE (w-(L0 c).length) 48++L0 c=pad w c:=by
 unfold L0 pad;rw [iN h]
def A4u{w n k:Nat}(h:n<10^k):(pad w n).length<=w+k:=by
 unfold pad
 have:=Q5.2 h
 rw [aD,List.length_replicate];omega
def A63(W:Nat)(ns:List Nat)(k:Nat):List UInt8:=if k<ns.length then pad (W-19*k) (nv (ns.drop k)) else []
def B0u{W:Nat}{ns:List Nat}(h:∀ c∈ns,c<10^19)(k:Nat):(A63 W ns k).length<=W+19*ns.length:=by
 unfold A63
 split
 ·have:=A4u (w:=W-19*k) (C0f (ns:=ns.drop k) fun c a=>h c (List.mem_of_mem_drop a))
  rw [aX] at this;omega
 ·simp
def A6o{W:Nat}{ns:List Nat}(hb:∀ c∈ns,c<10^19)(ht:ns.getLast? ≠ some 0){j:Nat}(hj:j<ns.length):A63 W ns j=A63 W ns (j+1)++(aE ((if j+1=ns.length then max (L0 ns[j]).length (W-19*j) else 19)-(L0 ns[j]).length) 48++L0 ns[j]):=by
 have e:ns.drop j=ns[j]::ns.drop (j+1):=cP hj
 unfold A63
 rw [iP hj,e]
 by_cases h:j+1=ns.length
 ·rw [iN (by omega),iP h,List.nil_append,cD (by omega)]
  have b:ns[j]≠0:=by
   intro a
   apply ht
   rw [dV,<- h,cL,aT hj,a]
  rw [show max (L0 ns[j]).length (W-19*j)-(L0 ns[j]).length=(W-19*j)-(L0 ns[j]).length by omega,A78 b]
  simp [nv]
 ·rw [iP (by omega),iN h,B1h]
  have d:nv (ns.drop (j+1))≠0:=by
   apply C0e
   ·intro g;have:=congrArg dD g;rw [aX] at this;simp at this;omega
   ·rw [List.getLast?_drop,iN (by omega)];exact ht
  have:=Zm (w:=W-19*j) (h:=nv (ns.drop (j+1))) (l:=ns[j]) (k:=19) (hb _ (cT hj)) (.inl d)
  rw [Nat.sub_sub] at this
  rw [show 19*(j+1)=19*j+19 by omega,<- this]
  congr 1
  simp only [nv];rw [eG];omega
def Priv.clear{h g:aV}{e:bD}{A:Option aQ}{n c:Nat}{xs:List cO}(p:cI h g e 1 A n c xs):cI h g e 1 A 0 c []:=by
 obtain ⟨q,m,d⟩:=p
 refine ⟨by simp,by omega,?_⟩
 rcases d with d|⟨b,a,l,k,j,i,o⟩
 ·exact .inl d
 ·exact .inr ⟨b,a,l,k,j,i,by simp⟩
def nz(ns:List Nat):List Int:=ns.map fun (x:Nat)=>(x:Int)
def Bx(g:aV)(eT:bD)(A:Option aQ)(n c:Nat)(l:List UInt8)(p:aQ)(CA:Option aQ)(ns:List Nat)(bl t:List UInt8)(tA:Option aQ)(tn tc:Nat)(hp:aV):Prop:=
 ∃ e2 gA gB,Ext g eT A n c l t tA tn tc e2 gA hp/\cI gA gB A6k 1 (some p) bl.length 20 (yv bl)/\g.le gB/\SlI .u64 gB CA (nz ns)
section
variable {h g:aV} {K:VP} {A CA:Option aQ} {n c:Nat} {eT:bD} {l:List UInt8} {p:aQ} {ns:List Nat}
def A36{bl t s:List UInt8}{tA tA':Option aQ}{tn tc tn' tc':Nat}{e2 e3:bD}{gA gB g' hp hp':aV}(x:Ext g eT A n c l t tA tn tc e2 gA hp)(q:cI gA gB A6k 1 (some p) bl.length 20 (yv bl))(lg:g.le gB)(sc:SlI .u64 gB CA (nz ns))(y:Ext gA e2 tA tn tc (l++t) s tA' tn' tc' e3 g' hp'):Bx g eT A n c l p CA ns bl (t++s) tA' tn' tc' hp':=by
 obtain ⟨a,b,d⟩:=q.after y.le
 exact ⟨e3,g',a,x.trans y,d,Heap.le_trans lg b,sc.mono b⟩
def B2d{Invv2:LP}{muv2:LN}{tA:Option aQ}{tn tc q:Nat}{first:Bool}{i1 size:Int}{bl t:List UInt8}{hp9 hp11:aV}(x:Bx g eT A n c l p CA ns bl t tA tn tc hp11)(hq:B4 (size-((bl.length:Nat):Int))=(q:Int))(hb:n+t.length+q+bl.length<=100000000000)
 (hK:∀ tA' tn' tc' hp',Bx g eT A n c l p CA ns bl (t++(aE q 48++bl)) tA' tn' tc' hp'->Invv2 [.slice tA' tn' tc',.bool false,I (B4 (i1-1))] hp'/\muv2 [.slice tA' tn' tc',.bool false,I (B4 (i1-1))] hp'<muv2 [.slice tA tn tc,.bool first,I i1] hp9):
 Y7 prog Invv2 muv2 tA tn tc first i1 (some p) bl.length 20 size hp9 hp11:=by
 unfold Y7
 rw [hq]
 refine ⟨fun s r=>∃ (k:Nat) (tA:Option aQ) (tn tc:Nat),s=[.slice tA tn tc,I k]/\k<=q/\Bx g eT A n c l p CA ns bl (t++aE k 48) tA tn tc r,fun s _=>q-(iAt s 1).toNat,⟨0,tA,tn,tc,rfl,by omega,by simpa using x⟩,?_⟩
 rintro H Q W M w ⟨k,O,C,D,d,hk,X,gA,Z,ex,i,m,j⟩
 simp only [aI,aS,aP,and_true,true_and] at d
 obtain ⟨⟨rfl,rfl,rfl⟩,rfl⟩:=d
 have b:=ex.len
 rw [aD,List.length_replicate] at b
 refine B3 (fun L=>?_) (fun L=>?_)
 ·refine Dr (ch:=48) rfl ex.priv (by omega) ?_
  intro A' n' E e3 V z y
  rw [B5 (by omega) (by omega)]
  refine ⟨⟨k+1,_,_,_,rfl,by omega,?_⟩,by simp only [iAt,aH,aJ];omega⟩
  have:=A36 ex i m j y
  rwa [aO,<- List.replicate_succ'] at this
 ·obtain rfl:k=q:=by omega
  refine ⟨fun s r=>∃ (tA:Option aQ) (tn tc:Nat),s=[.slice tA tn tc]/\Bx g eT A n c l p CA ns bl (t++(aE k 48++bl)) tA tn tc r,?_,?_⟩
  ·refine Ro Fe ex.priv (Ey bl) (SlV.mono ex.priv.le i.slV) (Wg _) (by omega) (by omega) ?_ ?_
   ·intro B z a
    rw [<- W6] at a
    refine ⟨_,_,_,rfl,_,_,_,rfl,?_⟩
    have:=A36 ex i m j (s:=bl) ⟨B0 _,a,rfl,fun _=>⟨rfl,rfl,rfl⟩,id⟩
    rwa [aO] at this
   ·intro B A' E z V o a
    rw [<- W6] at a
    refine ⟨_,_,_,rfl,_,_,_,rfl,?_⟩
    have:=A36 ex i m j (s:=bl) ⟨o,a,rfl,fun e=>by omega,fun _=>rfl⟩
    rwa [aO] at this
  ·rintro F G J u ⟨R,S,T,d,N⟩
   simp only [aI,aS,and_true] at d
   obtain ⟨rfl,rfl,rfl⟩:=d
   exact hK _ _ _ _ N
def B2b{W tn tc:Nat}{tA:Option aQ}{t:List UInt8}{e2:bD}{gA hp9:aV}(x:Ext g eT A n c l t tA tn tc e2 gA hp9)(hW:W<=10000000000)(hb:tn<=10000000000)(hK:∀ A' n' c' e3 g' h',Ext g eT A n c l (t++aE W 48) A' n' c' e3 g' h'->K (.slice A' n' c') h'):Y6 prog (W:Int) K tA tn tc hp9:=by
 unfold Y6
 refine ⟨fun s e=>∃ (k:Nat) (tA:Option aQ) (tn' tc:Nat) (e3:bD) (g':aV),s=[.slice tA tn' tc,I k]/\k<=W/\tn'=tn+k/\Ext g eT A n c l (t++aE k 48) tA tn' tc e3 g' e,fun s _=>W-(iAt s 1).toNat,⟨0,tA,tn,tc,e2,gA,rfl,by omega,rfl,by simpa using x⟩,?_⟩
 rintro p d m q b ⟨k,w,i,o,e3,g',a,B,j,ex⟩
 simp only [aI,aS,aP,and_true,true_and] at a
 obtain ⟨⟨rfl,rfl,rfl⟩,rfl⟩:=a
 refine B3 (fun z=>?_) (fun z=>?_)
 ·refine Dr (ch:=48) rfl ex.priv (by omega) ?_
  intro A' n' c' r u h' y
  rw [B5 (by omega) (by omega)]
  refine ⟨⟨k+1,_,_,_,r,u,rfl,by omega,?_,?_⟩,by simp only [iAt,aH,aJ];omega⟩
  ·have:=y.len;simp at this;omega
  ·have:=ex.trans y
   rwa [aO,<- List.replicate_succ'] at this
 ·obtain rfl:k=W:=by omega
  exact hK _ _ _ _ _ _ ex
def B2c{W cn:Nat}{tA:Option aQ}{tn tc:Nat}{hp8:aV}{b:Nat}(gp:Gp g)(hp:p=⟨b,0,none⟩)(x:Bx g eT A n c l p CA ns [] [] tA tn tc hp8)(hcn:cn=ns.length)(hb:∀ c∈ns,c<10^19)(ht:ns.getLast? ≠ some 0)(hW:W<=1000000000)(hn:n<=1000000000)(hnl:ns.length<=1000000000)
 (hK:∀ A' n' c' e3 g' h',Ext g eT A n c l (pad W (nv ns)) A' n' c' e3 g' h'->K (.slice A' n' c') h'):Y8 prog tA tn tc (W:Int) K CA cn p hp8:=by
 subst hcn
 have m:J6 (some p) 20 0 1=some p:=by rw [hp];rfl
 unfold Y8
 refine ⟨fun s hp=>∃ (k:Nat) (tA:Option aQ) (tn tc:Nat) (N:List UInt8),s=[.slice tA tn tc,.bool (decide (k=ns.length)),I ((k:Int)-1)]/\k<=ns.length/\Bx g eT A n c l p CA ns N (A63 W ns k) tA tn tc hp,fun s _=>(iAt s 2+1).toNat,⟨ns.length,tA,tn,tc,[],by rw [B5 (by omega) (by omega)];simp,bJ _,by unfold A63;rw [iN (by omega)];exact x⟩,?_⟩
 rintro w C F first i1 ab ⟨k,ae,V,Z,N,O,hk,J,gA,gB,ex,D,o,H⟩
 simp only [aI,aS,aP,Value.bool.injEq,and_true,true_and] at O
 obtain ⟨⟨rfl,rfl,rfl⟩,rfl,rfl⟩:=O
 have L:=ex.len
 have ad:=B0u (W:=W) hb k
 refine B3 (fun h1=>?_) (fun h1=>?_)
 ·obtain ⟨j,rfl⟩:∃ j,k=j+1:=⟨k-1,by omega⟩
  have e:((j+1:Nat):Int)-1=(j:Int):=by omega
  rw [e]
  have r:j<ns.length:=by omega
  refine ⟨⟨by omega,by omega⟩,?_⟩
  refine (H.mono (Heap.le_trans D.le ex.priv.le)).load (by simp [nz]) (by omega) (by simp;omega) ?_
  have hz:(nz ns).getD (j:Int).toNat 0=((ns[j]:Nat):Int):=by
   rw [aC];simp [nz,List.getD,r]
  rw [hz,m,show ((0:Int)).toNat-0=0 from rfl,show 20-0=20 from rfl]
  have a:=hb ns[j] (cT r)
  have ac:(L0 ns[j]).length<=20:=(Kn (by decide)).2 (aW a (by decide))
  refine ex.priv.call ?_
  refine Ek (l:=[]) (gp.mono (Heap.le_trans o D.le)) D.clear (aW a (by decide)) (by omega) ?_
  intro A' n' c' e3 g' X y h' pt
  obtain ⟨rfl,rfl,rfl⟩:=y.fit (by omega)
  have M:=y.len
  rw [eF] at M
  subst M
  refine ⟨_,_,_,rfl,?_⟩
  have x2:Bx g eT A n c l p CA ns (L0 ns[j]) (A63 W ns (j+1)) w C F h':=
   ⟨J,X,g',⟨Heap.le_trans o (Heap.le_trans y.le y.priv.le),pt,ex.len,ex.fit,ex.tag⟩,by simpa using y.priv,Heap.le_trans o y.le,H.mono y.le⟩
  refine ⟨fun s hp=>s=[I (((if j+1=ns.length then max (L0 ns[j]).length (W-19*j) else 19):Nat):Int)]/\hp=h',B3 (fun d=>⟨?_,rfl⟩) (fun d=>⟨by rw [iN d];rfl,rfl⟩),?_⟩
  ·rw [iP d,B5 (n:=19*(j:Int)) (by omega) (by omega),B5 (by omega) (by omega)]
   simp only [aI,aP,and_true,true_and]
   by_cases T:(W:Int)-19*(j:Int)>(((L0 ns[j]).length:Nat):Int)
   ·rw [iP T];omega
   ·rw [iN T];omega
  ·rintro i Q ⟨z,rfl⟩
   obtain rfl:i=(((if j+1=ns.length then max (L0 ns[j]).length (W-19*j) else 19):Nat):Int):=by simpa using z
   have R:(L0 ns[j]).length<=19:=(Kn (by decide)).2 a
   generalize hsz:(if j+1=ns.length then max (L0 ns[j]).length (W-19*j) else 19)=sz at *
   have S:(L0 ns[j]).length<=sz/\sz<=W+20:=by
    rw [<- hsz];split<;>omega
   refine B2d (q:=sz-(L0 ns[j]).length) x2 (by rw [B5 (by omega) (by omega)];omega) (by have:=ex.len;omega) ?_
   intro u B G aa x3
   rw [B5 (by omega) (by omega)]
   refine ⟨⟨j,u,B,G,L0 ns[j],?_,by omega,?_⟩,by simp only [iAt,aH,aJ];omega⟩
   ·rw [show decide (j=ns.length)=false by simp;omega]
   ·rw [A6o hb ht r,hsz];exact x3
 ·obtain rfl:k=0:=by omega
  refine B3 (fun d=>?_) (fun d=>?_)
  ·have E:ns=[]:=aF d.symm
   subst E
   refine B2b ex (by omega) (by omega) ?_
   intro A' n' c' e3 g' h' y
   refine hK _ _ _ e3 g' _ ?_
   have:A63 W [] 0++aE W 48=pad W (nv []):=by simp [A63,nv,pad,F9]
   rwa [this] at y
  ·refine hK _ _ _ J gA _ ?_
   ·have:A63 W ns 0=pad W (nv ns):=by unfold A63;rw [iP (by omega)];simp
    rw [<- this];exact ex
end
def B2h:(prog.info? A6k).map (fun i=>i.zero)=some (some (.agg (bN 20 (.int .u8 0)))):=by kernel_rfl
def B50(ns:List Nat)(c:Nat):nz (ns++[c])=nz ns++[(c:Int)]:=by simp [nz]
section
variable {h g:aV} {K:VP} {A XA:Option aQ} {n c:Nat} {eT:bD} {l:List UInt8}
def Dd{xn xc v W:Nat}(gp:Gp g)(p:cI h g eT 1 A n c (yv l))(M:Mw g XA xn (v:Int))(hx:xn<=10000000)(hW:W<=1000000000)(hn:n<=1000000000)
 (hK:∀ A' n' c' e3 g' h',Ext g eT A n c l (pad W v) A' n' c' e3 g' h'->K (.slice A' n' c') h'):aM prog T1 #[.slice A n c,.slice XA xn xc,I (W:Int)] h K:=by
 obtain ⟨xs,H,sx,dx,nx,N⟩:=M
 refine Ow _ _ _ _ _ _ _ ?_
 unfold Lc
 refine p.call ?_
 refine Cz sx H (by omega) ?_
 intro WA T h0 g0 l0 pw h1 X
 obtain ⟨D,ao,ag⟩:=X.swap pw
 refine ⟨_,_,_,rfl,?_⟩
 unfold Gg
 have ap:(v:Int)<2^(64*xn):=by
  have:=N5 (B:=b64) (by decide) dx
  rw [N,<- H,Fi] at this;exact this
 refine ⟨fun s hp=>∃ (d:List Int) (ns:List Nat) (WA CA:Option aQ) (wn T cn cc:Nat) (D g2 g3:aV),s=[.slice WA wn T,.slice CA cn cc]/\Pw hp D WA wn T d/\Pw D g2 CA cn cc (nz ns)/\cI g2 g3 eT 1 A n c (yv l)/\g.le g3/\wn=d.length/\cn=ns.length/\wn<=xn/\Dig b64 d/\Norm d/\(∀ c∈ns,c<10^19)/\(v:Int)=val b64 d*cB^ns.length+(nv ns:Int)/\(d=[]->ns.getLast? ≠ some 0),fun s hp=>match s with|[.slice A n _,_]=>B55 b64 hp A n|_=>0,⟨xs,[],WA,none,xs.length,T,0,0,D,D,g0,rfl,ao,Priv.nil _ _ _ _,ag,l0,rfl,rfl,by omega,dx,nx,by simp,by simp [nv,N],by simp⟩,?_⟩
 rintro WA1 G af CA1 al au L ⟨d,ns,WA2,CA2,aw,a0,ay,az,D,g2,g3,hs,pw,pc,X,lg,z,ac,av,du,nu,hb,hv,u⟩
 simp only [aI,aS,and_true] at hs
 obtain ⟨⟨rfl,rfl,rfl⟩,rfl,rfl,rfl⟩:=hs
 have aq:=C1 (B:=b64) (by decide) du
 have Mu:Mw L WA1 G (val b64 d):=⟨d,z,pw.slV,du,nu,rfl⟩
 refine B3 (fun h2=>?_) (fun h2=>?_)
 ·have Z:d≠[]:=by rintro rfl;simp at z;omega
  have F:0<val b64 d:=by
   have:=Mu.len_zero (by decide)
   omega
  have w:ns.length<=64*xn:=by
   by_cases V:ns.length<=64*xn
   ·exact V
   ·exfalso
    have h3:(2:Int)^(64*xn)<=2^ns.length:=D3 (by decide) (by omega)
    have h4:(2:Int)^ns.length<=cB^ns.length:=by
     have:∀ k:Nat,(2:Int)^k<=cB^k:=by
      intro k
      induction k with
      | zero=>simp
      | succ k ih=>
       rw [bM,bM]
       exact Int.mul_le_mul ih (by decide) (by decide) (dJ (dP (by decide)))
     exact this _
    have h5:1*cB^ns.length<=val b64 d*cB^ns.length:=cG F (dJ (dP (by decide)))
    omega
  refine B8r pw Z z du (by omega) ?_
  intro C m r ar am hm ax nw dw a hr
  obtain ⟨q,aj,ad⟩:=am.swap pc
  refine Fg K9 aj rfl rfl (by omega) (by omega) ?_
  intro CA' ab h' g' ak j
  obtain ⟨y,l2,i⟩:=ad.after ak
  obtain ⟨g4,J,aa⟩:=j.swap i
  obtain ⟨g5,l5,ae⟩:=X.after l2
  obtain ⟨c0,e⟩:∃ c0:Nat,r=(c0:Int):=⟨r.toNat,by omega⟩
  have S:c0<10^19:=by
   have E:r<10000000000000000000:=hr.2
   show c0<10000000000000000000
   omega
  have ai:=C1 (B:=b64) (by decide) dw
  refine ⟨⟨C.take m,ns++[c0],WA1,CA',m,af,al+1,ab,g4,y,g5,rfl,J,?_,ae,Heap.le_trans lg l5,hm,by simp;omega,by omega,dw,nw,?_,?_,?_⟩,?_⟩
  ·have h9:=aa
   rw [<- List.map_singleton (f:=bB .u64),<- cW,e,<- B50] at h9
   exact h9
  ·intro c V
   rcases List.mem_append.1 V with E|E
   ·exact hb c E
   ·rw [List.mem_singleton.1 E];exact S
  ·rw [A7d,hv,a,aD,cZ,bM,e];grind
  ·intro he
   rw [List.getLast?_append]
   simp only [eB,Option.some_or,ne_eq,bG]
   intro e0
   rw [he] at a
   simp [val] at a
   omega
  ·show B55 b64 h' WA1 m<B55 b64 L WA1 G
   have Mw2:Mw h' WA1 m (val b64 (C.take m)):=⟨C.take m,hm,J.slV,dw,nw,rfl⟩
   rw [Fk Mw2,Fk Mu]
   have E:1*val b64 (C.take m)<=cB*val b64 (C.take m):=cG (by decide) ai
   have h7:val b64 d=10000000000000000000*val b64 (C.take m)+r:=by rw [a,Int.mul_comm]
   omega
 ·have O:d=[]:=aF (by omega)
  subst O
  obtain ⟨y,ah,j⟩:=pc.swap X
  obtain ⟨q,Q,i⟩:=pw.swap ah
  have an:v=nv ns:=by
   simp [val] at hv;omega
  have w:ns.length<=1000000000:=by
   by_cases e:ns=[]
   ·subst e;simp
   ·have h7:=u rfl
    obtain ⟨ms,c0,rfl⟩:∃ ms c0,ns=ms++[c0]:=⟨ns.dropLast,ns.getLast e,(List.dropLast_concat_getLast e).symm⟩
    rw [List.getLast?_append] at h7
    simp only [eB,Option.some_or,ne_eq,bG] at h7
    have h8:=A7d ms c0
    by_cases V:ms.length<=64*xn
    ·simp;omega
    ·exfalso
     have h3:(2:Int)^(64*xn)<=2^ms.length:=D3 (by decide) (by omega)
     have h4:(2:Int)^ms.length<=cB^ms.length:=by
      have:∀ k:Nat,(2:Int)^k<=cB^k:=by
       intro k
       induction k with
       | zero=>simp
       | succ k ih=>
        rw [bM,bM]
        exact Int.mul_le_mul ih (by decide) (by decide) (dJ (dP (by decide)))
      exact this _
     have h5:cB^ms.length*1<=cB^ms.length*(c0:Int):=Int.mul_le_mul_of_nonneg_left (by omega) (dJ (dP (by decide)))
     omega
  refine Kr B2h ?_
  intro b x
  refine ⟨_,rfl,?_⟩
  have hz:(dZ (bN 20 (.int .u8 0))).cells=(aE 20 (bB .u8 0)).toArray:=by rfl
  rw [hz]
  have R:q b=none:=by
   cases hx1:q b with
   | none=>rfl
   | some o=>rw [Q.le b o hx1] at x;cases x
  refine B2c (ns:=ns) gp rfl ⟨eT,_,q,⟨?_,?_,by simp,fun _=>⟨rfl,rfl,rfl⟩,id⟩,⟨by simp [yv],by simp,.inr ⟨b,aE 20 (bB .u8 0),rfl,R,rfl,by simp,by simp [yv]⟩⟩,?_,?_⟩ ac hb (u rfl) hW hn w (by rw [<- an];exact hK)
  ·exact Heap.le_trans lg (Heap.le_trans j.le (Heap.le_trans i.le (Heap.le_put _ R)))
  ·rw [bY];exact Q.put x _
  ·exact Heap.le_trans lg (Heap.le_trans j.le i.le)
  ·exact (show SlI .u64 y CA1 (nz ns) from j.slV).mono i.le
end
def Fd(i:Nat):Nat:=10^(19*2^i)
def A6s(i:Nat):Fd i=(10^19)^(2^i):=dN _ _ _
def B0y(i:Nat):0<Fd i:=dB (by decide)
def A6r:Fd 0=10000000000000000000:=by decide
def Yv(i:Nat):Fd (i+1)=Fd i*Fd i:=by
 unfold Fd
 rw [<- dO]
 congr 1
 rw [cA];omega
def B4l(i:Nat):(Fd i:Int)<b64^(2^i):=by
 have h:(10^19)^(2^i)<(18446744073709551616:Nat)^(2^i):=Nat.pow_lt_pow_left (by decide) (Nat.pos_iff_ne_zero.1 (dB (by decide)))
 rw [<- A6s] at h
 have a:((Fd i:Nat):Int)<((18446744073709551616^(2^i):Nat):Int):=Int.ofNat_lt.2 h
 rw [aR] at a
 exact a
def B4m(i:Nat):(2:Int)^(63*2^i)<=(Fd i:Int):=by
 have h:(2^63)^(2^i)<=(10^19)^(2^i):=cK (by decide) _
 rw [<- A6s,<- dN] at h
 have a:((2^(63*2^i):Nat):Int)<=((Fd i:Nat):Int):=Int.ofNat_le.2 h
 rw [aR] at a
 exact a
def B7a{k m:Nat}(h:(2:Int)^k<2^m):k<m:=by
 by_cases a:k<m
 ·exact a
 ·have:=D3 (B:=2) (by decide) (show m<=k by omega)
  omega
abbrev slT(s:Option aQ × Nat × Nat):cO:=.slice s.1 s.2.1 s.2.2
def Pws(h:aV)(PA:Option aQ)(k:Nat):Prop:=∃ ss:List (Option aQ × Nat × Nat),ss.length=k/\SlV h PA (ss.map slT)/\∀ i s,ss[i]? = some s->s.2.1<=s.2.2/\Mw h s.1 s.2.1 (Fd i:Int)
def Pws.mono{h h':aV}(l:h.le h'){PA:Option aQ}{k:Nat}(p:Pws h PA k):Pws h' PA k:=by
 obtain ⟨c,d,b,a⟩:=p
 exact ⟨c,d,b.mono l,fun i s e=>⟨(a i s e).1,(a i s e).2.mono l⟩⟩
def Pws.take{h:aV}{PA:Option aQ}{k j:Nat}(p:Pws h PA k)(hj:j<=k):Pws h PA j:=by
 obtain ⟨a,g,b,d⟩:=p
 refine ⟨a.take j,by rw [aL];omega,?_,fun i s e=>?_⟩
 ·have:=SlV.cut (c:=(a.map slT).length) b (Nat.zero_le j) (by rw [cX];omega) (bJ _)
  rw [L3,bC,bK,<- List.map_take] at this
  exact this
 ·rw [List.getElem?_take] at e
  split at e
  ·exact d i s e
  ·cases e
def Pws.at{h:aV}{PA:Option aQ}{k i:Nat}(p:Pws h PA k)(hi:i<k):∃ (a:aQ) (A:Option aQ) (n c:Nat),PA=some a/\h.cell? (a.add i)=some (.slice A n c)/\n<=c/\Mw h A n (Fd i:Int):=by
 obtain ⟨d,o,e,l⟩:=p
 obtain ⟨a,j,b⟩:=e.at (i:=i) (by rw [cX];omega)
 rw [dL] at b
 obtain ⟨g,m⟩:=l i d[i] (aT (by omega))
 exact ⟨a,_,_,_,j,b,g,m⟩
def Mw.tenP_le{h:aV}{A:Option aQ}{n i:Nat}(m:Mw h A n (Fd i:Int)):n<=2^i:=m.len_le (by decide) (B4l i)
def Mw.tenP_ge{h:aV}{A:Option aQ}{n i:Nat}(m:Mw h A n (Fd i:Int)):2^i<2*n:=by
 have a:=m.lt (by decide)
 rw [Fi] at a
 have b:=B7a (Int.lt_of_le_of_lt (B4m i) a)
 omega
def Ext.weak{g g0 g' h':aV}{eT e2:bD}{A A':Option aQ}{n c n' c':Nat}{l t:List UInt8}(l0:g0.le g)(x:Ext g eT A n c l t A' n' c' e2 g' h'):Ext g0 eT A n c l t A' n' c' e2 g' h':=⟨Heap.le_trans l0 x.le,x.priv,x.len,x.fit,x.tag⟩
def B35(w n:Nat):w<=(pad w n).length:=by simp [pad];omega
def B4t{j:Nat}(hj:j<=30):B4 (19*2^(min j 64))=((19*2^j:Nat):Int):=by
 rw [aZ (by omega)]
 have b:2^j<=2^30:=aN (by decide) hj
 have a:(19*2^j:Int)=((19*2^j:Nat):Int):=by rw [aU,aR];rfl
 rw [a,B5 (by omega) (by have:(2:Nat)^30=1073741824:=by decide
                         omega)]
def Xl{l:List UInt8}(hd:∀ c∈l,H0 c):(N2 l:Int)<b64^l.length:=by
 have d:=It hd
 have b:10^l.length<=(18446744073709551616:Nat)^l.length:=cK (by decide) _
 have a:((N2 l:Nat):Int)<((18446744073709551616^l.length:Nat):Int):=Int.ofNat_lt.2 (aW d b)
 rw [aR] at a
 exact a
def Ok:∀ (k:Nat) {h g:aV} {K:VP} {A XA PA:Option aQ} {n c xn xc pc v W:Nat} {eT:bD} {l:List UInt8},Gp g->cI h g eT 1 A n c (yv l)->Mw g XA xn (v:Int)->xn<=xc->xn<=10000000->Pws g PA k->k<=pc->k<=26->(W=0\/W=19*2^k)->n+(pad W v).length<=1000000000->
 (∀ A' n' c' e3 g' h',Ext g eT A n c l (pad W v) A' n' c' e3 g' h'->K (.slice A' n' c') h')->aM prog F2 #[.slice A n c,.slice XA xn xc,I (W:Int),.slice PA k pc] h K:=by
 intro k
 induction k with
 | zero=>
  intro h g K A XA PA n c xn xc pc v W eT l m p M B G y F hk hW V o
  have:=B35 W v
  refine Ge _ _ _ _ _ _ _ _ _ _ ?_
  unfold Gf
  refine B3 (fun _=>?_) (fun e=>absurd (by decide) e)
  refine Dd m p M G (by omega) (by omega) ?_
  intro A' n' c' D g' h' x
  exact ⟨_,_,_,rfl,o _ _ _ D g' _ x⟩
 | succ j ih=>
  intro h g K A XA PA n c xn xc pc v W eT l m p M B G y F hk hW V o
  have aa:=B35 W v
  have e1:B4 (((j+1:Nat):Int)-1)=(j:Int):=by rw [B5 (by omega) (by omega)];omega
  refine Ge _ _ _ _ _ _ _ _ _ _ ?_
  unfold Gf
  simp only [e1,aC,bK,L3,B4t (show j<=30 by omega)]
  refine B3 (fun e=>absurd e (by omega)) (fun _=>B3 (fun _=>?_) (fun _=>?_))
  ·refine Dd m p M G (by omega) (by omega) ?_
   intro A' n' c' D g' h' x
   exact ⟨_,_,_,rfl,o _ _ _ D g' _ x⟩
  ·obtain ⟨a,PA',pn,ah,ha,hc,u,Mp⟩:=y.at (i:=j) (by omega)
   refine ⟨a,ha,by omega,by omega,_,_,_,by rw [aY];exact C4 p.le hc,?_⟩
   have ab:=Mp.tenP_le
   have aj:2^j<=2^26:=aN (by decide) (by omega)
   have ag:(2:Nat)^26=67108864:=by decide
   have L:=B0y j
   refine p.call ?_
   refine Q7 M Mp B u (by omega) (by omega) (by omega) ?_
   intro A1 m1 c1 A2 m2 c2 g1 d k1 N M1 M2 h1 Q
   refine ⟨_,_,_,_,_,_,rfl,?_⟩
   rw [<- dM] at M1
   rw [<- Int.natCast_emod] at M2
   have hv:=Nat.div_add_mod v (Fd j)
   have s:=Nat.mod_lt v L
   have ae:=bF v (Fd j)
   generalize v/Fd j=q at *
   generalize v%Fd j=r at *
   have hz:=M1.len_zero (by decide)
   have O:=M.lt (by decide)
   have X:m1<=xn:=M1.len_le (by decide) (by omega)
   have ai:m2<=xn:=M2.len_le (by decide) (by
    have h0:0<=Fd j*q:=Nat.zero_le _
    generalize Fd j*q=z at *
    omega)
   have J:v=q*10^(19*2^j)+r:=by rw [<- hv,eG];rfl
   have ad:2^(j+1)=2*2^j:=by rw [cA];omega
   refine B3 (fun e=>absurd e (by omega)) (fun _=>?_)
   refine E7 (fun Z=>E7 (fun eW=>?_) (fun eW=>?_)) (fun Z=>?_)
   ·obtain rfl:W=0:=by omega
    obtain rfl:q=0:=by omega
    obtain rfl:v=r:=by omega
    refine ⟨⟨by omega,by omega⟩,?_⟩
    refine ih (W:=0) (m.mono d) Q M2 N (by omega) ((y.mono d).take (by omega)) (by omega) (by omega) (.inl rfl) V ?_
    intro A4 n4 c4 S T h4 H
    exact ⟨_,_,_,rfl,o _ _ _ _ _ _ (H.weak d)⟩
   all_goals
    have hw:q≠0\/19*2^j<=W:=by omega
    have b:=Zm (w:=W) (h:=q) (l:=r) (k:=19*2^j) s hw
    rw [<- J] at b
    have E:(pad (19*2^j) r).length=19*2^j:=Ub s
    have af:(pad W v).length=(pad (W-19*2^j) q).length+19*2^j:=by rw [b,aD,E]
    refine ⟨⟨by omega,by omega⟩,?_⟩
    have e3:(if (0:Int)>B4 ((W:Int)-((19*2^j:Nat):Int)) then (0:Int) else B4 ((W:Int)-((19*2^j:Nat):Int)))=((W-19*2^j:Nat):Int):=by
     rw [B5 (by omega) (by omega)]
     split<;>omega
    rw [e3]
    refine ih (m.mono d) Q M1 k1 (by omega) ((y.mono d).take (by omega)) (by omega) (by omega) (by omega) (by omega) ?_
    intro A3 n3 c3 e3 g3 h3 C
    have ac:=C.len
    have R:=Heap.le_trans d C.le
    refine ⟨_,_,_,rfl,⟨by omega,by omega⟩,?_⟩
    refine ih (m.mono R) C.priv (M2.mono C.le) N (by omega) ((y.mono R).take (by omega)) (by omega) (by omega) (.inr rfl) (by omega) ?_
    intro A4 n4 c4 S T h4 H
    refine ⟨_,_,_,rfl,o _ _ _ S T _ ?_⟩
    rw [b]
    exact (C.trans H).weak d
def Fj:∀ (k:Nat) {h:aV} {K:VP} {PA:Option aQ} {pc:Nat} {l:List UInt8},(∀ c∈l,H0 c)->l.length<=100000000->Pws h PA k->k<=pc->k<=30->(∀ A n c h',h.le h'->n<=c->Mw h' A n (N2 l:Int)->K (.slice A n c) h')->aM prog I6 #[.string (bs l),.slice PA k pc] h K:=by
 intro k
 induction k using Nat.strongRecOn with
 | _ k ih=>
  intro h K PA pc l z N E ac hk G
  refine Te _ _ _ _ ?_
  unfold Rv
  rw [L7]
  have b:aM prog J0 #[.string (bs l)] h (fun r B=>∃ (A:Option aQ) (n c:Nat),r= .slice A n c/\K (.slice A n c) B):=by
   refine Oi z N ?_
   intro A n c h' o m M
   exact ⟨_,_,_,rfl,G _ _ _ _ o m M⟩
  refine ⟨fun s B=>B=h/\∃ j:Nat,s=[I ((j:Int)-1)]/\j<=k,fun s _=>(iAt s 0+1).toNat,⟨rfl,k,by rw [B5 (by omega) (by omega)],bJ _⟩,?_⟩
  rintro y B ⟨rfl,j,Z,hj⟩
  obtain rfl:y=(j:Int)-1:=by simpa using Z
  refine B3 (fun Q=>?_) (fun Q=>B3 (fun _=>b) (fun e=>absurd (show (j:Int)-1<0 by omega) e))
  obtain ⟨i,rfl⟩:∃ i,j=i+1:=⟨j-1,by omega⟩
  have O:((i+1:Nat):Int)-1=(i:Int):=by omega
  have ad:0<2^i:=dB (by decide)
  simp only [O,aC,bK,L3,B4t (show i<=30 by omega)]
  refine B3 (fun e=>absurd e (by omega)) (fun _=>B3 (fun J=>?_) (fun J=>?_))
  ·refine ⟨⟨trivial,i,by rw [B5 (by omega) (by omega)],by omega⟩,?_⟩
   simp only [iAt,aH]
   rw [B5 (by omega) (by omega)]
   omega
  refine B3 (fun e=>absurd e (by omega)) (fun _=>B3 (fun _=>b) (fun H=>B3 (fun e=>absurd e (by omega)) (fun _=>?_)))
  have R:B4 ((l.length:Int)-((19*2^i:Nat):Int))=((l.length-19*2^i:Nat):Int):=by rw [B5 (by omega) (by omega)];omega
  simp only [R,aC,O9,bC,bK]
  obtain ⟨a,PA',pn,ae,ha,m,q,Mp⟩:=E.at (i:=i) (by omega)
  refine ⟨⟨by omega,by omega⟩,⟨by omega,by omega⟩,a,ha,by omega,by omega,_,_,_,by rw [aY];exact m,?_⟩
  have T:=Mp.tenP_le
  have ab:19*2^i<l.length:=by omega
  have u:∀ c∈l.take (l.length-19*2^i),H0 c:=fun c m=>z c (bV m)
  have w:∀ c∈l.drop (l.length-19*2^i),H0 c:=fun c m=>z c (List.mem_of_mem_drop m)
  have C:(l.take (l.length-19*2^i)).length=l.length-19*2^i:=by rw [aL];omega
  have g:(l.drop (l.length-19*2^i)).length=19*2^i:=by rw [aX];omega
  have d:N2 l=N2 (l.take (l.length-19*2^i))*Fd i+N2 (l.drop (l.length-19*2^i)):=by
   have:=Iu (l.take (l.length-19*2^i)) (l.drop (l.length-19*2^i))
   rw [bO,g] at this
   exact this
  have W:=Xl z
  have x:=Xl u
  have p:=Xl w
  rw [C] at x
  rw [g] at p
  refine ih i (by omega) u (by omega) (E.take (by omega)) (by omega) (by omega) ?_
  intro A1 n1 c1 J o k1 M1
  refine ⟨_,_,_,rfl,o,?_⟩
  have aa:=M1.len_le (by decide) x
  refine D9 M1 (Mp.mono o) k1 q (by omega) (by omega) ?_
  intro A2 n2 c2 h2 D V M2
  refine ⟨_,_,_,rfl,D,⟨by omega,by omega⟩,⟨by omega,by omega⟩,?_⟩
  rw [<- aU] at M2
  have S:=M2.len_le (by decide) (Int.lt_of_le_of_lt (Int.ofNat_le.2 (by rw [d];exact Nat.le_add_right _ _)) W)
  rw [aG (by rw [g];omega)]
  refine ih i (by omega) w (by omega) ((E.mono (Heap.le_trans o D)).take (by omega)) (by omega) (by omega) ?_
  intro A3 n3 c3 h3 F k3 M3
  refine ⟨_,_,_,rfl,F,?_⟩
  have X:=M3.len_le (by decide) p
  refine P3 (M2.mono F) M3 V k3 (by omega) (by omega) ?_
  intro A4 n4 c4 h4 L k4 M4
  refine ⟨_,_,_,rfl,L,G _ _ _ _ (Heap.le_trans o (Heap.le_trans D (Heap.le_trans F L))) k4 ?_⟩
  rw [<- dR,<- d] at M4
  exact M4
section
variable {h g:aV} {K:VP} {A XA:Option aQ} {n c:Nat} {eT:bD} {l:List UInt8}
def Yw{hs:aV}{ss:List (Option aQ × Nat × Nat)}{s:Option aQ × Nat × Nat}(h3:∀ i s,ss[i]? = some s->s.2.1<=s.2.2/\Mw hs s.1 s.2.1 (Fd i:Int))(h4:s.2.1<=s.2.2/\Mw hs s.1 s.2.1 (Fd ss.length:Int)):∀ i t,(ss++[s])[i]? = some t->t.2.1<=t.2.2/\Mw hs t.1 t.2.1 (Fd i:Int):=by
 intro i t e
 by_cases b:i<ss.length
 ·rw [List.getElem?_append_left b] at e;exact h3 i t e
 ·rw [List.getElem?_append_right (by omega)] at e
  by_cases a:i=ss.length
  ·subst a
   simp at e
   subst e;exact h4
  ·rw [List.getElem?_eq_none (by simp;omega)] at e;cases e
def Vu{hs:aV}{b:Nat}{e:bD}: ∀ i (t:Option aQ × Nat × Nat),[((some ⟨b,0,none⟩:Option aQ),1,1)][i]? = some t->t.2.1<=t.2.2/\Mw (hs.put b (.cells #[U 10000000000000000000] e)) t.1 t.2.1 (Fd i:Int):=by
 intro i t a
 rcases i with _|i
 ·simp at a
  subst a
  refine ⟨bJ _,[10000000000000000000],rfl,SlI.new _ _ _ _ _,?_,?_,?_⟩
  ·intro x c;simp at c;subst c;decide
  ·unfold Norm;simp
  ·rw [A6r];simp [val]
 ·simp at a
def Qa(hd:∀ c∈l,H0 c)(hl:l.length<=100000000)(hK:∀ A n c h',h.le h'->n<=c->Mw h' A n (N2 l:Int)->K (.slice A n c) h'):aM prog Du #[.string (bs l)] h K:=by
 refine Td _ ?_
 unfold Ru
 rw [L7]
 refine B3 (fun h5=>?_) (fun _=>?_)
 ·refine Ao K9 rfl ?_
  intro u x
  refine ⟨_,_,_,rfl,?_⟩
  refine Fg A3f (Priv.nil _ _ _ none) rfl rfl (by omega) (by omega) ?_
  intro A1 c1 h1 g1 m V
  refine ⟨fun s z=>∃ (d:List (Option aQ × Nat × Nat)) (PA:Option aQ) (k q:Nat) (g:aV),s=[.slice PA k q]/\cI z g Dl 1 PA k q (d.map slT)/\d.length=k/\0<k/\h.le g/\(∀ i s,d[i]? = some s->s.2.1<=s.2.2/\Mw g s.1 s.2.1 (Fd i:Int))/\2^(k-1)<=l.length,fun s _=>match s with|[.slice _ n _]=>l.length-n|_=>0,⟨[(some ⟨u,0,none⟩,1,1)],A1,1,c1,g1,rfl,V,rfl,by omega,Heap.le_trans (Heap.le_put _ x) m,fun i s e=>⟨(Vu (hs:=h) (b:=u) (e:=B7) i s e).1,(Vu (hs:=h) (b:=u) (e:=B7) i s e).2.mono m⟩,by simp;omega⟩,?_⟩
  rintro PA k q z ⟨d,PA',k',Q,g,hs,p,E,T,B,o,L⟩
  simp only [aI,aS,and_true] at hs
  obtain ⟨rfl,rfl,rfl⟩:=hs
  have F:k-1<27:=by
   by_cases j:k-1<27
   ·exact j
   ·have:2^27<=2^(k-1):=aN (by decide) (by omega)
    have:(2:Nat)^27=134217728:=by decide
    omega
  rw [aC,B4t (show k<=30 by omega)]
  have X:B4 ((k:Int)-1)=((k-1:Nat):Int):=by rw [B5 (by omega) (by omega)];omega
  have r:Pws z PA k:=⟨d,E,p.slV,fun i s e=>⟨(o i s e).1,(o i s e).2.mono p.le⟩⟩
  refine B3 (fun e=>absurd e (by omega)) (fun _=>B3 (fun S=>?_) (fun S=>?_))
  ·obtain ⟨a,ha,j⟩:=p.slV.at (i:=k-1) (by rw [cX];omega)
   rw [dL] at j
   obtain ⟨G,M⟩:=o (k-1) (d[k-1]'(by omega)) (aT (by omega))
   generalize d[k-1]'(by omega)=s at *
   rw [X,aC,aY]
   refine ⟨a,ha,by omega,by omega,_,_,_,j,?_⟩
   have D:=M.tenP_le
   refine p.call ?_
   refine D9 M M G G (by omega) (by omega) ?_
   intro A2 H c2 g2 C N M2 h2 R
   refine ⟨_,_,_,rfl,?_⟩
   refine Fg A3f R rfl rfl (by omega) (by omega) ?_
   intro A3 J h3 O w Z
   have hm:2^k=2*2^(k-1):=by
    obtain ⟨i,rfl⟩:∃ i,k=i+1:=⟨k-1,by omega⟩
    rw [cA];simp;omega
   have W:k<2^k:=Nat.lt_two_pow_self
   refine ⟨⟨d++[(A2,H,c2)],A3,k+1,J,O,rfl,?_,by simp;omega,by omega,Heap.le_trans B (Heap.le_trans C w),?_,?_⟩,?_⟩
   ·rw [cW];exact Z
   ·refine Yw (fun i s e=>⟨(o i s e).1,(o i s e).2.mono (Heap.le_trans C w)⟩) ⟨N,?_⟩
    rw [E,show Fd k=Fd (k-1)*Fd (k-1) by rw [<- Yv];congr 1;omega,aU]
    exact M2.mono w
   ·rw [cL];omega
   ·show l.length-(k+1)<l.length-k
    omega
  ·refine Fj k hd hl r p.2.1 (by omega) ?_
   intro A n c h' y j M
   exact ⟨_,_,_,rfl,hK _ _ _ _ (Heap.le_trans B (Heap.le_trans p.le y)) j M⟩
 ·refine Fj 0 hd hl ⟨[],rfl,SlV.nil,by simp⟩ (by omega) (by omega) ?_
  intro A n c h' y j M
  exact ⟨_,_,_,rfl,hK _ _ _ _ y j M⟩
def Gy(hd:∀ c∈l,H0 c)(hl:l.length<=100000000)(hK:∀ A n c h',h.le h'->ZI h' false A n c (N2 l:Int)->K (.agg #[.bool false,.slice A n c]) h'):aM prog He #[.string (bs l)] h K:=by
 refine A9d _ ?_
 unfold B3r
 refine Qa hd hl ?_
 intro A n c h' b a M
 refine ⟨_,_,_,rfl,hK _ _ _ _ b ⟨a,?_,?_⟩⟩
 ·rw [aK];exact M
 ·symm;rw [decide_eq_false_iff_not];omega
end
def Priv.le_put'{h g:aV}{e:bD}{s:Nat}{A:Option aQ}{n c:Nat}{xs:List cO}(p:cI h g e s A n c xs){b:Nat}(hb:h b=none)(o:Obj):g.le (g.put b o):=by
 intro k i d
 have a:k≠b:=by
  rintro rfl
  rw [p.le k i d] at hb;cases hb
 rw [B6 _ _ a];exact d
def A6a{n:Int}(h0:9223372036854775808<=n)(h1:n<18446744073709551616):B4 n=n-18446744073709551616:=by
 unfold B4 IntKind.wrap
 simp only [IntKind.signed,IntKind.bits]
 have e:n%18446744073709551616=n:=by omega
 simp only [show (2^64:Int)=18446744073709551616 from rfl,show (2^(64-1):Int)=9223372036854775808 from rfl,e]
 rw [iP (by simp;omega)]
section
variable {h g:aV} {K:VP} {A XA:Option aQ} {n c:Nat} {eT:bD} {l:List UInt8}
def B8l{v xn:Nat}(hv:(v:Int)<b64^xn):(dd v).length<=20*xn:=by
 refine Q5.2 ?_
 rw [dN]
 have a:((v:Nat):Int)<((18446744073709551616^xn:Nat):Int):=by rw [aR];exact hv
 exact aW (Int.ofNat_lt.1 a) (cK (by decide) _)
def El{xn xc v:Nat}(gp:Gp g)(p:cI h g eT 1 A n c (yv l))(M:Mw g XA xn (v:Int))(hxc:xn<=xc)(hx:xn<=10000000)(hn:n<=200000000)
 (hK:∀ A' n' c' e3 g' h',Ext g eT A n c l (L0 v) A' n' c' e3 g' h'->K (.slice A' n' c') h'):aM prog V7 #[.slice A n c,.slice XA xn xc] h K:=by
 have h0:=M.len_zero (by decide)
 refine Sa _ _ _ _ _ _ ?_
 unfold Od
 refine E7 (fun e=>?_) (fun e=>?_)
 ·obtain rfl:v=0:=by omega
  refine Dr (ch:=48) rfl p (by omega) ?_
  intro A' n' c' E g' h' x
  exact hK _ _ _ _ _ _ x
 ·have Q:v≠0:=by omega
  refine E7 (fun T=>?_) (fun T=>?_)
  ·obtain ⟨xs,z,sx,dx,nx,F⟩:=M
   obtain ⟨w,rfl⟩:∃ w,xs=[w]:=by
    rcases xs with _|⟨w,_|⟨w',r⟩⟩
    ·simp at z;omega
    ·exact ⟨w,rfl⟩
    ·simp at z;omega
   rw [Dk] at F
   subst F
   refine (SlI.mono p.le sx).load z (by omega) (by omega) ?_
   have q:=dx v (by simp)
   refine Ek (gp.mono p.le) p (by have:(v:Int)<18446744073709551616:=q.2;omega) (by omega) ?_
   intro A' n' c' E g' h' x
   exact ⟨_,_,_,rfl,hK _ _ _ _ _ _ x⟩
  ·have ah:=B8l (M.lt (by decide))
   have af:(pad 0 v).length<=200000000:=by rw [A3j];omega
   refine Ao K9 rfl ?_
   intro G N
   refine ⟨_,_,_,rfl,?_⟩
   have p1:=p.put N (.cells #[U 10000000000000000000] B7)
   have l1:=p.le_put' N (.cells #[U 10000000000000000000] B7)
   have w1:=fun i s e=>Vu (hs:=g) (b:=G) (e:=B7) i s e
   generalize h.put G (Obj.cells #[U 10000000000000000000] B7)=h1 at *
   generalize g.put G (Obj.cells #[U 10000000000000000000] B7)=g1 at *
   refine Ao A3f rfl ?_
   intro b2 S
   refine ⟨_,_,_,rfl,?_⟩
   have split:∀ {C:aV} {o:List (Option aQ × Nat × Nat)} {PA:Option aQ} {k y:Nat} {j d:aV},cI C j Dl 1 PA k y (o.map slT)->cI j d eT 1 A n c (yv l)->o.length=k->g.le d->(∀ i s,o[i]? = some s->s.2.1<=s.2.2/\Mw d s.1 s.2.1 (Fd i:Int))->k<=26->
    aM prog F2 #[.slice A n c,.slice XA xn xc,I (0:Int),.slice PA k y] C (fun r R=>∃ (A1:Option aQ) (n1 c1:Nat),r= .slice A1 n1 c1/\K (.slice A1 n1 c1) R):=by
    intro C o PA k y j d B O J D q m
    obtain ⟨g3,ab,u⟩:=B.swap O
    have H:=Heap.le_trans D u.le
    refine Ok k (W:=0) (gp.mono H) ab (M.mono H) hxc hx ⟨o,J,u.slV,fun i s e=>⟨(q i s e).1,(q i s e).2.mono u.le⟩⟩ u.2.1 m (.inl rfl) (by omega) ?_
    intro A' n' c' E g' h' x
    refine ⟨_,_,_,rfl,hK _ _ _ E g' _ ?_⟩
    rw [A3j,<- Ag Q] at x
    exact x.weak H
   refine ⟨fun s C=>∃ (o:List (Option aQ × Nat × Nat)) (PA:Option aQ) (k y:Nat) (j d:aV),s=[.slice PA k y]/\cI C j Dl 1 PA k y (o.map slT)/\cI j d eT 1 A n c (yv l)/\o.length=k/\0<k/\g.le d/\(∀ i s,o[i]? = some s->s.2.1<=s.2.2/\Mw d s.1 s.2.1 (Fd i:Int))/\2^(k-1)<=2*xn,fun s _=>match s with|[.slice _ n _]=>xn-n|_=>0,⟨[(some ⟨G,0,none⟩,1,1)],_,1,1,h1,g1,rfl,⟨by simp,by simp,.inr ⟨b2,[.slice (some ⟨G,0,none⟩) 1 1],rfl,S,rfl,by simp,by simp⟩⟩,p1,rfl,by omega,l1,w1,by simp;omega⟩,?_⟩
   rintro PA k y C ⟨o,PA',k',ag,j,d,hs,B,O,J,aj,D,q,am⟩
   simp only [aI,aS,and_true] at hs
   obtain ⟨rfl,rfl,rfl⟩:=hs
   have m:k<=26:=by
    by_cases L:k<=26
    ·exact L
    ·have h1:2^26<=2^(k-1):=aN (by decide) (by omega)
     have h2:(2:Nat)^26=67108864:=by decide
     omega
   refine B3 (fun ai=>?_) (fun _=>split B O J D q m)
   have T:B4 ((k:Int)-1)=((k-1:Nat):Int):=by rw [B5 (by omega) (by omega)];omega
   obtain ⟨a,ha,L⟩:=B.slV.at (i:=k-1) (by rw [cX];omega)
   rw [dL] at L
   obtain ⟨h4,Mk⟩:=q (k-1) (o[k-1]'(by omega)) (aT (by omega))
   generalize o[k-1]'(by omega)=s at *
   simp only [T,aC,aY]
   refine ⟨a,ha,by omega,by omega,_,_,_,L,?_⟩
   have ae:=Mk.tenP_ge
   have al:=Mk.tenP_le
   have E:B4 (2*(s.2.1:Int))=2*(s.2.1:Int):=B5 (by omega) (by omega)
   rw [E]
   refine B3 (fun h5=>?_) (fun _=>split B O J D q m)
   refine ⟨a,ha,by omega,by omega,_,_,_,L,?_⟩
   refine B.call (O.call ?_)
   refine D9 Mk Mk h4 h4 (by omega) (by omega) ?_
   intro A2 m2 c2 g2 l2 k2 M2 ac V ad X
   refine ⟨_,_,_,rfl,?_⟩
   refine Fg A3f X rfl rfl (by omega) (by omega) ?_
   intro A3 c3 h3 g3 H p3
   obtain ⟨g4,Z,aa⟩:=V.after H
   have hm:2^k=2*2^(k-1):=by
    obtain ⟨i,rfl⟩:∃ i,k=i+1:=⟨k-1,by omega⟩
    rw [cA];simp;omega
   have ak:k<2^k:=Nat.lt_two_pow_self
   refine ⟨⟨o++[(A2,m2,c2)],A3,k+1,c3,g3,g4,rfl,?_,aa,by simp;omega,by omega,Heap.le_trans D (Heap.le_trans l2 Z),?_,?_⟩,?_⟩
   ·rw [cW];exact p3
   ·refine Yw (fun i s e=>⟨(q i s e).1,(q i s e).2.mono (Heap.le_trans l2 Z)⟩) ⟨k2,?_⟩
    rw [J,show Fd k=Fd (k-1)*Fd (k-1) by rw [<- Yv];congr 1;omega,aU]
    exact M2.mono Z
   ·rw [cL];omega
   ·show xn-(k+1)<xn-k
    omega
def B0m{z:Int}{s:Bool}{xn xc m:Nat}(i:ZI h s XA xn xc z)(hz:ZB m z)(hm:m<=100000000):xn<=10000000:=by
 obtain ⟨k,hk⟩:∃ k,k=10000000:=⟨_,rfl⟩
 rw [<- hk]
 refine i.mag.len_le (by decide) ?_
 rw [Fi]
 have b:(z.natAbs:Int)<2^m:=by
  have:((z.natAbs:Nat):Int)<((2^m:Nat):Int):=Int.ofNat_lt.2 hz
  simpa using this
 have a:=D3 (B:=2) (by decide) (show m<=64*k by omega)
 exact Int.lt_of_lt_of_le b a
def Ev{s:Bool}{xn xc:Nat}{z:Int}(gp:Gp g)(p:cI h g eT 1 A n c (yv l))(i:ZI g s XA xn xc z){m:Nat}(hz:ZB m z)(hm:m<=100000000)(hn:n<=100000000)
 (hK:∀ A' n' c' e3 g' h',Ext g eT A n c l (Hp z) A' n' c' e3 g' h'->K (.slice A' n' c') h'):aM prog Fq #[.agg #[.bool s,.slice XA xn xc],.slice A n c] h K:=by
 have k:=B0m i hz hm
 refine A5j _ _ _ _ _ _ _ ?_
 unfold A9a
 refine Br.of (fun e=>?_) (fun e=>?_)
 ·have a:z<0:=by have:=i.sgn;rw [e] at this;simpa using this.symm
  rw [Vr a] at hK
  refine Dr (ch:=45) rfl p (by omega) ?_
  intro A1 w c1 x y q b
  have:=b.len
  refine El (gp.mono b.le) b.priv (i.mag.mono b.le) i.cap k (by simp at this;omega) ?_
  intro A2 u c2 o r j d
  exact ⟨_,_,_,rfl,hK _ _ _ _ _ _ (b.trans d)⟩
 ·have a:¬ z<0:=by have:=i.sgn;rw [e] at this;simpa using this.symm
  rw [Jh a] at hK
  refine El gp p i.mag i.cap k (by omega) ?_
  intro A2 u c2 o r j d
  exact ⟨_,_,_,rfl,hK _ _ _ _ _ _ d⟩
def Et{s:Bool}{xn xc:Nat}{z:Int}(gp:Gp h)(i:ZI h s XA xn xc z){m:Nat}(hz:ZB m z)(hm:m<=100000000)(hK:K (.string (bs (Hp z))) h):aM prog Fo #[.agg #[.bool s,.slice XA xn xc]] h K:=by
 refine FCall.pure (A5g _ _ _ _ ?_)
 unfold A94
 refine Ev (l:=[]) (eT:=G0) gp (Priv.nil _ _ _ _) i hz hm (by omega) ?_
 intro A' g b d e c x
 refine ⟨_,_,_,rfl,?_⟩
 have a:=x.len
 refine Ji Fe.und Cn T8 x.priv.slV (by simpa using a) ⟨_,rfl,?_⟩
 exact ⟨Heap.le_trans x.le x.priv.le,hK⟩
def A17{s:Bool}{xn xc:Nat}{z:Int}(i:ZI h s XA xn xc z)(hK1: -9223372036854775808<=z->z<9223372036854775808->K (.tuple #[I z,.bool true]) h)(hK0:¬ (-9223372036854775808<=z/\z<9223372036854775808)->K (.tuple #[I 0,.bool false]) h):aM prog Ww #[.agg #[.bool s,.slice XA xn xc]] h K:=by
 have x:=i.zeroIff
 have o:=S2 i.sgn
 refine A98 _ _ _ _ ?_
 unfold B3p
 refine E7 (fun e=>?_) (fun e=>?_)
 ·obtain rfl:z=0:=by omega
  exact hK1 (by omega) (by omega)
 ·obtain ⟨xs,a,p,m,y,g⟩:=i.mag
  have j:=J5 m 0
  refine p.load a (by omega) (by omega) ?_
  rw [show ((0:Int)).toNat=0 from rfl]
  refine B3 (fun l=>?_) (fun l=>?_)
  ·refine hK0 ?_
   have q:=i.mag.ge (by decide) (by omega)
   have u:b64^1<=b64^(xn-1):=D3 (by decide) (by omega)
   have B:b64^1=18446744073709551616:=by decide
   omega
  ·obtain ⟨w,rfl⟩:∃ w,xs=[w]:=by
    rcases xs with _|⟨w,_|⟨A,r⟩⟩
    ·simp at a;omega
    ·exact ⟨w,rfl⟩
    ·simp at a;omega
   rw [Dk] at g
   have k:[w].getD 0 0=w:=rfl
   rw [k] at j ⊢
   rcases o with ⟨rfl,n⟩|⟨rfl,n⟩
   ·refine Br.of (fun _=>?_) (fun c=>by cases c)
    refine B3 (fun b=>?_) (fun b=>?_)
    ·have:B4 (C0 (0-w))=z:=by rw [F3,A6a (by omega) (by omega)];omega
     rw [this];exact hK1 (by omega) (by omega)
    ·refine Br.of (fun d=>by cases d) (fun _=>?_)
     exact hK0 (by omega)
   ·refine Br.of (fun c=>by cases c) (fun _=>?_)
    refine Br.of (fun _=>?_) (fun d=>by cases d)
    refine B3 (fun b=>?_) (fun b=>?_)
    ·have:B4 w=z:=by rw [B5 (by omega) (by omega)];omega
     rw [this];exact hK1 (by omega) (by omega)
    ·exact hK0 (by omega)
end
def B4q(q:Rat)(f:Int):(q-f).num=q.num-f*q.den/\(q-f).den=q.den:=by
 have c:bH (q.num-f*q.den).natAbs q.den=1:=by
  have a:bI (q.num-f*q.den) q.den=bI q.num q.den:=Int.gcd_sub_mul_right_left _ _ _
  have b:bI q.num q.den=1:=by
   have:=q.reduced
   unfold Nat.Coprime at this
   unfold bI
   simpa using this
  rw [b] at a
  unfold bI at a
  simpa using a
 have e:q-f=⟨q.num-f*q.den,q.den,q.den_nz,c⟩:=by
  rw [Rat.sub_def',Rat.mk_eq_mkRat];simp
 rw [e];exact ⟨rfl,rfl⟩
def A7j(a b:Rat):(a*b).num=a.num.tdiv (bH a.num.natAbs b.den:Nat)*b.num.tdiv (bH b.num.natAbs a.den:Nat)/\(a*b).den=a.den/(bH b.num.natAbs a.den)*(b.den/(bH a.num.natAbs b.den)):=by
 show (Rat.mul a b).num=_/\(Rat.mul a b).den=_
 delta Rat.mul
 simp only [Int.divExact_eq_tdiv,Nat.divExact_eq_div,and_self]
def Us(a b:Rat)(h:a.den.gcd b.den=1):(a+b).num=a.num*b.den+b.num*a.den/\(a+b).den=a.den*b.den:=by
 show (dT a b).num=_/\(dT a b).den=_
 delta dT
 simp only [h,dif_pos,and_self]
def Ur(a b:Rat)(h:a.den.gcd b.den≠1){g r:Nat}{z:Int}(hg:g=a.den.gcd b.den)(hz:z=a.num*(b.den/g:Nat)+b.num*(a.den/g:Nat))(hr:r=z.natAbs.gcd g):(a+b).num=z.tdiv r/\(a+b).den=a.den/g*(b.den/r):=by
 subst hg hz
 have c:r∣b.den:=by rw [hr];exact Nat.dvd_trans (cQ ..) (cQ ..)
 show (dT a b).num=_/\(dT a b).den=_
 delta dT
 simp only [h,dif_neg,not_false_eq_true]
 rw [Rat.maybeNormalize_eq]
 subst hr
 refine ⟨?_,Nat.mul_div_assoc _ c⟩
 simp only [Int.divExact_eq_tdiv]
def Ks(a:Rat)(z:Int):(a+z).num=z*a.den+a.num/\(a+z).den=a.den:=by
 have:=B4q a (-z)
 rw [Rat.intCast_neg] at this
 have e:a - -(z:Rat)=a+z:=by grind
 rw [e] at this
 refine ⟨by rw [this.1,Int.neg_mul];omega,this.2⟩
def Ul{q:Rat}(h:q.den=1):q=(q.num:Rat):=by
 apply Rat.ext
 ·simp
 ·simpa using h
abbrev dgt(c:UInt8):Bool:=decide (H0 c)
def Jk(l:List UInt8):∀ c∈l.takeWhile dgt,H0 c:=by
 induction l with
 | nil=>simp
 | cons d r ih=>
  intro c a
  by_cases b:H0 d
  ·simp [b] at a
   rcases a with rfl|a
   ·exact b
   ·exact ih c a
  ·simp [b] at a
def B1f(l:List UInt8):Bool:=decide ([45] <+: l)
def Cq(l:List UInt8):List UInt8:=if [45] <+: l then l.drop 1 else l
def A3i(l:List UInt8):l=(if B1f l then [45] else [])++Cq l:=by
 unfold B1f Cq
 by_cases h:[45] <+: l
 ·obtain ⟨t,rfl⟩:=h;simp
 ·simp [h]
def A75(l:List UInt8):B1f l=(l.head? == some 45):=by
 unfold B1f
 cases l with
 | nil=>simp
 | cons c r=>
  rw [cY,cJ,decide_eq_true_iff,beq_iff_eq,bG]
  constructor
  ·rintro ⟨t,e⟩;simp at e;exact e.1.symm
  ·rintro rfl;exact ⟨r,rfl⟩
def Form.parts{l:List UInt8}{neg:Bool}{a b:List UInt8}(f:Form l neg a b):neg=B1f l/\a=(Cq l).takeWhile dgt/\(if b=[] then [] else 47::b)=(Cq l).dropWhile dgt:=by
 have i:neg=B1f l:=by rw [A75];exact f.head
 have e:=A3i l
 rw [<- i] at e
 have g:=e.symm.trans f.eq
 rw [aO] at g
 have k:=eC g
 have j:∀ c,(if b=[] then [] else 47::b:List UInt8).head? = some c->¬ H0 c:=by
  intro c d
  split at d
  ·simp at d
  ·simp at d;subst d;decide
 have:=Do f.da j
 rw [<- k] at this
 exact ⟨i,this.1.symm,this.2.symm⟩
section
variable {h g:aV} {K:VP} {l:List UInt8}
def Hw(hl:l.length<=1000000000)(hK:K (.tuple #[.string (bs (l.takeWhile dgt)),.string (bs (l.dropWhile dgt))]) h):aM prog X3 #[.string (bs l)] h K:=by
 refine Xw _ ?_
 unfold Ux
 simp only [L7]
 refine ⟨fun L g=>L=[I (((l.takeWhile dgt).length:Nat):Int)]/\g=h,?_,?_⟩
 ·refine ⟨fun L g=>∃ k:Nat,L=[I k]/\g=h/\k<=l.length/\(∀ c∈l.take k,H0 c),fun L _=>l.length-(iAt L 0).toNat,⟨0,rfl,rfl,by omega,by simp⟩,?_⟩
  rintro n g ⟨k,j,rfl,z,i⟩
  obtain rfl:=sI1 j
  have a:(∀ c,(l.drop k).head? = some c->¬ H0 c)->[I (k:Int)]=[I (((l.takeWhile dgt).length:Nat):Int)]/\g=g:=by
   intro y
   have:=Do i y
   rw [bO] at this
   refine ⟨?_,rfl⟩
   rw [this.1,aL,aZ z]
  refine B3 (fun A=>?_) (fun A=>?_)
  ·have e:k<l.length:=by omega
   have d:(bs l)[(k:Int).toNat]? = some l[k]:=by rw [aC,Rl,aT e]
   have w:(l.drop k).head? = some l[k]:=by rw [List.head?_drop,aT e]
   refine ⟨l[k],⟨by omega,d⟩,B3 (fun q=>?_) (fun q=>?_)⟩
   ·refine ⟨l[k],⟨by omega,d⟩,B3 (fun u=>?_) (fun u=>?_)⟩
    ·rw [B5 (by omega) (by omega)]
     refine ⟨⟨k+1,rfl,rfl,by omega,?_⟩,by simp only [iAt,aH];omega⟩
     rw [cC e]
     intro c b
     rcases List.mem_append.1 b with o|o
     ·exact i c o
     ·rw [List.mem_singleton.1 o];exact ⟨by omega,by omega⟩
    ·exact a (fun c b=>by rw [w] at b;cases b;intro i;exact u (by have:=i.2;omega))
   ·exact a (fun c b=>by rw [w] at b;cases b;intro i;exact q (by have:=i.1;omega))
  ·exact a (fun c b=>by rw [cD (by omega)] at b;cases b)
 ·rintro n g ⟨j,rfl⟩
  obtain rfl:n=(((l.takeWhile dgt).length:Nat):Int):=by simpa using j
  have m:(l.takeWhile dgt).length<=l.length:=(eI _).length_le
  have r:l.take (l.takeWhile dgt).length=l.takeWhile dgt:=by
   conv=>lhs;rw [<- cF (p:=dgt) (l:=l)]
   rw [cF,List.prefix_iff_eq_take.1 (List.takeWhile_prefix _)]
   rw [aL,aZ m]
  have s:l.drop (l.takeWhile dgt).length=l.dropWhile dgt:=by
   have x:l.takeWhile dgt++l.drop (l.takeWhile dgt).length=l.takeWhile dgt++l.dropWhile dgt:=by
    rw [cF]
    conv=>lhs;lhs;rw [<- r]
    exact bO _ _
   exact eC x
  refine ⟨⟨by omega,by omega⟩,⟨by omega,by omega⟩,?_⟩
  rw [aC,O9,O9,bC,bK,r,s,aG (by rw [<- s,aX];omega)]
  exact hK
def U8(a:List UInt8):((bs a).toList==({ data:=#[] }:ByteArray).toList)=decide (a=[]):=Ny a []
def Ln(hl:l.length<=1000000000)(hK1:∀ neg a b,Form l neg a b->K (.tuple #[.agg #[.bool neg,.string (bs a),.string (bs b)],.bool true]) h)(hK0:(∀ neg a b,¬ Form l neg a b)->∀ neg a b,K (.tuple #[.agg #[.bool neg,.string (bs a),.string (bs b)],.bool false]) h):aM prog Ke #[.string (bs l)] h K:=by
 refine A9i _ ?_
 unfold B3w
 refine Sw (q:=[45]) ⟨_,_,rfl,?_⟩
 have A:(Cq l).length<=l.length:=by unfold Cq;split<;>simp
 show aM prog X3 #[.string (bs (Cq l))] h _
 refine Hw (by omega) ⟨_,_,rfl,?_⟩
 show Br _ _ _
 have z:Cq l=(Cq l).takeWhile dgt++(Cq l).dropWhile dgt:=List.takeWhile_append_dropWhile.symm
 have w:∀ c∈(Cq l).takeWhile dgt,H0 c:=Jk _
 have j:∀ neg a b,Form l neg a b->neg=B1f l/\a=(Cq l).takeWhile dgt/\(if b=[] then [] else 47::b)=(Cq l).dropWhile dgt:=fun neg a b f=>f.parts
 have g:=A3i l
 have aa:((Cq l).takeWhile dgt).length<=l.length:=bL (eI _).length_le A
 have N:((Cq l).dropWhile dgt).length<=l.length:=bL (List.dropWhile_sublist _).length_le A
 have ab:∀ c,((Cq l).dropWhile dgt).head? = some c->¬ H0 c:=fun c T=>by
  have:=List.head?_dropWhile_not dgt (Cq l)
  rw [T] at this
  simpa using this
 show Br _ _ _
 have D:decide ([45] <+: l)=B1f l:=rfl
 rw [D]
 generalize B1f l=neg at *
 generalize (Cq l).takeWhile dgt=a at *
 generalize (Cq l).dropWhile dgt=r at *
 generalize Cq l=t at *
 subst z
 have V:((bs a).toList==({ data:=#[48] }:ByteArray).toList)=decide (a=[48]):=Ny a [48]
 rw [V,U8,U8]
 refine B3 (fun S=>?_) (fun S=>?_)
 ·subst S
  refine T6 (Br.of (fun W=>?_) (fun W=>?_))
  ·subst W
   refine hK0 ?_ _ _ []
   intro H y i f
   obtain ⟨rfl,rfl,_⟩:=j _ _ _ f
   rcases f.ha with d|d
   ·exact d rfl
   ·cases d.2.1
  ·subst W
   by_cases G:r=[]
   ·rw [decide_eq_true G]
    subst G
    refine hK1 false [48] [] ⟨by simpa using g,by simpa using w,by simp,by simp,.inr ⟨rfl,rfl,rfl⟩,by simp,by simp⟩
   ·rw [decide_eq_false G]
    refine hK0 ?_ _ _ []
    intro H y i f
    obtain ⟨rfl,rfl,n⟩:=j _ _ _ f
    rcases f.ha with d|d
    ·exact d rfl
    ·rw [d.2.2] at n;exact G (by simpa using n.symm)
 ·refine ⟨fun L Z=>L=[.bool (decide (a=[]\/a.head? = some 48))]/\Z=h,?_,?_⟩
  ·refine B3 (fun d=>⟨by simp [d],rfl⟩) (fun d=>?_)
   obtain ⟨c,m,rfl⟩:=bW d
   refine ⟨c,⟨by omega,by rw [Rl];rfl⟩,?_,rfl⟩
   congr 2
   rw [cJ,beq_iff_eq,decide_eq_true_iff]
   simp only [reduceCtorEq,false_or,cY,bG]
   constructor
   ·intro e;apply UInt8.toNat_inj.1;show c.toNat=48;omega
   ·rintro rfl;rfl
  rintro R Z ⟨hL,rfl⟩
  obtain rfl:R=decide (a=[]\/a.head? = some 48):=by simpa using hL
  refine B3 (fun d=>?_) (fun d=>?_)
  ·refine hK0 ?_ _ _ []
   intro H y i f
   obtain ⟨rfl,rfl,_⟩:=j _ _ _ f
   rcases d with d|d
   ·exact f.ne d
   ·rcases f.ha with n|n
    ·exact n d
    ·exact S n.1
  ·have p:a≠[]:=fun e=>d (.inl e)
   have B:a.head? ≠ some 48:=fun e=>d (.inr e)
   refine B3 (fun n=>?_) (fun n=>?_)
   ·subst n
    exact hK1 neg a [] ⟨by simpa using g,w,by simp,p,.inl B,by simp,by simp⟩
   ·obtain ⟨c,m,rfl⟩:=bW n
    refine ⟨c,⟨by omega,by rw [Rl];rfl⟩,J9 (fun h4=>?_) (fun h4=>?_)⟩
    ·refine hK0 ?_ _ _ []
     intro H y i f
     obtain ⟨rfl,rfl,o⟩:=j _ _ _ f
     by_cases x:i=[]
     ·simp [x] at o
     ·rw [iN x] at o
      simp at o
      exact h4 (by rw [<- o.1];rfl)
    ·have T:c=47:=by apply UInt8.toNat_inj.1;show c.toNat=47;omega
     subst T
     refine ⟨⟨by omega,by rw [L7];simp;omega⟩,?_⟩
     rw [O9,show ((1:Int)).toNat=1 from rfl,L7,aG (by simp),List.drop_succ_cons,bC]
     refine Hw (by simp at N;omega) ⟨_,_,rfl,?_⟩
     have u:m=m.takeWhile dgt++m.dropWhile dgt:=List.takeWhile_append_dropWhile.symm
     have M:∀ c∈m.takeWhile dgt,H0 c:=Jk _
     have J:∀ i:List UInt8,(∀ c∈i,H0 c)->i=m->m.takeWhile dgt=i/\m.dropWhile dgt=[]:=by
      intro i hd e
      subst e
      have:=Do (r:=[]) hd (by simp)
      simpa using this
     generalize m.takeWhile dgt=b at *
     generalize m.dropWhile dgt=s at *
     have F:(s≠[]\/b=[]\/b.head? = some 48\/b=[49])->∀ neg' y i,¬ Form (((if neg=true then [45] else [])++(a++47::m))) neg' y i:=by
      rintro C H y i f
      rw [<- g] at f
      obtain ⟨rfl,rfl,o⟩:=j _ _ _ f
      by_cases x:i=[]
      ·simp [x] at o
      ·rw [iN x] at o
       simp at o
       obtain ⟨e6,e7⟩:=J i f.db o
       subst e6
       rcases C with k|k|k|k
       ·exact k e7
       ·exact x k
       ·exact f.hb k
       ·exact f.b1 k
     rw [U8,U8]
     have Q:((bs b).toList==({ data:=#[49] }:ByteArray).toList)=decide (b=[49]):=Ny b [49]
     rw [Q]
     refine B3 (fun k=>?_) (fun k=>hK0 (by rw [g];exact F (.inl k)) _ _ _)
     subst k
     rw [bY] at u
     subst u
     refine T6 (B3 (fun O=>hK0 (by rw [g];exact F (.inr (.inl O))) _ _ _) (fun O=>?_))
     obtain ⟨c,r3,rfl⟩:=bW O
     refine ⟨c,⟨by omega,by rw [Rl];rfl⟩,J9 (fun X=>?_) (fun X=>?_)⟩
     ·by_cases E:c::r3=[49]
      ·rw [decide_eq_true E]
       exact hK0 (by rw [g];exact F (.inr (.inr (.inr E)))) _ _ _
      ·rw [decide_eq_false E]
       refine hK1 neg a (c::r3) ⟨by simpa using g,w,M,p,.inl B,?_,E⟩
       intro e;simp at e;exact X (by rw [e];rfl)
     ·have hh:(c::r3).head? = some 48:=by
       simp only [cY,bG]
       apply UInt8.toNat_inj.1;show c.toNat=48;omega
      exact hK0 (by rw [g];exact F (.inr (.inr (.inl hh)))) _ _ _
end
def B2g:(prog.info? A6j).map (fun i=>i.zero)=some (some (.agg (bN 48 (.int .u8 0)))):=by kernel_rfl
def A07{x y:Int}(hy:0<y):(cU x y).num=x.tdiv (bI x y)/\((cU x y).den:Int)=y.tdiv (bI x y):=by
 have b:(bI x y:Int)∣x:=Int.gcd_dvd_left ..
 have a:(bI x y:Int)∣y:=Int.gcd_dvd_right ..
 constructor
 ·rw [Rat.num_divInt,bA hy,Int.one_mul,Int.gcd_comm,eD b]
 ·rw [Rat.den_divInt,iN (by omega),Int.gcd_comm,dM,Int.natAbs_of_nonneg (by omega),eD a]
def A3b{q:Rat}(h:q.den=1):C9 q=Hp q.num:=by unfold C9;rw [iP h,bY]
def Yr{q:Rat}(h:q.den≠1):C9 q=Hp q.num++[47]++Hp (q.den:Int):=by
 unfold C9;rw [iN h,Jh (i:=(q.den:Int)) (by omega),aK];simp
section
variable {h g:aV} {K:VP} {l:List UInt8}
def C06{k:Nat}(h:k<=18):10^k<=1000000000000000000:=bL (aN (by decide) h) (by decide)
def Ej(hd:∀ c∈l,H0 c)(hl:l.length<=18)(hK:K (I (N2 l:Int)) h):aM prog V8 #[.string (bs l)] h K:=by
 refine Sf _ ?_
 unfold Of
 simp only [L7]
 refine ⟨fun L i=>∃ k:Nat,L=[I (N2 (l.take k):Int),I k]/\i=h/\k<=l.length,fun L _=>l.length-(iAt L 1).toNat,⟨0,rfl,rfl,by omega⟩,?_⟩
 rintro n o i ⟨k,g,rfl,q⟩
 simp only [aI,aP,and_true,true_and] at g
 obtain ⟨rfl,rfl⟩:=g
 refine B3 (fun m=>?_) (fun m=>?_)
 ·have a:k<l.length:=by omega
  have d:=hd l[k] (cT a)
  have b:=It (l:=l.take (k+1)) (fun c j=>hd c (bV j))
  rw [aL,aZ (by omega)] at b
  have r:=C06 (k:=k+1) (by omega)
  have p:N2 (l.take (k+1))=10*N2 (l.take k)+(l[k].toNat-48):=by rw [cC a,Kl]
  unfold H0 at d
  refine ⟨l[k],⟨by omega,by rw [aC,Rl,aT a]⟩,?_⟩
  have e:B4 (B4 (10*((N2 (l.take k):Nat):Int))+B4 (wu8 (((l[k].toNat:Nat):Int)-48)))=((N2 (l.take (k+1)):Nat):Int):=by
   rw [A37 (by omega) (by omega),B5 (n:=((l[k].toNat:Nat):Int)-48) (by omega) (by omega),B5 (n:=10*((N2 (l.take k):Nat):Int)) (by omega) (by omega),B5 (by omega) (by omega)]
   omega
  rw [e,B5 (n:=(k:Int)+1) (by omega) (by omega)]
  exact ⟨⟨k+1,rfl,rfl,by omega⟩,by simp only [iAt,aH,aJ];omega⟩
 ·obtain rfl:k=l.length:=by omega
  rw [List.take_length];exact hK
def Yu{a b:Nat}(hK:K (I (bH a b:Int)) h):aM prog A3q #[I (a:Int),I (b:Int)] h K:=by
 refine B65 _ _ ?_
 unfold C2b
 refine ⟨fun L d=>∃ x y:Nat,L=[I x,I y]/\d=h/\bH x y=bH a b,fun L _=>(iAt L 1).toNat,⟨a,b,rfl,rfl,rfl⟩,?_⟩
 rintro m j d ⟨x,y,l,rfl,c⟩
 obtain ⟨rfl,rfl⟩:m=(x:Int)/\j=(y:Int):=by simpa using l
 refine J9 (fun g=>?_) (fun g=>?_)
 ·have i:y≠0:=by omega
  refine B3 (fun e=>absurd e g) (fun _=>?_)
  have e:cM (x:Int) (y:Int)=((x%y:Nat):Int):=(dE x y).symm
  rw [e]
  have k:=Nat.mod_lt x (Nat.pos_of_ne_zero i)
  refine ⟨⟨y,x%y,rfl,rfl,?_⟩,by simp only [iAt,aH,aJ];omega⟩
  rw [<- c,Nat.gcd_comm x y,Nat.gcd_rec y x,Nat.gcd_comm]
 ·obtain rfl:y=0:=by omega
  rw [Nat.gcd_zero_right] at c
  rw [c];exact hK
def Bz(hK1:∀ q,l=C9 q->q.num.natAbs<1000000000->q.den<1000000000->K (.tuple #[.agg #[I q.num,I (q.den:Int)],.bool true]) h)(hK0:K (.tuple #[.agg #[I 0,I 0],.bool false]) h):aM prog W9 #[.string (bs l)] h K:=by
 refine Xv _ ?_
 unfold Uw
 rw [L7]
 refine B3 (fun _=>hK0) (fun T=>?_)
 refine Ln (by omega) ?_ ?_
 ·intro neg a b f
  refine ⟨_,_,_,_,rfl,?_⟩
  simp only [L7]
  refine ⟨fun L i=>L=[.bool (decide (a.length>9\/b.length>9))]/\i=h,Br.of (fun e=>by cases e) (fun _=>B3 (fun y=>⟨?_,rfl⟩) (fun y=>⟨?_,rfl⟩)),?_⟩
  ·rw [decide_eq_true (show a.length>9\/b.length>9 by omega)]
  ·by_cases C:b.length>9
   ·rw [decide_eq_true (show a.length>9\/b.length>9 by omega)]
    exact congrArg (fun x=>[Value.bool x]) (decide_eq_true (show ((b.length:Nat):Int)>9 by omega))
   ·rw [decide_eq_false (show ¬ (a.length>9\/b.length>9) by omega)]
    exact congrArg (fun x=>[Value.bool x]) (decide_eq_false (show ¬ ((b.length:Nat):Int)>9 by omega))
  rintro g i ⟨s,rfl⟩
  obtain rfl:g=decide (a.length>9\/b.length>9):=by simpa using s
  refine B3 (fun _=>hK0) (fun y=>?_)
  have j:(Nx neg a).natAbs=N2 a:=by unfold Nx;split<;>simp
  have D:=It f.da
  have E:=It f.db
  have z:∀ k,k<=9->10^k<=1000000000:=fun k J=>bL (aN (by decide) J) (by decide)
  have A:=z a.length (by omega)
  have G:=z b.length (by omega)
  refine Ej f.da (by omega) ⟨_,rfl,?_⟩
  refine ⟨fun L d=>L=[I 0,I 0,I (N2 a:Int),I (Jb b:Int)]/\d=i/\bH (N2 a) (Jb b)=1,?_,?_⟩
  ·rw [U8]
   refine T6 (B3 (fun p=>?_) (fun p=>?_))
   ·subst p;exact ⟨rfl,rfl,by unfold Jb;simp⟩
   ·refine Ej f.db (by omega) ⟨_,rfl,Yu ⟨_,rfl,J9 (fun _=>hK0) (fun V=>?_)⟩⟩
    have r:Jb b=N2 b:=by unfold Jb;rw [iN p]
    rw [r]
    exact ⟨rfl,rfl,by omega⟩
  ·rintro F H S R u ⟨o,rfl,B⟩
   simp only [aI,aP,and_true,true_and] at o
   obtain ⟨_,_,rfl,rfl⟩:=o
   obtain ⟨q,w⟩:=f.isNum.2 B
   have c:=f.of_txt w
   have m:Jb b<1000000000:=by unfold Jb;split<;>omega
   refine ⟨fun L d=>L=[I q.num,I (q.den:Int)]/\d=u,Br.of (fun e=>?_) (fun e=>?_),?_⟩
   ·rw [c.1,c.2,e,B5 (by omega) (by omega)]
    exact ⟨by unfold Nx;simp,rfl⟩
   ·rw [c.1,c.2,e]
    exact ⟨by unfold Nx;simp,rfl⟩
   ·rintro N Q M ⟨n,rfl⟩
    simp only [aI,aP,and_true,true_and] at n
    obtain ⟨rfl,rfl⟩:=n
    exact hK1 q w (by rw [c.1,j];omega) (by rw [c.2];exact m)
 ·intro O neg a b
  refine ⟨_,_,_,_,rfl,?_⟩
  refine ⟨fun L i=>L=[.bool true]/\i=h,T6 ⟨rfl,rfl⟩,?_⟩
  rintro g i ⟨s,rfl⟩
  obtain rfl:g=true:=by simpa using s
  exact Br.of (fun _=>hK0) (fun e=>by cases e)
def Bi{l':List UInt8}(hK1:∀ p q,l=C9 p->l'=C9 q->p.num.natAbs<1000000000->p.den<1000000000->q.num.natAbs<1000000000->q.den<1000000000->K (.tuple #[.agg #[I p.num,I (p.den:Int)],.agg #[I q.num,I (q.den:Int)],.bool true]) h)(hK0:K (.tuple #[.agg #[I 0,I 0],.agg #[I 0,I 0],.bool false]) h):aM prog Ai #[.string (bs l),.string (bs l')] h K:=by
 refine A2t _ _ ?_
 unfold A47
 refine Bz ?_ ⟨_,_,_,rfl,T6 hK0⟩
 intro p d g b
 refine ⟨_,_,_,rfl,T6 ?_⟩
 refine Bz ?_ ⟨_,_,_,rfl,T6 hK0⟩
 intro q a e c
 exact ⟨_,_,_,rfl,T6 (hK1 p q d a g b e c)⟩
def X7{num den:Int}(gp:Gp h)(hd:den≠0)(h1:num.natAbs<4000000000000000000)(h2:den.natAbs<4000000000000000000)(hK:K (.string (bs (C9 (cU num den)))) h):aM prog Q3 #[I num,I den] h K:=by
 refine FCall.pure (Se _ _ ?_)
 unfold Oe
 refine ⟨fun L A=>A=h/\∃ n d:Int,L=[I n,I d]/\0<d/\cU n d=cU num den/\n.natAbs=num.natAbs/\d.natAbs=den.natAbs,B3 (fun l=>⟨rfl,-num,-den,?_,by omega,Rat.neg_divInt_neg num den,by omega,by omega⟩) (fun l=>⟨rfl,num,den,rfl,by omega,rfl,rfl,rfl⟩),?_⟩
 ·rw [B5 (by omega) (by omega),B5 (by omega) (by omega),Int.zero_sub,Int.zero_sub]
 rintro g r A ⟨rfl,n,d,D,z,J,hn,N⟩
 simp only [aI,aP,and_true,true_and] at D
 obtain ⟨rfl,rfl⟩:=D
 rw [<- J] at hK
 have i:=A07 (x:=g) z
 have V:=A08 (a:=g) (b:=r) (by omega)
 generalize cU g r=q at *
 have T:=q.den_nz
 refine ⟨fun L w=>w=A/\L=[I q.num,I (q.den:Int)],J9 (fun l=>?_) (fun l=>?_),?_⟩
 ·have C:(if (B4 (0-g))>g then B4 (0-g) else g)=((g.natAbs:Nat):Int):=by
   rw [B5 (by omega) (by omega)];split<;>omega
  obtain ⟨k,rfl⟩:∃ k:Nat,r=k:=⟨r.toNat,by omega⟩
  rw [C]
  refine Yu ⟨_,rfl,?_⟩
  have ac:0<bH g.natAbs k:=dY _ (by omega)
  refine B3 (fun e=>by omega) (fun _=>B3 (fun e=>by omega) (fun _=>⟨rfl,?_⟩))
  have E:dI g ((bH g.natAbs k:Nat):Int)=q.num:=i.1.symm
  have X:dI (k:Int) ((bH g.natAbs k:Nat):Int)=(q.den:Int):=i.2.symm
  rw [E,X,B5 (by omega) (by omega),B5 (by omega) (by omega)]
 ·subst l
  have G:bI g 1=1:=by simp
  rw [G] at i
  simp at i
  refine ⟨rfl,?_⟩
  rw [i.1]
  simp only [aI,aP,and_true,true_and];omega
 rintro n2 d2 m ⟨rfl,o⟩
 simp only [aI,aP,and_true,true_and] at o
 obtain ⟨rfl,rfl⟩:=o
 refine E7 (fun l=>?_) (fun l=>?_)
 ·rw [A3b (by omega)] at hK
  exact Hs gp (by omega) (by omega) ⟨_,rfl,B0 _,hK⟩
 ·rw [Yr (by omega)] at hK
  refine Kr B2g ?_
  intro b S
  have Q:(dZ (bN 48 (.int .u8 0))).cells=(aE 48 (bB .u8 0)).toArray:=by rfl
  rw [Q]
  refine ⟨_,rfl,⟨by omega,by omega⟩,?_⟩
  have p:J6 (some ⟨b,0,none⟩) 48 0 1=some ⟨b,0,none⟩:=rfl
  rw [p,show ((0:Int)).toNat-0=0 from rfl,show 48-0=48 from rfl]
  have H:cI (m.put b (.cells (aE 48 (bB .u8 0)).toArray A6j)) m A6j 1 (some ⟨b,0,none⟩) 0 48 (yv []):=⟨by simp [yv],by omega,.inr ⟨b,aE 48 (bB .u8 0),rfl,S,rfl,by simp,by simp [yv]⟩⟩
  refine Hx gp H (by omega) (by omega) (by omega) ?_
  intro A1 Z c1 C g1 O u
  refine ⟨_,_,_,rfl,?_⟩
  have M:(Hp q.num).length<=20:=by
   unfold Hp
   have:(L0 q.num.natAbs).length<=19:=(Kn (by decide)).2 (aW (show q.num.natAbs<10000000000000000000 by omega) (by decide))
   split<;>simp<;>omega
  have W:=u.len
  refine Dr (ch:=47) rfl u.priv (by omega) ?_
  intro A2 R c2 e2 g2 ad B
  have j:=u.trans B
  have y:=j.len
  rw [aD,cZ] at y
  refine Hx (gp.mono j.le) B.priv (by omega) (by omega) (by omega) ?_
  intro A3 aa c3 E g3 ab F
  refine ⟨_,_,_,rfl,?_⟩
  rw [aO] at F
  have c:=j.trans F
  have s:=c.len
  refine Ji Fe.und Cn T8 c.priv.slV (by simpa using s) ⟨_,rfl,?_⟩
  refine ⟨Heap.le_trans c.le c.priv.le,?_⟩
  simpa using hK
end
structure RQ (h:aV) (w:QV) (q:Rat):Prop where
 num:ZI h w.s w.A w.n w.c q.num
 den:ZI h w.s2 w.A2 w.n2 w.c2 (if q.den=1 then 0 else (q.den:Int))
def ZB.gcd{m:Nat}{x y:Int}(hy:y≠0)(h:ZB m y):ZB m (bI x y:Int):=by
 refine h.le ?_
 rw [aK]
 exact dX (by omega) (Int.natAbs_dvd_natAbs.2 (Int.gcd_dvd_right x y))
def B4s{x y a b:Int}(ha:0<a)(hb:0<b)(hs:x.sign≠y.sign):Cc (x*a) (y*b)=Cc x y:=by
 have g:(x*a).sign=x.sign:=by rw [Int.sign_mul,bA ha,Int.mul_one]
 have i:(y*b).sign=y.sign:=by rw [Int.sign_mul,bA hb,Int.mul_one]
 have key:∀ u v:Int,u.sign≠v.sign->(u<v↔u.sign<v.sign)/\(v<u↔v.sign<u.sign):=by
  intro u v h
  have t:∀ w:Int,(w<0/\w.sign= -1)\/(w=0/\w.sign=0)\/(0<w/\w.sign=1):=fun w=>by
   rcases Int.lt_trichotomy w 0 with c|c|c
   ·exact .inl ⟨c,cN c⟩
   ·exact .inr (.inl ⟨c,by rw [c];rfl⟩)
   ·exact .inr (.inr ⟨c,bA c⟩)
  have m:=t u
  have l:=t v
  omega
 have k:=key x y hs
 have d:=key (x*a) (y*b) (by rw [g,i];exact hs)
 rw [g,i] at d
 unfold Cc
 by_cases c:x<y
 ·rw [iP c,iP (d.1.2 (k.1.1 c))]
 ·rw [iN c,iN (fun e=>c (k.1.2 (d.1.1 e)))]
  by_cases j:y<x
  ·rw [iP j,iP (d.2.2 (k.2.1 j))]
  ·rw [iN j,iN (fun e=>j (k.2.2 (d.2.1 e)))]
section
variable {h h':aV} {K:VP} {A B:Option aQ} {n c n' c':Nat} {s s':Bool} {x y z:Int} {m:Nat} {p q:Rat} {a b w:QV} {l:List UInt8}
def RQ.mono(hl:h.le h')(i:RQ h w q):RQ h' w q:=⟨i.num.mono hl,i.den.mono hl⟩
def RQ.whole(i:ZI h s A n c z):RQ h ⟨s,A,n,c,false,none,0,0⟩ (z:Rat):=⟨by simpa using i,by simpa using ZI.zero⟩
def RQ.zero:RQ h ⟨false,none,0,0,false,none,0,0⟩ 0:=⟨ZI.zero,ZI.zero⟩
def I0(i:RQ h w q)(hK:K (.bool (decide (q.den=1))) h):aM prog E4 #[.agg #[.bool w.s2,.slice w.A2 w.n2 w.c2]] h K:=by
 refine I3 i.den ?_
 have:=q.den_nz
 have e:decide ((if q.den=1 then (0:Int) else (q.den:Int))=0)=decide (q.den=1):=by
  rw [decide_eq_decide];split<;>omega
 rw [e];exact hK
def N7(i:ZI h s A n c z)(j:ZI h s' B n' c' y)(h1:q.num=z)(h2:(q.den:Int)=y)(hK:∀ w,RQ h w q->K w.v h):aM prog Q1 #[.agg #[.bool s,.slice A n c],.agg #[.bool s',.slice B n' c']] h K:=by
 subst h1 h2
 refine A5m _ _ _ _ _ _ _ _ ?_
 unfold A9j
 refine N3 j ⟨_,rfl,B3 (fun e=>?_) (fun e=>?_)⟩
 ·exact hK ⟨s,A,n,c,false,none,0,0⟩ ⟨i,by rw [iP (by omega)];exact ZI.zero⟩
 ·exact hK ⟨s,A,n,c,s',B,n',c'⟩ ⟨i,by rw [iN (by omega)];exact j⟩
def W8(i:RQ h w q)(hK:∀ s A n c h',h.le h'->ZI h' s A n c (q.den:Int)->K (.agg #[.bool s,.slice A n c]) h'):aM prog Hv #[w.v] h K:=by
 refine B6f _ _ _ _ _ _ _ _ ?_
 unfold C2k
 refine I0 i ⟨_,rfl,B3 (fun e=>?_) (fun e=>?_)⟩
 ·refine Pl (by decide) (by decide) ?_
  intro s A n c d b a
  exact ⟨_,_,_,_,rfl,hK _ _ _ _ _ b (by rw [e];exact a)⟩
 ·have:=i.den
  rw [iN e] at this
  exact hK _ _ _ _ _ (B0 _) this
def Rk(gl:Gtz h)(i:ZI h s A n c x)(j:ZI h s' B n' c' y)(hx:ZB m x)(hy:ZB m y)(hm:m<=6400000000)(hy0:0<y)(hK:∀ s1 A1 n1 c1 s2 A2 n2 c2 h',h.le h'->ZI h' s1 A1 n1 c1 (x.tdiv (bI x y))->ZI h' s2 A2 n2 c2 (y.tdiv (bI x y))->K (.tuple #[.agg #[.bool s1,.slice A1 n1 c1],.agg #[.bool s2,.slice A2 n2 c2]]) h'):aM prog Kg #[.agg #[.bool s,.slice A n c],.agg #[.bool s',.slice B n' c']] h K:=by
 refine A5n _ _ _ _ _ _ _ _ ?_
 unfold A9l
 refine N3 j ⟨_,rfl,B3 (fun e=>?_) (fun e=>?_)⟩
 ·subst e
  have k:bI x 1=1:=by simp
  rw [k] at hK
  exact hK _ _ _ _ _ _ _ _ _ (B0 _) (by simpa using i) (by simpa using j)
 ·refine Ci gl i j hx hy hm ?_
  intro A1 n1 c1 C d l
  have k:=Int.gcd_pos_of_ne_zero_right x (show y≠0 by omega)
  have a:ZB m (bI x y:Int):=ZB.gcd (by omega) hy
  refine ⟨_,_,_,_,rfl,R9 (i.mono d) l hx a hm (by omega) ?_⟩
  intro s2 A2 n2 c2 r b o
  refine ⟨_,_,_,_,rfl,b,R9 (j.mono (Heap.le_trans d b)) (l.mono b) hy a hm (by omega) ?_⟩
  intro u A3 q w z g p
  exact ⟨_,_,_,_,rfl,g,hK _ _ _ _ _ _ _ _ _ (Heap.le_trans d (Heap.le_trans b g)) (o.mono g) p⟩
def A4p(i:RQ h w q)(hK:∀ w',RQ h w' (-q)->K w'.v h):aM prog A86 #[w.v] h K:=by
 refine B6c _ _ _ _ _ _ _ _ ?_
 unfold C2h
 refine W5 i.num ?_
 intro b a
 exact ⟨_,_,_,_,rfl,B0 _,hK ⟨b,w.A,w.n,w.c,w.s2,w.A2,w.n2,w.c2⟩ ⟨by simpa using a,by simpa using i.den⟩⟩
def Dq(i:RQ h w q)(hK:K (I q.num.sign) h):aM prog Me #[w.v] h K:=by
 refine B2p _ _ _ _ _ _ _ _ ?_
 unfold B8z
 exact Cg i.num ⟨_,rfl,hK⟩
def Bh(i:RQ h w q)(hK:K (.bool (decide (q=0))) h):aM prog Cu #[w.v] h K:=by
 refine A5q _ _ _ _ _ _ _ _ ?_
 unfold A9q
 refine I3 i.num ⟨_,rfl,?_⟩
 have e:decide (q.num=0)=decide (q=0):=by rw [decide_eq_decide];exact cV
 rw [e];exact hK
def A4t(gl:Gtz h)(i:RQ h a p)(j:RQ h b q)(hp:Sz m p)(hq:Sz m q)(hm:2*m+1<=6400000000)(hK:∀ w h',h.le h'->RQ h' w (p+q)->K w.v h'):aM prog A87 #[a.v,b.v] h K:=by
 have ak:=p.den_nz
 have am:=q.den_nz
 have M:∀ {z:Int},ZB m z->ZB (2*m+1) z:=fun u=>u.mono (by omega)
 refine B6g _ _ _ _ _ _ _ _ _ _ _ _ _ _ _ _ ?_
 unfold C2l
 refine ⟨fun L hp=>L=[.bool (decide (p.den=1/\q.den=1))]/\hp=h,I0 i ⟨_,rfl,B3 (fun e=>?_) (fun e=>?_)⟩,?_⟩
 ·exact I0 j ⟨_,rfl,by simp [e],rfl⟩
 ·exact ⟨by simp [e],rfl⟩
 rintro af ac ⟨hL,rfl⟩
 obtain rfl:af=decide (p.den=1/\q.den=1):=by simpa using hL
 refine B3 (fun e=>?_) (fun e=>?_)
 ·refine Ew i.num j.num hp.num hq.num (by omega) ?_
  intro s1 A1 n1 c1 h1 l X
  refine ⟨_,_,_,_,rfl,hK ⟨s1,A1,n1,c1,false,none,0,0⟩ _ l ?_⟩
  have:=RQ.whole X
  rw [Rat.intCast_add,<- Ul e.1,<- Ul e.2] at this
  exact this
 ·refine ⟨fun L hp=>L=[.bool (decide (p.den=1))]/\hp=ac,I0 i ⟨_,rfl,rfl,rfl⟩,?_⟩
  rintro ai ar ⟨hL,rfl⟩
  obtain rfl:ai=decide (p.den=1):=by simpa using hL
  refine B3 (fun W=>?_) (fun W=>?_)
  ·have aa:q.den≠1:=fun V=>e ⟨W,V⟩
   have jd:=j.den
   rw [iN aa] at jd
   refine G9 i.num jd hp.num hq.den (by omega) ?_
   intro s1 A1 n1 c1 h1 l X
   refine ⟨_,_,_,_,rfl,l,Ew (m:=2*m+1) X (j.num.mono l) ((hp.num.mul hq.den).mono (by omega)) (M hq.num) hm ?_⟩
   intro s2 A2 n2 c2 h2 n i2
   have c:=Ks q p.num
   rw [<- Ul W,Rat.add_comm] at c
   refine ⟨_,_,_,_,rfl,n,hK ⟨s2,A2,n2,c2,b.s2,b.A2,b.n2,b.c2⟩ _ (Heap.le_trans l n) ⟨by rw [c.1];exact i2,?_⟩⟩
   rw [c.2]
   exact j.den.mono (Heap.le_trans l n)
  ·refine I0 j ⟨_,rfl,B3 (fun V=>?_) (fun V=>?_)⟩
   ·have k:=i.den
    rw [iN W] at k
    refine G9 j.num k hq.num hp.den (by omega) ?_
    intro s1 A1 n1 c1 h1 l X
    refine ⟨_,_,_,_,rfl,l,Ew (m:=2*m+1) X (i.num.mono l) ((hq.num.mul hp.den).mono (by omega)) (M hp.num) hm ?_⟩
    intro s2 A2 n2 c2 h2 n i2
    have c:=Ks p q.num
    rw [<- Ul V] at c
    refine ⟨_,_,_,_,rfl,n,hK ⟨s2,A2,n2,c2,a.s2,a.A2,a.n2,a.c2⟩ _ (Heap.le_trans l n) ⟨by rw [c.1];exact i2,?_⟩⟩
    rw [c.2]
    exact i.den.mono (Heap.le_trans l n)
   ·have k:=i.den
    have s:=j.den
    rw [iN W] at k
    rw [iN V] at s
    refine Ci gl k s hp.den hq.den (by omega) ?_
    intro A1 n1 c1 h1 l J
    rw [eE] at J
    obtain ⟨g,hg⟩:∃ g,g=p.den.gcd q.den:=⟨_,rfl⟩
    rw [<- hg] at J
    have Z:0<g:=by rw [hg];exact Nat.gcd_pos_of_pos_left _ (by omega)
    have aj:g∣q.den:=by rw [hg];exact cQ ..
    have y:ZB m (g:Int):=hq.den.le (by simpa using dX (by omega) aj)
    refine ⟨_,_,_,_,rfl,R9 (s.mono l) J hq.den y (by omega) (by omega) ?_⟩
    intro s2 A2 n2 c2 h2 n il
    rw [<- bX] at il
    refine ⟨_,_,_,_,rfl,n,R9 (k.mono (Heap.le_trans l n)) (J.mono n) hp.den y (by omega) (by omega) ?_⟩
    intro s3 A3 n3 c3 h3 R ir
    rw [<- bX] at ir
    have C:ZB m ((q.den/g:Nat):Int):=hq.den.le (by rw [aK,aK];exact bF _ _)
    have A:ZB m ((p.den/g:Nat):Int):=hp.den.le (by rw [aK,aK];exact bF _ _)
    have G:=Heap.le_trans l (Heap.le_trans n R)
    refine ⟨_,_,_,_,rfl,R,G9 (i.num.mono G) (il.mono R) hp.num C (by omega) ?_⟩
    intro s4 A4 n4 c4 h4 F i4
    refine ⟨_,_,_,_,rfl,F,G9 (j.num.mono (Heap.le_trans G F)) (ir.mono F) hq.num A (by omega) ?_⟩
    intro s5 A5 n5 c5 h5 H i5
    refine ⟨_,_,_,_,rfl,H,Ew (m:=2*m) (i4.mono H) i5 ((hp.num.mul C).mono (by omega)) ((hq.num.mul A).mono (by omega)) (by omega) ?_⟩
    intro s6 A6 n6 c6 h6 l6 Q
    obtain ⟨z,u⟩:∃ z,z=p.num*((q.den/g:Nat):Int)+q.num*((p.den/g:Nat):Int):=⟨_,rfl⟩
    rw [<- u] at Q
    have T:ZB (2*m+1) z:=by
     rw [u]
     exact ((hp.num.mul C).mono (show m+m<=2*m by omega)).add ((hq.num.mul A).mono (show m+m<=2*m by omega))
    have d:=Heap.le_trans G (Heap.le_trans F (Heap.le_trans H l6))
    refine ⟨_,_,_,_,rfl,l6,I3 Q ⟨_,rfl,B3 (fun E=>?_) (fun E=>?_)⟩⟩
    ·have:p+q=0:=by
      rw [<- cV]
      by_cases x:p.den.gcd q.den=1
      ·have:=(Us p q x).1
       rw [<- hg] at x
       rw [x,dC,dC] at u
       rw [this,<- u,E]
      ·have:=(Ur p q x hg u rfl).1
       rw [this,E];simp
     rw [this] at hK
     exact hK ⟨false,none,0,0,false,none,0,0⟩ _ d RQ.zero
    ·refine N3 (J.mono (Heap.le_trans n (Heap.le_trans R (Heap.le_trans F (Heap.le_trans H l6))))) ⟨_,rfl,B3 (fun ah=>?_) (fun ah=>?_)⟩
     ·have o:g=1:=by omega
      have c:=Us p q (by rw [<- hg];exact o)
      rw [o,dC,dC] at u
      refine G9 (k.mono d) (s.mono d) hp.den hq.den (by omega) ?_
      intro s7 A7 n7 c7 h7 B N
      refine ⟨_,_,_,_,rfl,B,N7 (q:=p+q) (Q.mono B) N (by rw [c.1,u]) (by rw [c.2,aU]) ?_⟩
      intro w iw
      exact ⟨_,_,_,_,_,_,_,_,rfl,B0 _,hK _ _ (Heap.le_trans d B) iw⟩
     ·have o:p.den.gcd q.den≠1:=by rw [<- hg];omega
      obtain ⟨r,hr⟩:∃ r,r=z.natAbs.gcd g:=⟨_,rfl⟩
      have c:=Ur p q o hg u hr
      have aq:0<r:=by rw [hr];exact dY _ Z
      have ag:r<=g:=by rw [hr];exact dX Z (cQ ..)
      have ab:=J.mono (Heap.le_trans n (Heap.le_trans R (Heap.le_trans F (Heap.le_trans H l6))))
      refine Ci (gl.mono d) Q ab T (M y) hm ?_
      intro A7 n7 c7 h7 B N
      have e7:bI z (g:Int)=r:=hr.symm
      rw [e7] at N
      have S:ZB m (r:Int):=y.le (by simpa using ag)
      refine ⟨_,_,_,_,rfl,R9 (Q.mono B) N T (M S) hm (by omega) ?_⟩
      intro s8 A8 n8 c8 h8 O i8
      refine ⟨_,_,_,_,rfl,O,R9 (s.mono (Heap.le_trans d (Heap.le_trans B O))) (N.mono O) hq.den S (by omega) (by omega) ?_⟩
      intro s9 A9 n9 c9 h9 l9 i9
      rw [<- bX] at i9
      have ae:ZB m ((q.den/r:Nat):Int):=hq.den.le (by rw [aK,aK];exact bF _ _)
      refine ⟨_,_,_,_,rfl,l9,G9 (ir.mono (Heap.le_trans F (Heap.le_trans H (Heap.le_trans l6 (Heap.le_trans B (Heap.le_trans O l9)))))) i9 A ae (by omega) ?_⟩
      intro ap A10 al ao an D ad
      refine ⟨_,_,_,_,rfl,D,N7 (q:=p+q) (i8.mono (Heap.le_trans l9 D)) ad c.1 (by rw [c.2,aU]) ?_⟩
      intro w iw
      exact ⟨_,_,_,_,_,_,_,_,rfl,B0 _,hK _ _ (Heap.le_trans d (Heap.le_trans B (Heap.le_trans O (Heap.le_trans l9 D)))) iw⟩
end
structure Gl (h:aV):Prop where
 tz:Gtz h
 p10:Gp h
def Gl.mono{h h':aV}(g:Gl h)(l:h.le h'):Gl h':=⟨g.tz.mono l,g.p10.mono l⟩
section
variable {h h':aV} {K:VP} {A B:Option aQ} {n c n' c':Nat} {s s':Bool} {x y z:Int} {m:Nat} {p q:Rat} {a b w:QV} {l:List UInt8}
def Tv(gl:Gtz h)(i:RQ h a p)(j:RQ h b q)(hp:Sz m p)(hq:Sz m q)(hm:m<=6400000000)(hK:∀ w h',h.le h'->RQ h' w (p*q)->K w.v h'):aM prog A3t #[a.v,b.v] h K:=by
 have N:=p.den_nz
 have R:=q.den_nz
 refine B6d _ _ _ _ _ _ _ _ _ _ _ _ _ _ _ _ ?_
 unfold C2i
 refine ⟨fun L hp=>L=[.bool (decide (p.num=0\/q.num=0))]/\hp=h,I3 i.num ⟨_,rfl,B3 (fun e=>?_) (fun e=>?_)⟩,?_⟩
 ·exact ⟨by simp [e],rfl⟩
 ·exact I3 j.num ⟨_,rfl,by simp [e],rfl⟩
 rintro z u ⟨x,rfl⟩
 obtain rfl:z=decide (p.num=0\/q.num=0):=by simpa using x
 refine B3 (fun e=>?_) (fun e=>?_)
 ·have:p*q=0:=by
   rw [cV,cV] at e
   exact Rat.mul_eq_zero.2 e
  rw [this] at hK
  exact hK ⟨false,none,0,0,false,none,0,0⟩ _ (B0 _) RQ.zero
 ·refine ⟨fun L hp=>L=[.bool (decide (p.den=1/\q.den=1))]/\hp=u,I0 i ⟨_,rfl,B3 (fun e=>?_) (fun e=>?_)⟩,?_⟩
  ·exact I0 j ⟨_,rfl,by simp [e],rfl⟩
  ·exact ⟨by simp [e],rfl⟩
  rintro o X ⟨x,rfl⟩
  obtain rfl:o=decide (p.den=1/\q.den=1):=by simpa using x
  refine B3 (fun e=>?_) (fun e=>?_)
  ·refine G9 i.num j.num hp.num hq.num hm ?_
   intro E A1 D c1 S g T
   refine ⟨_,_,_,_,rfl,hK ⟨E,A1,D,c1,false,none,0,0⟩ _ g ?_⟩
   have:=RQ.whole T
   rw [Rat.intCast_mul,<- Ul e.1,<- Ul e.2] at this
   exact this
  ·have k:=A7j p q
   refine W8 j ?_
   intro E A1 D c1 S g O
   refine ⟨_,_,_,_,rfl,g,Rk (gl.mono g) (i.num.mono g) O hp.num hq.den hm (by omega) ?_⟩
   intro s2 A2 n2 c2 s3 A3 n3 c3 h2 B F s
   have c:=Heap.le_trans g B
   refine ⟨_,_,_,_,_,_,_,_,rfl,B,W8 (i.mono c) ?_⟩
   intro s4 A4 n4 c4 h4 d r
   refine ⟨_,_,_,_,rfl,d,Rk (gl.mono (Heap.le_trans c d)) (j.num.mono (Heap.le_trans c d)) r hq.num hp.den hm (by omega) ?_⟩
   intro s5 A5 n5 c5 s6 A6 n6 c6 h5 n C A
   have W:bI p.num (q.den:Int)=bH p.num.natAbs q.den:=rfl
   have J:bI q.num (p.den:Int)=bH q.num.natAbs p.den:=rfl
   rw [W] at F s
   rw [J] at C A
   rw [<- bX] at s A
   refine ⟨_,_,_,_,_,_,_,_,rfl,n,G9 (F.mono (Heap.le_trans d n)) C hp.num.tdiv hq.num.tdiv hm ?_⟩
   intro s7 A7 n7 c7 h7 l H
   have V:ZB m ((p.den/bH q.num.natAbs p.den:Nat):Int):=hp.den.le (by rw [aK,aK];exact bF _ _)
   have Q:ZB m ((q.den/bH p.num.natAbs q.den:Nat):Int):=hq.den.le (by rw [aK,aK];exact bF _ _)
   refine ⟨_,_,_,_,rfl,l,G9 (A.mono l) (s.mono (Heap.le_trans d (Heap.le_trans n l))) V Q hm ?_⟩
   intro s8 A8 n8 Z h8 y G
   refine ⟨_,_,_,_,rfl,y,N7 (q:=p*q) (H.mono y) G k.1 (by rw [k.2,aU]) ?_⟩
   intro w M
   exact ⟨_,_,_,_,_,_,_,_,rfl,B0 _,hK _ _ (Heap.le_trans c (Heap.le_trans d (Heap.le_trans n (Heap.le_trans l y)))) M⟩
def Jq(i:RQ h w q)(hK:∀ w h',h.le h'->RQ h' w q⁻¹->K w.v h'):aM prog Hf #[w.v] h K:=by
 have s:=q.den_nz
 refine A2x _ _ _ _ _ _ _ _ ?_
 unfold A4b
 refine Cg i.num ⟨_,rfl,E7 (fun e=>?_) (fun e=>?_)⟩
 ·have c:q.num=0:=Int.sign_eq_zero_iff_zero.1 e
  have:q⁻¹=0:=by rw [Rat.num_eq_zero.1 c];exact Rat.inv_zero
  rw [this] at hK
  exact hK ⟨false,none,0,0,false,none,0,0⟩ _ (B0 _) RQ.zero
 ·have c:q.num≠0:=fun n=>e (by rw [n];rfl)
  refine E7 (fun j=>?_) (fun j=>?_)
  ·have l:q.num<0:=Int.sign_neg_iff.1 (by omega)
   refine W8 i ?_
   intro o A1 m c1 b a g
   refine ⟨_,_,_,_,rfl,a,W5 g ?_⟩
   intro x p
   refine ⟨_,_,_,_,rfl,B0 _,W5 (i.num.mono a) ?_⟩
   intro u r
   refine ⟨_,_,_,_,rfl,B0 _,N7 (q:=q⁻¹) p r ?_ ?_ ?_⟩
   ·rw [Rat.num_inv,j];omega
   ·rw [Rat.den_inv,iN c];omega
   ·intro w k
    exact ⟨_,_,_,_,_,_,_,_,rfl,B0 _,hK _ _ a k⟩
  ·have d:0<q.num:=by
    rcases Int.lt_trichotomy q.num 0 with b|b|b
    ·exact absurd (cN b) j
    ·exact absurd b c
    ·exact b
   refine W8 i ?_
   intro o A1 m c1 b a g
   refine ⟨_,_,_,_,rfl,a,N7 (q:=q⁻¹) g (i.num.mono a) ?_ ?_ ?_⟩
   ·rw [Rat.num_inv,bA d,Int.one_mul]
   ·rw [Rat.den_inv,iN c];omega
   ·intro w k
    exact ⟨_,_,_,_,_,_,_,_,rfl,B0 _,hK _ _ a k⟩
def A4r(gl:Gtz h)(i:RQ h a p)(j:RQ h b q)(hp:Sz m p)(hq:Sz m q)(hm1:1<=m)(hm:m<=6400000000)(hK:∀ w h',h.le h'->RQ h' w (p/q)->K w.v h'):aM prog A3u #[a.v,b.v] h K:=by
 refine B6e _ _ _ _ _ _ _ _ _ _ _ _ _ _ _ _ ?_
 unfold C2j
 refine Jq j ?_
 intro l o c g
 refine ⟨_,_,_,_,_,_,_,_,rfl,c,Tv (gl.mono c) (i.mono c) g hp (hq.inv hm1) hm ?_⟩
 intro n k d e
 rw [<- Rat.div_def] at e
 exact ⟨_,_,_,_,_,_,_,_,rfl,d,hK _ _ (Heap.le_trans c d) e⟩
def Nk(i:RQ h w q)(hq:Sz m q)(hm:m+1<=6400000000)(hK:∀ s A n c h',h.le h'->ZI h' s A n c q.floor->K (.agg #[.bool s,.slice A n c]) h'):aM prog Pd #[w.v] h K:=by
 have g:=q.den_nz
 refine A9r _ _ _ _ _ _ _ _ ?_
 unfold B40
 rw [Rat.floor_def] at hK
 refine I0 i ⟨_,rfl,B3 (fun e=>?_) (fun e=>?_)⟩
 ·rw [e] at hK
  exact hK _ _ _ _ _ (B0 _) (by simpa using i.num)
 ·have a:=i.den
  rw [iN e] at a
  refine Sp i.num a hq.num hq.den hm (by omega) ?_
  intro k A1 j c1 l d b
  exact ⟨_,_,_,_,rfl,hK _ _ _ _ _ d b⟩
def A4s(i:RQ h w q)(hq:Sz m q)(hm:m+1<=6400000000)(hK:∀ s A n c h',h.le h'->ZI h' s A n c q.ceil->K (.agg #[.bool s,.slice A n c]) h'):aM prog A2e #[w.v] h K:=by
 refine B2q _ _ _ _ _ _ _ _ ?_
 unfold B90
 refine A4p i ?_
 intro j b
 refine ⟨_,_,_,_,_,_,_,_,rfl,Nk b hq.neg hm ?_⟩
 intro l A2 o c2 g d e
 refine ⟨_,_,_,_,rfl,W5 e ?_⟩
 intro k a
 rw [<- dU] at a
 exact ⟨_,_,_,_,rfl,hK _ _ _ _ _ d a⟩
def B26(p q:Rat):Int:=Cc (p.num*q.den) (q.num*p.den)
def Xp:B26 p q<0↔p<q:=by rw [dH];unfold B26 Cc;split<;>(try split)<;>omega
def Iw:0<B26 p q↔q<p:=by rw [dH];unfold B26 Cc;split<;>(try split)<;>omega
def Mo:B26 p q<=0↔p<=q:=by rw [<- Rat.not_lt,<- Iw];omega
def Wc(i:RQ h a p)(j:RQ h b q)(hp:Sz m p)(hq:Sz m q)(hm:2*m<=6400000000)(hK:K (I (B26 p q)) h):aM prog Mf #[a.v,b.v] h K:=by
 have o:=p.den_nz
 have s:=q.den_nz
 refine FCall.pure (A2y _ _ _ _ _ _ _ _ _ _ _ _ _ _ _ _ ?_)
 unfold A4c
 refine ⟨fun L hp=>L=[.bool (decide ((p.den=1/\q.den=1)\/p.num.sign≠q.num.sign))]/\hp=h,I0 i ⟨_,rfl,B0 _,B3 (fun e=>I0 j ⟨_,rfl,B0 _,B3 (fun k=>?_) (fun k=>?_)⟩) (fun e=>?_)⟩,?_⟩
 ·exact ⟨by simp [e,k],rfl⟩
 ·refine Dq i ⟨_,rfl,B0 _,Dq j ⟨_,rfl,B0 _,?_,rfl⟩⟩
  simp [k,bne]
  rw [cJ];simp
 ·refine Dq i ⟨_,rfl,B0 _,Dq j ⟨_,rfl,B0 _,?_,rfl⟩⟩
  simp [e,bne]
  rw [cJ];simp
 rintro l y ⟨u,rfl⟩
 obtain rfl:l=decide ((p.den=1/\q.den=1)\/p.num.sign≠q.num.sign):=by simpa using u
 refine B3 (fun e=>?_) (fun e=>?_)
 ·refine Jc i.num j.num hp.num hq.num (by omega) ⟨_,rfl,B0 _,?_⟩
  have:Cc p.num q.num=B26 p q:=by
   unfold B26
   rcases e with e|e
   ·rw [e.1,e.2];simp
   ·exact (B4s (by omega) (by omega) e).symm
  rw [this];exact hK
 ·refine W8 j ?_
  intro Q A1 G c1 H c x
  refine ⟨_,_,_,_,rfl,c,G9 (i.num.mono c) x hp.num hq.den (by omega) ?_⟩
  intro E A2 M c2 B d z
  refine ⟨_,_,_,_,rfl,d,W8 (i.mono (Heap.le_trans c d)) ?_⟩
  intro N A3 J C F g r
  refine ⟨_,_,_,_,rfl,g,G9 (j.num.mono (Heap.le_trans c (Heap.le_trans d g))) r hq.num hp.den (by omega) ?_⟩
  intro A A4 O D R n w
  refine ⟨_,_,_,_,rfl,n,Jc (m:=m+m) (z.mono (Heap.le_trans g n)) w (hp.num.mul hq.den) (hq.num.mul hp.den) (by omega) ⟨_,rfl,B0 _,?_⟩⟩
  exact ⟨Heap.le_trans c (Heap.le_trans d (Heap.le_trans g n)),hK⟩
def Ml{t:List UInt8}{k:Nat}(h:∀ c∈t,H0 c)(hk:t.length<=k):ZB (4*k) (N2 t:Int):=by
 unfold ZB
 rw [aK]
 exact aW (A2g h) (aN (by decide) (by omega))
def Form.lens{neg:Bool}{a b:List UInt8}(f:Form l neg a b):a.length<=l.length/\b.length<=l.length:=by
 have:=congrArg dD f.eq
 simp only [aD] at this
 by_cases c:b=[]
 ·rw [iP c] at this;subst c;simp at this ⊢;omega
 ·rw [iN c] at this;simp at this;omega
def Gx(gl:Gtz h)(hl:l.length<=100000000)(hK1:∀ q,l=C9 q->∀ w h',h.le h'->RQ h' w q->K (.tuple #[w.v,.bool true]) h')(hK0:¬ IsNum l->∀ (w:QV) h',h.le h'->RQ h' w 0->K (.tuple #[w.v,.bool false]) h'):aM prog Qu #[.string (bs l)] h K:=by
 refine B2n _ ?_
 unfold B8x
 refine Ln (by omega) ?_ ?_
 ·intro neg a b f
  refine ⟨_,_,_,_,rfl,T6 ?_⟩
  have E:=f.lens
  refine Gy f.da (by omega) ?_
  intro A1 H c1 J s M
  refine ⟨_,_,_,_,rfl,?_⟩
  refine ⟨fun L hp=>∃ m:Bool,L=[.bool m,.slice A1 H c1,.bool false,.slice none 0 0]/\hp=J/\ZI J m A1 H c1 (Nx neg a),Br.of (fun e=>?_) (fun e=>?_),?_⟩
  ·refine W5 M ?_
   intro m j
   exact ⟨_,_,_,_,rfl,m,rfl,rfl,by unfold Nx;rw [e];exact j⟩
  ·exact ⟨false,rfl,rfl,by unfold Nx;rw [e];exact M⟩
  rintro F n i o x2 Z X aa R ⟨m,N,rfl,j⟩
  simp only [aI,aS,Value.bool.injEq,and_true] at N
  obtain ⟨rfl,⟨rfl,rfl,rfl⟩,rfl,rfl,rfl,rfl⟩:=N
  have c:(Nx neg a).natAbs=N2 a:=by unfold Nx;split<;>simp
  rw [U8]
  refine B3 (fun r=>?_) (fun r=>?_)
  ·subst r
   obtain ⟨q,g⟩:=f.isNum.2 (by unfold Jb;simp)
   obtain ⟨x,y⟩:=f.of_txt g
   refine hK1 q g ⟨F,n,i,o,false,none,0,0⟩ _ s ⟨by rw [x];exact j,?_⟩
   rw [y,show Jb []=1 from rfl,iP rfl];exact ZI.zero
  ·refine Gy f.db (by omega) ?_
   intro A4 n4 V h4 p Q
   have B:ZB (4*l.length) (Nx neg a):=(Ml f.da (k:=l.length) (by omega)).le (by rw [c,aK];exact bJ _)
   refine ⟨_,_,_,_,rfl,Ci (gl.mono (Heap.le_trans s p)) (j.mono p) Q B (Ml f.db (k:=l.length) (by omega)) (by omega) ?_⟩
   intro A5 n5 c5 h5 u W
   refine ⟨_,_,_,_,rfl,N3 W ⟨_,rfl,?_⟩⟩
   have d:Jb b=N2 b:=by unfold Jb;rw [iN r]
   have A:bI (Nx neg a) (N2 b:Int)=bH (N2 a) (Jb b):=by
    rw [d];show bH (Nx neg a).natAbs (N2 b)=_;rw [c]
   rw [A]
   refine T6 (B3 (fun O=>?_) (fun O=>?_))
   ·obtain ⟨q,g⟩:=f.isNum.2 (by omega)
    obtain ⟨x,y⟩:=f.of_txt g
    have z:Jb b≠1:=by
     intro T
     have G:=Ko f.db r (.inl f.hb)
     rw [<- d,T] at G
     apply f.b1
     rw [<- G];simp [L0,P6,F9,dch]
    refine hK1 q g ⟨F,n,i,o,false,A4,n4,V⟩ _ (Heap.le_trans s (Heap.le_trans p u)) ⟨by rw [x];exact j.mono (Heap.le_trans p u),?_⟩
    rw [y,iN z,d];exact Q.mono u
   ·refine hK0 ?_ ⟨false,none,0,0,false,none,0,0⟩ _ (Heap.le_trans s (Heap.le_trans p u)) RQ.zero
    intro C
    exact O (by rw [f.isNum.1 C];rfl)
 ·intro S neg a b
  refine ⟨_,_,_,_,rfl,T6 ?_⟩
  refine hK0 ?_ ⟨false,none,0,0,false,none,0,0⟩ _ (B0 _) RQ.zero
  intro C
  obtain ⟨D,a',b',f⟩:=C.form
  exact S _ _ _ f
def J3(gl:Gtz h)(hl:l.length<=100000000)(hK:∀ w h',h.le h'->RQ h' w (rv l)->K w.v h'):aM prog K8 #[.string (bs l)] h K:=by
 refine A9g _ ?_
 unfold B3u
 refine Gx gl hl ?_ ?_
 ·intro q e w c b a
  exact ⟨_,_,_,_,_,_,_,_,_,rfl,hK w c b (by rw [e,C3];exact a)⟩
 ·intro d w c b a
  exact ⟨_,_,_,_,_,_,_,_,_,rfl,hK w c b (by rw [A3g d];exact a)⟩
def Q9(gp:Gp h)(i:RQ h w q)(hq:Sz m q)(hm:m<=40000000)(hK:K (.string (bs (C9 q))) h):aM prog T2 #[w.v] h K:=by
 refine FCall.pure (A5o _ _ _ _ _ _ _ _ ?_)
 unfold A9o
 refine I0 i ⟨_,rfl,B3 (fun e=>?_) (fun e=>?_)⟩
 ·rw [A3b e] at hK
  refine A17 i.num (fun k n=>?_) (fun k=>?_)
  ·refine ⟨_,_,rfl,Br.of (fun _=>A2v _ ?_) (fun e=>by cases e)⟩
   unfold A49
   exact Hs gp k n ⟨_,rfl,_,rfl,B0 _,hK⟩
  ·refine ⟨_,_,rfl,Br.of (fun e=>by cases e) (fun _=>?_)⟩
   exact Et gp i.num hq.num (by omega) ⟨_,rfl,B0 _,hK⟩
 ·rw [Yr e] at hK
  have c:=i.den
  rw [iN e] at c
  refine Ev (l:=[]) (eT:=G0) gp (Priv.nil _ _ _ _) i.num hq.num (by omega) (by omega) ?_
  intro A1 A c1 D G k g
  refine ⟨_,_,_,rfl,?_⟩
  have r:(Hp q.num).length<=50000000:=by
   unfold Hp
   have:=Iv hq.num
   split<;>simp<;>omega
  have s:=g.len
  refine Dr (ch:=47) rfl g.priv (by omega) ?_
  intro A2 C c2 u E n o
  have b:=g.trans o
  have j:=b.len
  rw [aD,cZ] at j
  refine Ev (gp.mono b.le) o.priv (c.mono b.le) hq.den (by omega) (by omega) ?_
  intro A3 B x F y z p
  refine ⟨_,_,_,rfl,?_⟩
  rw [aO] at p
  have a:=b.trans p
  have d:=a.len
  refine Ji Fe.und Cn T8 a.priv.slV (by simpa using d) ⟨_,rfl,?_⟩
  refine ⟨Heap.le_trans a.le a.priv.le,?_⟩
  simpa using hK
end
structure Tx (m:Nat) (l:List UInt8):Prop where
 len:l.length<=100000000
 sz:Sz m (rv l)
def B0t{m:Nat}{z:Int}(h:ZB m z):(Hp z).length<=m+2:=by
 have:=Iv h
 unfold Hp;split
 ·rw [dK];omega
 ·omega
def Vq{m:Nat}{q:Rat}(h:Sz m q):(C9 q).length<=2*m+4:=by
 have b:=B0t h.num
 have a:=Iv (n:=q.den) (m:=m) (by have:=h.den;unfold ZB at this;simpa using this)
 unfold C9
 split
 ·simp;omega
 ·simp;omega
def Tx.of{m:Nat}{q:Rat}(h:Sz m q)(hm:m<=40000000):Tx m (C9 q):=⟨by have:=Vq h;omega,by rw [C3];exact h⟩
def Jt{x y:Int}(hx:x.natAbs<1000000000)(hy:y.natAbs<1000000000):(x*y).natAbs<1000000000000000000:=by
 rw [Int.natAbs_mul]
 exact Nat.mul_lt_mul'' hx hy
def A6l(q:Rat):∃ c r,C9 q=c::r/\(c=45↔q<0):=by
 have f:=Fc q
 have a:C9 q≠[]:=by
  intro e
  have:=f.eq
  rw [e] at this
  have d:=f.ne
  have:=congrArg dD this
  simp only [aD,dQ] at this
  exact d (aF (by omega))
 obtain ⟨c,r,e⟩:=bW a
 refine ⟨c,r,e,?_⟩
 have b:=f.head
 rw [e,cY,cJ,decide_eq_true_iff,beq_iff_eq,bG] at b
 rw [<- b,dH];simp
def C0b:rv [48]=0:=by
 have:[48]=C9 0:=by simp [C9,Hp,L0]
 rw [this,C3]
def A6m:C9 0=[48]:=by simp [C9,Hp,L0]
def Pc{m:Nat}{q:Rat}(h:Sz m q):ZB m q.floor:=by
 rw [Rat.floor_def]
 exact h.num.le (Int.natAbs_ediv_le_natAbs _ _)
section
variable {h:aV} {K:VP} {m:Nat} {a b:List UInt8}
def Cl(gl:Gl h)(hl:a.length<=100000000)(hK1:IsNum a->K (.bool true) h)(hK0:¬ IsNum a->K (.bool false) h):aM prog Dy #[.string (bs a)] h K:=by
 refine FCall.pure (A9h _ ?_)
 unfold B3v
 refine Bz ?_ ?_
 ·intro q e _ _
  exact ⟨_,_,_,rfl,Br.of (fun _=>⟨B0 _,hK1 ⟨q,e⟩⟩) (fun e=>by cases e)⟩
 ·refine ⟨_,_,_,rfl,Br.of (fun e=>by cases e) (fun _=>?_)⟩
  refine Ln (by omega) ?_ ?_
  ·intro neg x y f
   refine ⟨_,_,_,_,rfl,Br.of (fun e=>by cases e) (fun _=>?_)⟩
   have l:=f.lens
   rw [U8]
   refine B3 (fun e=>?_) (fun e=>?_)
   ·subst e
    exact ⟨B0 _,hK1 (f.isNum.2 (by unfold Jb;simp))⟩
   ·refine Gy f.da (by omega) ?_
    intro A1 D c1 B g r
    refine ⟨_,_,_,_,rfl,g,Gy f.db (by omega) ?_⟩
    intro A2 A c2 s c o
    refine ⟨_,_,_,_,rfl,c,Ci (gl.tz.mono (Heap.le_trans g c)) (r.mono c) o (Ml f.da (k:=a.length) (by omega)) (Ml f.db (k:=a.length) (by omega)) (by omega) ?_⟩
    intro A3 C u z m p
    refine ⟨_,_,_,_,rfl,m,N3 p ⟨_,rfl,B0 _,Heap.le_trans g (Heap.le_trans c m),?_⟩⟩
    rw [eE]
    have b:Jb y=N2 y:=by unfold Jb;rw [iN e]
    by_cases d:bH (N2 x) (N2 y)=1
    ·rw [decide_eq_true (by rw [d];rfl)]
     exact hK1 (f.isNum.2 (by rw [b];exact d))
    ·rw [decide_eq_false (by omega)]
     exact hK0 (fun i=>d (by rw [<- b];exact f.isNum.1 i))
  ·intro n neg x y
   refine ⟨_,_,_,_,rfl,Br.of (fun _=>⟨B0 _,hK0 ?_⟩) (fun e=>by cases e)⟩
   intro i
   obtain ⟨j,E,w,f⟩:=i.form
   exact n _ _ _ f
def B4u{q:Rat}(hq:q≠0)(hneg:¬ q<0):q.num.sign=1:=by
 have b:¬ q.num<0:=fun e=>hneg (by rw [dH];simpa using e)
 have a:q.num≠0:=fun e=>hq (Rat.num_eq_zero.1 e)
 exact bA (by omega)
def Tr(gl:Gl h)(hl:a.length<=100000000)(hK:K (I (rv a).num.sign) h):aM prog Wz #[.string (bs a)] h K:=by
 refine B2m _ ?_
 unfold B8w
 have b:((bs a).toList==({ data:=#[48] }:ByteArray).toList)=decide (a=[48]):=Ny a [48]
 rw [b]
 refine B3 (fun e=>?_) (fun e=>?_)
 ·subst e;rw [C0b] at hK;exact hK
 ·refine Cl gl hl ?_ ?_
  ·rintro ⟨q,rfl⟩
   rw [C3] at hK
   have d:q≠0:=by rintro rfl;exact e A6m
   obtain ⟨c,r,l,i⟩:=A6l q
   refine ⟨_,rfl,T6 ?_⟩
   refine ⟨c,⟨by omega,by rw [Rl,l];rfl⟩,E7 (fun j=>?_) (fun j=>?_)⟩
   ·have g:c=45:=by apply UInt8.toNat_inj.1;show c.toNat=45;omega
    have:=(dH q 0).1 (i.1 g)
    rw [cN (by simpa using this)] at hK
    exact hK
   ·have g:¬ q<0:=fun k=>j (by rw [i.2 k];rfl)
    rw [B4u d g] at hK
    exact hK
  ·intro m
   rw [A3g m] at hK
   exact ⟨_,rfl,T6 hK⟩
def I4(gl:Gl h)(ta:Tx m a)(tb:Tx m b)(hm:2*m<=6400000000)(hK:K (I (B26 (rv a) (rv b))) h):aM prog L6 #[.string (bs a),.string (bs b)] h K:=by
 refine FCall.pure (A2w _ _ ?_)
 unfold A4a
 refine Bi ?_ ?_
 ·intro p q k l i c n o
  rw [k,l,C3,C3] at hK
  refine ⟨_,_,_,_,_,rfl,Br.of (fun _=>Sg _ _ ?_) (fun e=>by cases e)⟩
  unfold Og
  have s:=Jt i (show ((q.den:Nat):Int).natAbs<1000000000 by simpa using o)
  have u:=Jt n (show ((p.den:Nat):Int).natAbs<1000000000 by simpa using c)
  rw [B5 (by omega) (by omega),B5 (by omega) (by omega)]
  exact A8q ⟨_,rfl,_,rfl,B0 _,hK⟩
 ·refine ⟨_,_,_,_,_,rfl,Br.of (fun e=>by cases e) (fun _=>?_)⟩
  refine J3 gl.tz ta.len ?_
  intro w i d j
  refine ⟨_,_,_,_,_,_,_,_,rfl,J3 (gl.tz.mono d) tb.len ?_⟩
  intro x c g r
  refine ⟨_,_,_,_,_,_,_,_,rfl,Wc (j.mono g) r ta.sz tb.sz hm ⟨_,rfl,Heap.le_trans d g,hK⟩⟩
def Ps(gl:Gl h)(ta:Tx m a)(tb:Tx m b)(hm:2*m+1<=40000000)(hK:K (.string (bs (C9 (rv a+rv b)))) h):aM prog A05 #[.string (bs a),.string (bs b)] h K:=by
 refine FCall.pure (B67 _ _ ?_)
 unfold C2d
 refine Bi ?_ ?_
 ·intro p q u o k d j l
  rw [u,o,C3,C3,Ut] at hK
  refine ⟨_,_,_,_,_,rfl,Br.of (fun _=>?_) (fun e=>by cases e)⟩
  have C:=Jt k (show ((q.den:Nat):Int).natAbs<1000000000 by simpa using l)
  have z:=Jt j (show ((p.den:Nat):Int).natAbs<1000000000 by simpa using d)
  have y:=Jt (show ((p.den:Nat):Int).natAbs<1000000000 by simpa using d) (show ((q.den:Nat):Int).natAbs<1000000000 by simpa using l)
  rw [B5 (n:=p.num*q.den) (by omega) (by omega),B5 (n:=q.num*p.den) (by omega) (by omega),B5 (n:=(p.den:Int)*q.den) (by omega) (by omega),B5 (by omega) (by omega)]
  exact X7 gl.p10 (dS (den_ne p) (den_ne q)) (by omega) (by omega) ⟨_,rfl,B0 _,hK⟩
 ·refine ⟨_,_,_,_,_,rfl,Br.of (fun e=>by cases e) (fun _=>?_)⟩
  refine J3 gl.tz ta.len ?_
  intro A k i s
  refine ⟨_,_,_,_,_,_,_,_,rfl,J3 (gl.tz.mono i) tb.len ?_⟩
  intro D d g x
  refine ⟨_,_,_,_,_,_,_,_,rfl,A4t (gl.tz.mono (Heap.le_trans i g)) (s.mono g) x ta.sz tb.sz (by omega) ?_⟩
  intro B j w r
  have c:=Heap.le_trans i (Heap.le_trans g w)
  exact ⟨_,_,_,_,_,_,_,_,rfl,Q9 (gl.p10.mono c) r (ta.sz.add tb.sz) (by omega) ⟨_,rfl,c,hK⟩⟩
def Am(gl:Gl h)(ta:Tx m a)(tb:Tx m b)(hm:2*m<=40000000)(hK:K (.string (bs (C9 (rv a*rv b)))) h):aM prog Kf #[.string (bs a),.string (bs b)] h K:=by
 refine FCall.pure (B64 _ _ ?_)
 unfold C2a
 refine Bi ?_ ?_
 ·intro p q o r k i j x
  rw [o,r,C3,C3,Ue] at hK
  refine ⟨_,_,_,_,_,rfl,Br.of (fun _=>?_) (fun e=>by cases e)⟩
  have z:=Jt k j
  have C:=Jt (show ((p.den:Nat):Int).natAbs<1000000000 by simpa using i) (show ((q.den:Nat):Int).natAbs<1000000000 by simpa using x)
  rw [B5 (n:=p.num*q.num) (by omega) (by omega),B5 (n:=(p.den:Int)*q.den) (by omega) (by omega)]
  exact X7 gl.p10 (dS (den_ne p) (den_ne q)) (by omega) (by omega) ⟨_,rfl,B0 _,hK⟩
 ·refine ⟨_,_,_,_,_,rfl,Br.of (fun e=>by cases e) (fun _=>?_)⟩
  refine J3 gl.tz ta.len ?_
  intro A k d l
  refine ⟨_,_,_,_,_,_,_,_,rfl,J3 (gl.tz.mono d) tb.len ?_⟩
  intro B i g s
  refine ⟨_,_,_,_,_,_,_,_,rfl,Tv (gl.tz.mono (Heap.le_trans d g)) (l.mono g) s ta.sz tb.sz (by omega) ?_⟩
  intro y j w u
  have c:=Heap.le_trans d (Heap.le_trans g w)
  exact ⟨_,_,_,_,_,_,_,_,rfl,Q9 (gl.p10.mono c) u (ta.sz.mul tb.sz) (by omega) ⟨_,rfl,c,hK⟩⟩
def Yx(gl:Gl h)(ta:Tx m a)(tb:Tx m b)(hm1:1<=m)(hm:2*m<=40000000)(hK1:rv b≠0->K (.tuple #[.string (bs (C9 (rv a/rv b))),.bool true]) h)(hK0:rv b=0->K (.tuple #[.string (bs []),.bool false]) h):aM prog A3r #[.string (bs a),.string (bs b)] h K:=by
 refine FCall.pure (B66 _ _ ?_)
 unfold C2c
 have c:∀ l,l=h->aM prog K8 #[.string (bs b)] l (fun O x=>∃ (t350:Bool) (t351A:Option aQ) (t351n:Nat) (t351c:Nat) (t352:Bool) (t353A:Option aQ) (t353n:Nat) (t353c:Nat),O= .agg #[.bool t350,.slice t351A t351n t351c,.bool t352,.slice t353A t353n t353c]/\aM prog Cu #[.agg #[.bool t350,.slice t351A t351n t351c,.bool t352,.slice t353A t353n t353c]] x (fun r3 k=>∃ (t37:Bool),r3= .bool t37/\Br t37 (h.le k/\K (.tuple #[.string ({ data:=#[] }:ByteArray),.bool false]) h)
  (aM prog K8 #[.string (bs a)] k (fun r4 i=>∃ (t390:Bool) (t391A:Option aQ) (t391n:Nat) (t391c:Nat) (t392:Bool) (t393A:Option aQ) (t393n:Nat) (t393c:Nat),r4= .agg #[.bool t390,.slice t391A t391n t391c,.bool t392,.slice t393A t393n t393c]/\Heap.le k i/\aM prog A3u #[.agg #[.bool t390,.slice t391A t391n t391c,.bool t392,.slice t393A t393n t393c],.agg #[.bool t350,.slice t351A t351n t351c,.bool t352,.slice t353A t353n t353c]] i (fun M j=>∃ (t410:Bool) (t411A:Option aQ) (t411n:Nat) (t411c:Nat) (t412:Bool) (t413A:Option aQ) (t413n:Nat) (t413c:Nat),M= .agg #[.bool t410,.slice t411A t411n t411c,.bool t412,.slice t413A t413n t413c]/\Heap.le i j/\aM prog T2 #[.agg #[.bool t410,.slice t411A t411n t411c,.bool t412,.slice t413A t413n t413c]] j (fun H r=>∃ (t42:ByteArray),H= .string t42/\Heap.le j r/\(h.le r/\K (.tuple #[.string t42,.bool true]) h))))))):=by
  rintro l rfl
  refine J3 gl.tz tb.len ?_
  intro T E w F
  refine ⟨_,_,_,_,_,_,_,_,rfl,Bh F ⟨_,rfl,B3 (fun e=>⟨w,hK0 e⟩) (fun e=>?_)⟩⟩
  refine J3 (gl.tz.mono w) ta.len ?_
  intro X A u R
  refine ⟨_,_,_,_,_,_,_,_,rfl,u,A4r (gl.tz.mono (Heap.le_trans w u)) R (F.mono u) ta.sz tb.sz hm1 (by omega) ?_⟩
  intro V D G J
  have s:=Heap.le_trans w (Heap.le_trans u G)
  exact ⟨_,_,_,_,_,_,_,_,rfl,G,Q9 (gl.p10.mono s) J (ta.sz.div tb.sz hm1) (by omega) ⟨_,rfl,B0 _,s,hK1 e⟩⟩
 refine Bi ?_ ?_
 ·intro p q N C E A D Q
  refine ⟨_,_,_,_,_,rfl,fun L l=>L=[.bool (decide (q.num≠0))]/\l=h,Br.of (fun _=>⟨?_,rfl⟩) (fun e=>by cases e),?_⟩
  ·by_cases o:q.num=0<;>simp [o,bne]
  rintro d g ⟨y,rfl⟩
  obtain rfl:d=decide (q.num≠0):=by simpa using y
  refine B3 (fun o=>?_) (fun o=>c g rfl)
  have z:rv b≠0:=by rw [C,C3];exact fun e=>o (Rat.num_eq_zero.2 e)
  have B:=hK1 z
  rw [N,C,C3,C3,A55] at B
  have W:=Jt E (show ((q.den:Nat):Int).natAbs<1000000000 by simpa using Q)
  have S:=Jt (show ((p.den:Nat):Int).natAbs<1000000000 by simpa using A) D
  rw [B5 (n:=p.num*q.den) (by omega) (by omega),B5 (n:=(p.den:Int)*q.num) (by omega) (by omega)]
  exact X7 gl.p10 (dS (den_ne p) o) (by omega) (by omega) ⟨_,rfl,B0 _,B⟩
 ·refine ⟨_,_,_,_,_,rfl,fun L l=>L=[.bool false]/\l=h,Br.of (fun e=>by cases e) (fun _=>⟨rfl,rfl⟩),?_⟩
  rintro d g ⟨y,rfl⟩
  obtain rfl:d=false:=by simpa using y
  exact Br.of (fun e=>by cases e) (fun _=>c g rfl)
def A1i(gl:Gl h)(ta:Tx m a)(hm:m+1<=40000000)(hK:K (.string (bs (Hp (rv a).floor))) h):aM prog Xa #[.string (bs a)] h K:=by
 refine FCall.pure (A9k _ ?_)
 unfold B3x
 refine J3 gl.tz ta.len ?_
 intro i k b d
 refine ⟨_,_,_,_,_,_,_,_,rfl,Nk d ta.sz (by omega) ?_⟩
 intro j A2 l c2 g c e
 exact ⟨_,_,_,_,rfl,Et (m:=m) (gl.p10.mono (Heap.le_trans b c)) e (Pc ta.sz) (by omega) ⟨_,rfl,Heap.le_trans b c,hK⟩⟩
def A4l(gl:Gl h)(ta:Tx m a)(hm:m+1<=40000000)(hK:K (.string (bs (Hp (rv a).ceil))) h):aM prog A2d #[.string (bs a)] h K:=by
 refine FCall.pure (B2o _ ?_)
 unfold B8y
 refine J3 gl.tz ta.len ?_
 intro i k b d
 refine ⟨_,_,_,_,_,_,_,_,rfl,A4s d ta.sz (by omega) ?_⟩
 intro j A2 l c2 g c e
 refine ⟨_,_,_,_,rfl,Et (m:=m) (gl.p10.mono (Heap.le_trans b c)) e ?_ (by omega) ⟨_,rfl,Heap.le_trans b c,hK⟩⟩
 rw [dU]
 exact (Pc ta.sz.neg).neg
end
def B1s(n j:Nat):n/2^j=2*(n/2^(j+1))+n/2^j%2:=by
 rw [cA,<- Nat.div_div_eq_div_mul]
 omega
def A6n{h:aV}{A:Option aQ}{n:Nat}{v:Int}{b:Nat}(m:Mw h A n v)(hv:v<2^b)(hb:b<=6400000000):n<=100000000:=by
 obtain ⟨k,hk⟩:∃ k,k=100000000:=⟨_,rfl⟩
 rw [<- hk]
 refine m.len_le (by decide) ?_
 rw [Fi]
 exact Int.lt_of_lt_of_le hv (D3 (B:=2) (by decide) (by omega))
def Tz{x:Nat}{m:Nat}(hx:x<2^m)(hm:1<=m)(k:Nat):x^k<2^(m*k+1):=by
 have a:x^k<=(2^m)^k:=cK (Nat.le_of_lt hx) k
 rw [<- dN] at a
 have b:2^(m*k)<2^(m*k+1):=Nat.pow_lt_pow_right (by decide) (by omega)
 omega
section
variable {h g:aV} {K:VP} {A B:Option aQ} {s s':Bool} {an ac bn bc m:Nat} {x y:Int}
def B5r{n:Nat}(hx:n<18446744073709551616)(hK:K (I (M0 n)) h):aM prog A8b #[U n] h K:=by
 refine B6k _ ?_
 unfold C2p
 exact Wp hx ⟨_,rfl,hK⟩
def Fh{x n xn xc:Nat}(M:Mw h A xn (x:Int))(hc:xn<=xc)(hx:x<2^m)(hm1:1<=m)(hm:m*n+1<=6400000000)(hn:n<9223372036854775808)(hmm:m<=6400000000)
 (hK:∀ A' n' c' h',h.le h'->n'<=c'->Mw h' A' n' ((x^n:Nat):Int)->K (.slice A' n' c') h'):aM prog Ab #[.slice A xn xc,U (n:Int)] h K:=by
 refine Tc _ _ _ _ ?_
 unfold Rt
 have w:xn<=100000000:=A6n (b:=m) M (by
  have:((x:Nat):Int)<((2^m:Nat):Int):=Int.ofNat_lt.2 hx
  rw [aR] at this;exact this) hmm
 refine Ao K9 rfl ?_
 intro b O
 refine ⟨_,_,_,rfl,B5r (by omega) ⟨_,rfl,?_⟩⟩
 have C:M0 n<=63:=Fx (by
  have:(2:Nat)^63=9223372036854775808:=by decide
  omega)
 have M1:Mw (h.put b (.cells #[U 1] B7)) (some ⟨b,0,none⟩) 1 ((x^(n/2^M0 n):Nat):Int):=by
  have p:n/2^M0 n=0:=by
   apply Nat.div_eq_of_lt
   by_cases l:n=0
   ·subst l;exact dB (by decide)
   ·exact (Db l).2
  rw [p,Nat.pow_zero]
  refine ⟨[1],rfl,SlI.new _ _ _ _ _,?_,?_,?_⟩
  ·intro x hx;simp at hx;subst hx;decide
  ·unfold Norm;simp
  ·simp [val]
 refine ⟨fun L y=>∃ (RA:Option aQ) (d rc j:Nat),L=[.slice RA d rc,I ((j:Int)-1)]/\j<=M0 n/\h.le y/\d<=rc/\Mw y RA d ((x^(n/2^j):Nat):Int),fun L _=>(iAt L 1+1).toNat,⟨_,1,1,M0 n,by rw [B5 (by omega) (by omega)],bJ _,Heap.le_put _ O,bJ _,M1⟩,?_⟩
 rintro RA d rc i y ⟨RA',V,G,j,B,hj,o,c,MR⟩
 simp only [aI,aS,aP,and_true,true_and] at B
 obtain ⟨⟨rfl,rfl,rfl⟩,rfl⟩:=B
 have a:∀ {h':aV} {A':Option aQ} {n' k:Nat},k<=n->Mw h' A' n' ((x^k:Nat):Int)->n'<=100000000:=by
  intro h' A' n' k W M'
  refine A6n (b:=m*n+1) M' ?_ hm
  have h1:=Tz hx hm1 k
  have F:2^(m*k+1)<=2^(m*n+1):=aN (by decide) (by have:=Nat.mul_le_mul_left m W;omega)
  have u:((x^k:Nat):Int)<((2^(m*n+1):Nat):Int):=Int.ofNat_lt.2 (by omega)
  rw [aR (n:=m*n+1)] at u
  exact u
 refine B3 (fun l=>?_) (fun l=>?_)
 ·obtain ⟨j,rfl⟩:∃ i,j=i+1:=⟨j-1,by omega⟩
  have p:((j+1:Nat):Int)-1=(j:Int):=by omega
  simp only [p]
  have E:=a (bF _ _) MR
  have s:=B1s n j
  have Z:=bF n (2^j)
  refine D9 MR MR c c (by omega) (by omega) ?_
  intro A2 R c2 F r z M2
  refine ⟨_,_,_,rfl,?_⟩
  have T:C0 (j:Int)=(j:Int):=C2 (by omega) (by omega)
  rw [T]
  refine B3 (fun e=>absurd e (by omega)) (fun _=>?_)
  rw [aC,B0j (by omega)]
  have H:(n:Int)/2^j=((n/2^j:Nat):Int):=by rw [dM,aR];rfl
  rw [H,Uq (by omega)]
  rw [<- aU,<- dO] at M2
  have e3:B4 ((j:Int)-1)=(j:Int)-1:=B5 (by omega) (by omega)
  rw [e3]
  have g:∀ (q:cO),(iAt [q,I ((j:Int)-1)] 1+1).toNat<(iAt [.slice RA d rc,I (j:Int)] 1+1).toNat:=by
   intro q
   simp only [iAt,aH,aJ]
   omega
  refine E7 (fun D=>?_) (fun aa=>?_)
  ·have N:=a (by omega) M2
   refine D9 M2 (M.mono (Heap.le_trans o r)) z hc (by omega) (by omega) ?_
   intro A3 S J u X Q M3
   refine ⟨_,_,_,rfl,⟨A3,S,J,j,rfl,by omega,Heap.le_trans o (Heap.le_trans r X),Q,?_⟩,g _⟩
   rw [<- aU,<- cA] at M3
   rw [show n/2^j=n/2^(j+1)+n/2^(j+1)+1 by omega]
   exact M3
  ·refine ⟨⟨A2,R,c2,j,rfl,by omega,Heap.le_trans o r,z,?_⟩,g _⟩
   rw [show n/2^j=n/2^(j+1)+n/2^(j+1) by omega]
   exact M2
 ·obtain rfl:j=0:=by omega
  rw [Nat.pow_zero,dC] at MR
  exact hK _ _ _ _ o c MR
def B51(x:Int)(n:Nat):(-x)^n=if n%2=1 then -(x^n) else x^n:=by
 induction n with
 | zero=>simp
 | succ n ih=>
  rw [bM,bM,ih]
  by_cases h:n%2=1
  ·rw [iP h,iN (by omega),Int.neg_mul_neg]
  ·rw [iN h,iP (by omega),Int.mul_neg]
def Ch{n:Nat}(i:ZI h s A an ac x)(hx:ZB m x)(hm1:1<=m)(hm:m*n+1<=6400000000)(hmm:m<=6400000000)(hn:n<9223372036854775808)(hK:∀ s1 A' n' c' h',h.le h'->ZI h' s1 A' n' c' (x^n)->K (.agg #[.bool s1,.slice A' n' c']) h'):aM prog Nr #[.agg #[.bool s,.slice A an ac],U (n:Int)] h K:=by
 have j:=S2 i.sgn
 refine B5w _ _ _ _ _ ?_
 unfold C22
 refine Br.of (fun e=>?_) (fun e=>?_)
 ·refine Fh i.mag i.cap hx hm1 hm hn hmm ?_
  intro A1 l c1 o d g M1
  refine ⟨_,_,_,rfl,?_⟩
  rw [Uq (by omega)]
  refine H5 M1 g ?_
  intro s1 c
  refine ⟨_,_,_,_,rfl,hK _ _ _ _ _ d ?_⟩
  have b:x= -(x.natAbs:Int):=by
   rcases j with ⟨_,a⟩|⟨a,_⟩
   ·exact a
   ·rw [e] at a;cases a
  have:x^n=if ((n:Int)%2==1)=true then -((x.natAbs^n:Nat):Int) else ((x.natAbs^n:Nat):Int):=by
   conv=>lhs;rw [b,B51]
   rw [aR]
   by_cases k:n%2=1
   ·rw [iP k,iP (by simp;omega)]
   ·rw [iN k,iN (by simp;omega)]
  rw [this];exact c
 ·refine Fh i.mag i.cap hx hm1 hm hn hmm ?_
  intro A1 l c1 o d g M1
  refine ⟨_,_,_,rfl,?_⟩
  refine H5 M1 g ?_
  intro s1 c
  refine ⟨_,_,_,_,rfl,hK _ _ _ _ _ d ?_⟩
  have b:x=(x.natAbs:Int):=by
   rcases j with ⟨a,_⟩|⟨_,a⟩
   ·rw [e] at a;cases a
   ·exact a
  have:x^n=((x.natAbs^n:Nat):Int):=by rw [aR,<- b]
  rw [this];exact c
end
def Nm(q:Rat)(n:Nat):(q^n).num=q.num^n/\(q^n).den=q.den^n:=⟨Rat.num_pow q n,Rat.den_pow q n⟩
def ZB.pow{m:Nat}{x:Int}(h:ZB m x)(hm:1<=m)(n:Nat):ZB (m*n+1) (x^n):=by
 unfold ZB
 rw [Int.natAbs_pow]
 exact Tz h hm n
def Sz.pow{m:Nat}{q:Rat}(h:Sz m q)(hm:1<=m)(n:Nat):Sz (m*n+1) (q^n):=by
 obtain ⟨b,a⟩:=Nm q n
 refine ⟨by rw [b];exact h.num.pow hm n,?_⟩
 rw [a,aR];exact h.den.pow hm n
section
variable {h:aV} {K:VP} {m:Nat} {a b:List UInt8} {w:QV} {q:Rat}
def Zd{n:Nat}(i:RQ h w q)(hq:Sz m q)(hm1:1<=m)(hm:m*n+1<=6400000000)(hmm:m<=6400000000)(hn:n<9223372036854775808)(hK:∀ w h',h.le h'->RQ h' w (q^n)->K w.v h'):aM prog A3s #[w.v,U (n:Int)] h K:=by
 obtain ⟨g,l⟩:=Nm q n
 refine B6a _ _ _ _ _ _ _ _ _ ?_
 unfold C2f
 refine I0 i ⟨_,rfl,B3 (fun e=>?_) (fun e=>?_)⟩
 ·refine Ch i.num hq.num hm1 hm hmm hn ?_
  intro k A1 j c1 s a c
  refine ⟨_,_,_,_,rfl,hK ⟨k,A1,j,c1,false,none,0,0⟩ _ a ⟨by rw [g];exact c,?_⟩⟩
  rw [l,e,Nat.one_pow,iP rfl];exact ZI.zero
 ·have b:=i.den
  rw [iN e] at b
  refine Ch i.num hq.num hm1 hm hmm hn ?_
  intro k A1 j c1 s a c
  refine ⟨_,_,_,_,rfl,a,Ch (b.mono a) hq.den hm1 hm hmm hn ?_⟩
  intro x A2 y c2 u d p
  refine ⟨_,_,_,_,rfl,d,N7 (q:=q^n) (c.mono d) p g (by rw [l,aR]) ?_⟩
  intro o r
  exact ⟨_,_,_,_,_,_,_,_,rfl,B0 _,hK o _ (Heap.le_trans a d) r⟩
def Pq{n:Int}(gl:Gl h)(ta:Tx m a)(hm1:1<=m)(hm:m*n.natAbs+1<=40000000)(hmm:m<=40000000)
 (hK1: -1000<=n->n<=1000->0<=n->K (.tuple #[.string (bs (C9 (rv a^n.natAbs))),.bool true]) h)
 (hK2: -1000<=n->n<0->rv a≠0->K (.tuple #[.string (bs (C9 ((rv a)⁻¹^n.natAbs))),.bool true]) h)
 (hK0:¬ (-1000<=n/\n<=1000)\/(n<0/\rv a=0)->K (.tuple #[.string (bs []),.bool false]) h):aM prog A04 #[.string (bs a),I n] h K:=by
 refine FCall.pure (B63 _ _ ?_)
 unfold C29
 refine B3 (fun e=>⟨B0 _,hK0 (.inl (by omega))⟩) (fun s=>B3 (fun e=>⟨B0 _,hK0 (.inl (by omega))⟩) (fun w=>?_))
 refine J3 gl.tz ta.len ?_
 intro u y d c
 refine ⟨_,_,_,_,_,_,_,_,rfl,B3 (fun i=>?_) (fun i=>?_)⟩
 ·refine Bh c ⟨_,rfl,B3 (fun e=>⟨d,hK0 (.inr ⟨i,e⟩)⟩) (fun e=>?_)⟩
  refine Jq c ?_
  intro x r p o
  have g:C0 (B4 (0-n))=(n.natAbs:Int):=by rw [B5 (by omega) (by omega),C2 (by omega) (by omega)];omega
  rw [g]
  refine ⟨_,_,_,_,_,_,_,_,rfl,Zd o (ta.sz.inv hm1) hm1 (by omega) (by omega) (by omega) ?_⟩
  intro l q j k
  have b:=Heap.le_trans d (Heap.le_trans p j)
  exact ⟨_,_,_,_,_,_,_,_,rfl,Q9 (gl.p10.mono b) k ((ta.sz.inv hm1).pow hm1 _) (by omega) ⟨_,rfl,b,hK2 (by omega) i e⟩⟩
 ·have g:C0 n=(n.natAbs:Int):=by rw [C2 (by omega) (by omega)];omega
  rw [g]
  refine Zd c ta.sz hm1 (by omega) (by omega) (by omega) ?_
  intro l q j k
  have b:=Heap.le_trans d j
  exact ⟨_,_,_,_,_,_,_,_,rfl,Q9 (gl.p10.mono b) k (ta.sz.pow hm1 _) (by omega) ⟨_,rfl,b,hK1 (by omega) (by omega) (by omega)⟩⟩
end
