/- A part. -/
import Derived.Test.YtmbfcbbkbefgfaaGreatDoorG22
import Derived.Test.YtmbfcbbkbefgfaaGreatDoorG21
import Derived.Test.YtmbfcbbkbefgfaaGreatDoorG20
open Go.Proofs.Tryz
set_option linter.all false
open _root_.Array renaming replicate->bN
open Bool renaming eq_iff_iff->cJ
open _root_.Go.Builtin renaming zeroCells->bU,append_->bZ
open _root_.ByteArray renaming size->dE
open Int renaming toNat_natCast->aC,natAbs_natCast->aK,natCast_pow->aR,natCast_mul->aU,sign_eq_one_of_pos->bA,gcd->bI,pow_succ->bM,ofNat_tdiv->bX,mul_le_mul_of_nonneg_right->cG,tmod->cM,sign_eq_neg_one_of_neg->cN,ofNat_tmod->dD,tdiv->dH,le_of_lt->dI,natCast_ediv->dL,pow_pos->dO,natCast_add->dQ,mul_ne_zero->dR,tdiv_eq_ediv_of_dvd->eC,gcd_natCast_natCast->eD
open List renaming length_append->aD,replicate->aE,eq_nil_of_length_eq_zero->aF,take_of_length_le->aG,getElem?_cons_zero->aH,getElem?_cons_succ->aJ,length_take->aL,append_assoc->aO,getElem?_eq_getElem->aT,length_drop->aX,drop_zero->bC,take_append_drop->bO,mem_of_mem_take->bV,exists_cons_of_ne_nil->bW,append_nil->bY,take_succ_eq_append_getElem->cC,drop_of_length_le->cD,takeWhile_append_dropWhile->cF,take_append_of_le_length->cH,drop_eq_getElem_cons->cP,take_append->cR,getElem_mem->cT,map_append->cW,length_map->cX,head?_cons->cY,length_singleton->cZ,length->dC,take_replicate->dF,length_cons->dJ,getElem_map->dK,length_nil->dP,getLast?_eq_getElem?->dU,getLast?_singleton->eA,append_cancel_left->eB,takeWhile_sublist->eG
open List.cons renaming injEq->aI
open Nat renaming pow_le_pow_right->aN,lt_of_lt_of_le->aW,mul_one->aY,min_eq_left->aZ,div_le_self->bF,gcd->bH,le_refl->bJ,sub_zero->bK,le_trans->bL,pow_succ->cA,pow_le_pow_left->cK,add_sub_cancel->cL,gcd_dvd_right->cQ,pow_pos->dA,div_one->dB,pow_mul->dM,pow_add->dN,le_of_dvd->dV,gcd_pos_of_pos_right->dX,add_sub_cancel_left->dZ,zero_add->eE,mul_comm->eF
open Option.some renaming injEq->bG
open Rat renaming divInt->cU,num_eq_zero->cV,lt_iff->dG,add->dS,ceil_eq_neg_floor_neg->dT
open _root_.Go.Value renaming int->bB,agg->dY
open _root_.Go.Value.int renaming injEq->aP
open _root_.Go.Value.slice renaming injEq->aS
open _root_.Go renaming Addr->aQ,TypeId->bD,Value->cO
open _root_.Go.Proofs.YtmbfcbbkbefgfaaGreatDoor renaming FCall->aM,Heap->aV,Priv->cI
namespace Go.Proofs.YtmbfcbbkbefgfaaGreatDoor
set_option maxRecDepth 20000
open Go
def A6k{ws:List Int}{k:Nat}(d:Dig b64 ws)(hl:ws.length=k+1)(h:b64^k<=val b64 ws):Norm ws:=by
 unfold Norm
 intro e
 rw [dU,hl,cL] at e
 have:=(Al (B:=b64) (by decide) d hl).1
 have a:ws.getD k 0=0:=by simp [List.getD,e]
 rw [a] at this
 omega
section
variable {h g:aV} {K:VP} {A B:Option aQ} {ac bc:Nat}
def B3z{Invv:LP}{muv:LN}{d1:ByteArray}{n c:Nat}{chunk base:Int}{us:List Int}{hp hp2:aV}(p:Pw hp2 g A n c us)(hn:n=us.length)(du:Dig b64 us)(nu:Norm us)(hl:n<=100000000)(hch:0<=chunk/\chunk<18446744073709551616)(hba:1<=base/\base<18446744073709551616)
 (hK:∀ A' n' c' us' h' g',g.le g'->Pw h' g' A' n' c' us'->n'=us'.length->n'<=n+1->Dig b64 us'->Norm us'->val b64 us'=chunk+base*val b64 us->Invv [.string ((d1).extract ((B5 ((cM (B5 (((dE d1:Nat):Int)-(1:Int))) (19:Int))+(1:Int))).toNat) ((d1).size)),.slice A' n' c'] h'/\muv [.string ((d1).extract ((B5 ((cM (B5 (((dE d1:Nat):Int)-(1:Int))) (19:Int))+(1:Int))).toNat) ((d1).size)),.slice A' n' c'] h'<muv [.string d1,.slice A n c] hp):
 S4 prog Invv muv d1 A n c chunk base hp hp2:=by
 have H:=C5 (by decide) du
 unfold S4
 refine ⟨fun l o=>∃ (k:Nat) (j:Int) (d:List Int),l=[U j,I k]/\k<=n/\(0<=j/\j<18446744073709551616)/\d.length=us.length/\Dig b64 d/\Pw o g A n c d/\d.drop k=us.drop k/\val b64 (d.take k)+b64^k*j=chunk+base*val b64 (us.take k),fun l _=>n-(iAt l 1).toNat,⟨0,chunk,us,rfl,by omega,hch,rfl,du,p,rfl,by simp [val]⟩,?_⟩
 rintro j i o ⟨k,D,d,J,hk,s,e,z,pw,y,C⟩
 obtain ⟨rfl,rfl⟩:j=D/\i=(k:Int):=by simpa using J
 refine B4 (fun h1=>?_) (fun h1=>?_)
 ·have N:=L6 z k
  have F:=E2 y
  have X:=C2 b64 us k
  have B:d≠[]:=by rintro rfl;simp at e;omega
  obtain ⟨b,O,w,T⟩:=Mc pw B
  refine w.sl.load (by omega) (by omega) (by omega) ?_
  simp only [aC]
  generalize hx:d.getD k 0=x at *
  refine O9 N (by omega) s ⟨_,_,rfl,?_⟩
  obtain ⟨a,Q,_⟩:=SlV.at w.sl (i:=k) (by simp;omega)
  refine ⟨a,Q,by omega,by omega,w.storeN F0 Q (by omega) ?_⟩
  intro h4 V
  have S:=Ki N (show 0<=base/\base<18446744073709551616 by omega) s
  have kP:=A13 (x*base+j)
  have Z:B5 ((k:Int)+1)=((k+1:Nat):Int):=by rw [B6 (by omega) (by omega)];omega
  rw [Z]
  have L:=V.priv (m:=n) (c:=c) (by intro W;have:=congrArg dC W;rw [List.length_set,dP] at this;exact B (aF this)) (by simpa using T) (by simp;omega)
  rw [aG (by simp;omega)] at L
  refine ⟨⟨k+1,_,_,rfl,by omega,S,by simpa using e,z.set (Dw _),L,?_,?_⟩,by simp only [iAt,aH,aJ];omega⟩
  ·rw [D3 (by omega)];exact D7 y
  ·rw [C6 (by omega),E5,aL,aZ (by omega),bM,X,<- F,kP]
   show _+b64^k*_+b64^k*18446744073709551616*_=_
   generalize (x*base+j)/18446744073709551616=q at *
   grind
 ·obtain rfl:k=n:=by omega
  rw [aG (show d.length<=k by omega),aG (show us.length<=k by omega)] at C
  refine N8 (fun E=>?_) (fun E=>?_)
  ·refine Ft O8 pw rfl rfl (by omega) (by omega) ?_
   intro A5 c5 h5 g5 l5 R
   rw [<- List.map_singleton (f:=bB .u64),<- cW] at R
   refine hK A5 (k+1) c5 (d++[j]) h5 g5 l5 R (by simp;omega) (by omega) (z.append (Dig.one s)) ?_ ?_
   ·unfold Norm;simpa using E
   ·rw [E5,<- C,e,<- hn]
  ·subst E
   rw [Int.mul_zero,Int.add_zero] at C
   refine hK A k c d o g (B3 _) pw (by omega) (by omega) z ?_ C
   rcases us with _|⟨u,r⟩
   ·have:d=[]:=aF (by simpa using e)
    rw [this];exact Norm.nil
   ·refine A6k (k:=r.length) z (by simpa using e) ?_
    have M:Mw hp2 A k (val b64 (u::r)):=⟨_,hn,p.slV,du,nu,rfl⟩
    have G:=M.ge (by decide) (by simp at hn;omega)
    rw [show k-1=r.length by simp at hn;omega] at G
    have:1*val b64 (u::r)<=base*val b64 (u::r):=cG hba.1 H
    omega
end
section
variable {h g:aV} {K:VP} {A B:Option aQ} {ac bc:Nat}
def B53{k:Nat}(h:k<=19):10^k<=10000000000000000000:=bL (aN (by decide) h) (by decide)
def A6v{Invv:LP}{muv:LN}{d1:ByteArray}{n c tn:Nat}{T:Option aQ}{l:List UInt8}{hp hp1:aV}(sv:SlV hp1 T (yv l))(ht:tn=l.length)(hd:∀ c∈l,F8 c)(h19:l.length<=19)
 (hK:(0<=B5 ((cM (B5 (((dE d1:Nat):Int)-(1:Int))) (19:Int))+(1:Int))/\B5 ((cM (B5 (((dE d1:Nat):Int)-(1:Int))) (19:Int))+(1:Int))<=(((d1).size:Nat):Int))/\S4 prog Invv muv d1 A n c (H4 l:Int) ((10^l.length:Nat):Int) hp hp1):
 Cl prog Invv muv d1 A n c T tn hp1 hp:=by
 subst ht
 unfold Cl
 refine ⟨fun s hp=>hp=hp1/\∃ k:Nat,s=[U (H4 (l.take k)),U ((10^k:Nat):Int),I k]/\k<=l.length,fun s _=>l.length-(iAt s 2).toNat,⟨rfl,0,by simp [H4],by omega⟩,?_⟩
 rintro C B i w ⟨rfl,k,b,z⟩
 simp only [aI,aP,and_true,true_and] at b
 obtain ⟨rfl,rfl,rfl⟩:=b
 refine B4 (fun y=>?_) (fun y=>?_)
 ·have d:k<l.length:=by omega
  obtain ⟨a,x,m⟩:=SlV.at sv (i:=k) (by rw [Fk];omega)
  have e:=hd l[k] (cT d)
  have g:=Em (l:=l.take k) (fun c m=>hd c (bV m))
  rw [aL,aZ (by omega)] at g
  have r:=B53 (k:=k+1) (by omega)
  have j:10^(k+1)=10^k*10:=cA _ _
  refine ⟨a,x,by omega,by omega,((l[k].toNat:Nat):Int),?_,?_⟩
  ·rw [aC,aY,m];simp [yv]
  ·unfold F8 at e
   have q:B8 (wu8 (((l[k].toNat:Nat):Int)-48))=((l[k].toNat-48:Nat):Int):=by
    rw [Ut (by omega) (by omega),B9 (by omega) (by omega)];omega
   have o:B8 (B8 (10*((H4 (l.take k):Nat):Int))+B8 (wu8 (((l[k].toNat:Nat):Int)-48)))=((H4 (l.take (k+1)):Nat):Int):=by
    rw [q,B9 (n:=10*((H4 (l.take k):Nat):Int)) (by omega) (by omega),B9 (by omega) (by omega),cC d,Gq];omega
   have u:B8 (((10^k:Nat):Int)*10)=((10^(k+1):Nat):Int):=by rw [B9 (by omega) (by omega),j];simp
   have p:B5 ((k:Int)+1)=((k+1:Nat):Int):=by rw [B6 (by omega) (by omega)];omega
   rw [o,u,p]
   exact ⟨⟨rfl,k+1,rfl,by omega⟩,by simp only [iAt,aH,aJ];omega⟩
 ·obtain rfl:k=l.length:=by omega
  rw [List.take_length]
  exact hK
def Pi{l:List UInt8}(hd:∀ c∈l,F8 c)(hl:l.length<=100000000)(hK:∀ A n c h',h.le h'->n<=c->Mw h' A n (H4 l:Int)->K (.slice A n c) h'):aM prog J1 #[.string (bs l)] h K:=by
 refine Th _ ?_
 unfold Oy In
 refine ⟨fun s J=>∃ (i a:List UInt8) (e:List Int) (A:Option aQ) (n c:Nat) (g:aV),s=[.string (bs a),.slice A n c]/\l=i++a/\h.le g/\Pw J g A n c e/\n=e.length/\Dig b64 e/\Norm e/\val b64 e=(H4 i:Int)/\n<=i.length,fun s _=>match s with|[.string d,_]=>d.size|_=>0,⟨[],l,[],none,0,0,h,rfl,rfl,B3 h,Priv.nil _ _ _ _,rfl,Dig.nil,Norm.nil,rfl,by omega⟩,?_⟩
 rintro d1 A1 n1 c1 J ⟨i,a,e,A2,n2,c2,g,C,b,L,p,M,H,D,G,N⟩
 simp only [aI,aS,Value.string.injEq,and_true] at C
 obtain ⟨rfl,rfl,rfl,rfl⟩:=C
 have F:l.length=i.length+a.length:=by rw [b,aD]
 rw [G7]
 refine B4 (fun Z=>?_) (fun Z=>?_)
 ·obtain ⟨sz,hsz⟩:∃ sz,sz=(a.length-1)%19+1:=⟨_,rfl⟩
  have m:B5 (cM (B5 ((a.length:Int)-1)) 19+1)=(sz:Int):=by
   rw [B6 (n:=(a.length:Int)-1) (by omega) (by omega),Int.tmod_eq_emod_of_nonneg (by omega),B6 (by omega) (by omega)];omega
  rw [m,aC,K3]
  refine ⟨⟨by omega,by omega⟩,A66 Q3 Ct.und Av ?_⟩
  intro T tc h2 R W E
  refine ⟨_,_,_,rfl,?_⟩
  have V:(a.drop 0).take (sz-0)=a.take sz:=by simp
  rw [V] at E ⊢
  have w:(a.take sz).length=sz:=by rw [aL];omega
  obtain ⟨g2,z,O⟩:=p.after R
  refine A6v E rfl (fun c o=>hd c (by rw [b];exact List.mem_append_right _ (bV o))) (by omega) ?_
  rw [G7,m]
  refine ⟨⟨by omega,by omega⟩,?_⟩
  have r:=Em (l:=a.take sz) (fun c o=>hd c (by rw [b];exact List.mem_append_right _ (bV o)))
  rw [w] at r ⊢
  have ht:=B53 (k:=sz) (by omega)
  have ab:0<10^sz:=dA (by decide)
  refine B3z O M H D (by omega) (by omega) (by omega) ?_
  intro A' X c' j h' S q Q u aa B y x
  rw [G7,m,aC,K3,aG (by rw [aX];omega)]
  refine ⟨⟨i++a.take sz,a.drop sz,j,A',X,c',S,rfl,by rw [aO,bO];exact b,A0 L (A0 z q),Q,u,B,y,?_,by rw [aD,w];omega⟩,?_⟩
  ·rw [x,G,En,w,dQ,aU,Int.mul_comm];omega
  ·simp only [G7,aX];omega
 ·have:a=[]:=aF (by omega)
  subst this
  rw [bY] at b
  subst b
  exact hK _ _ _ _ (A0 L p.le) p.2.1 ⟨e,M,p.slV,H,D,G⟩
end
def zb(l:List UInt8):List Int:=l.map fun c=>(c.toNat:Int)
def Fh(l:List UInt8):(zb l).length=l.length:=by simp [zb]
def A00(a b:List UInt8):zb (a++b)=zb a++zb b:=by simp [zb]
def B8t(l:List UInt8):(zb l).map (bB .u8)=yv l:=by simp [zb,yv]
def A6b:∀ v,v<100->G9[2*v+1]? = some (dch (v%10))/\G9[2*v]? = some (dch (v/10)):=by decide +kernel
def A0a(a:Nat):cM (a:Int) 100=((a%100:Nat):Int):=(dD a 100).symm
def tm4(a:Nat):cM (a:Int) 10000=((a%10000:Nat):Int):=(dD a 10000).symm
def tm8(a:Nat):cM (a:Int) 100000000=((a%100000000:Nat):Int):=(dD a 100000000).symm
def A2z(a:Nat):dH (a:Int) 100=((a/100:Nat):Int):=(bX a 100).symm
def td4(a:Nat):dH (a:Int) 10000=((a/10000:Nat):Int):=(bX a 10000).symm
def td8(a:Nat):dH (a:Int) 100000000=((a/100000000:Nat):Int):=(bX a 100000000).symm
def Fe{a:Nat}(h:a<4294967296):E9 (a:Int)=a:=K5 (by omega) (by omega)
def Kh(a:Nat):(a:Int)*2=((2*a:Nat):Int):=by omega
def A46(a:Nat):(a:Int)+1=((a+1:Nat):Int):=by omega
def FBI(g:aV)(b:Nat)(e:bD)(A:Option aQ)(pre post:List cO)(N u0 nd u:Nat)(hp:aV):Prop:=
 ∃ (ys:List Int) (t:List UInt8),Win .u8 hp g b e A pre (ys++zb t) post/\ys.length=nd/\nd+t.length=N/\pad N u0=pad nd u++t/\u<10^nd
section
variable {P:Program} {h g:aV} {K:VP} {A:Option aQ} {b:Nat} {e:bD} {pre post:List cO}
def Iv(one:P.cellsOf 5=1/\(P.info? 5).isSome=true){N u0 j u:Nat}(f:FBI g b e A pre post N u0 (j+2) u h){E1 E0 I1 I2:Int}(h1:E1=((2*(u%100)+1:Nat):Int))(h0:E0=((2*(u%100):Nat):Int))(hI1:I1=((j+1:Nat):Int))(hI2:I2=(j:Int)){C:aV->Prop}(hC:∀ h',FBI g b e A pre post N u0 j (u/100) h'->C h'):
 ∃ (t:UInt8),(0<=E1/\G9[E1.toNat]? = some t)/\∃ (t0:UInt8),(0<=E0/\G9[E0.toNat]? = some t0)/\∃ a1,A=some a1/\0<=I1/\I1<((N:Nat):Int)/\wpH P (Instr.storeAt 5 (.pointer (some (Addr.add a1 (I1.toNat*1)))) (Y ((t.toNat:Nat):Int))) (fun _ hp1=>∃ a2,A=some a2/\0<=I2/\I2<((N:Nat):Int)/\wpH P (Instr.storeAt 5 (.pointer (some (Addr.add a2 (I2.toNat*1)))) (Y ((t0.toNat:Nat):Int))) (fun _ hp2=>C hp2) hp1) h:=by
 subst h1 h0 hI1 hI2
 obtain ⟨c,t,w,D,B,m,k⟩:=f
 obtain ⟨q,o⟩:=A6b (u%100) (by omega)
 have p:∃ a,A=some a:=by
  rcases w.at_ with h0|h0
  ·have:=congrArg dC h0
   rw [aD,dP] at this;omega
  ·exact ⟨_,h0⟩
 obtain ⟨a,d⟩:=p
 have r:(c++zb t).length=N:=by rw [aD,Fh];omega
 refine ⟨_,⟨by omega,by rw [aC];exact q⟩,_,⟨by omega,by rw [aC];exact o⟩,a,d,by omega,by omega,?_⟩
 rw [aC]
 refine w.storeN one d (by omega) ?_
 intro z s
 refine ⟨a,d,by omega,by omega,?_⟩
 rw [aC]
 refine s.storeN one d (by rw [List.length_set];omega) ?_
 intro x i
 refine hC x ⟨c.take j,[dch (u/10%10),dch (u%10)]++t,?_,by rw [aL];omega,by simp;omega,?_,?_⟩
 ·have n:((c++zb t).set (j+1) ((dch (u%100%10)).toNat:Int)).set j ((dch (u%100/10)).toNat:Int)=c.take j++zb ([dch (u/10%10),dch (u%10)]++t):=by
   have l:c=c.take j++[c[j]'(by omega),c[j+1]'(by omega)]:=by
    conv=>lhs;rw [<- bO j c]
    congr 1
    rw [cP (by omega),cP (by omega),cD (by omega)]
   have y:(c.take j).length=j:=by rw [aL];omega
   rw [l,show u%100%10=u%10 by omega,show u%100/10=u/10%10 by omega]
   generalize c[j]'_=y0
   generalize c[j+1]'_=y1
   rw [cH (by omega),aG (show (c.take j).length<=j by omega)]
   generalize c.take j=zs at *
   rw [aO,List.set_append_right _ _ (by omega),List.set_append_right _ _ (by omega),y,A00]
   simp [zb]
  rw [n] at i;exact i
 ·rw [m,B71];simp
 ·rw [dN] at k
  exact Nat.div_lt_of_lt_mul (by rw [eF];exact k)
end
section
variable {h g:aV} {K:VP} {A:Option aQ} {b:Nat} {e:bD} {pre post:List cO}
def Jt:prog.cellsOf 5=1/\(prog.info? 5).isSome=true:=A69
def B9j{N u0 nd x:Nat}(hN:N<=24)(f:FBI g b e A pre post N u0 nd x h)(hn:nd<2)(hK:∀ h',Win .u8 h' g b e A pre (zb (pad N u0)) post->K (.tuple #[]) h'):Z5 prog A N K nd x h:=by
 obtain ⟨d,t,w,i,hN,l,k⟩:=f
 unfold Z5
 refine B4 (fun s=>?_) (fun s=>?_)
 ·obtain rfl:nd=1:=by omega
  obtain ⟨y,rfl⟩:∃ y,d=[y]:=by
   rcases d with _|⟨y,_|⟨z,r⟩⟩
   ·simp at i
   ·exact ⟨y,rfl⟩
   ·simp at i
  have q:∃ a,A=some a:=by
   rcases w.at_ with c|c
   ·simp at c
   ·exact ⟨_,c⟩
  obtain ⟨a,m⟩:=q
  refine ⟨a,m,by omega,by omega,?_⟩
  rw [show ((0:Int)).toNat=0 from rfl]
  refine w.storeN Jt m (by simp) ?_
  intro p n
  refine hK p ?_
  have j:x<10:=by simpa using k
  have ev:wu8 (E9 (48+(x:Int)))=((dch x).toNat:Int):=by
   rw [K5 (by omega) (by omega),Ut (by omega) (by omega),Df j];omega
  rw [ev] at n
  have o:pad 1 x=[dch x]:=by
   rw [Py,A8z _ (by omega),show x%10=x by omega];rfl
  rw [l,o,A00]
  simpa [zb] using n
 ·obtain rfl:nd=0:=by omega
  have:d=[]:=aF i
  subst this
  have j:x=0:=by simpa using k
  refine hK h ?_
  rw [l,A8z _ j]
  simpa using w
def B9i{N u0 nd x:Nat}(hN:N<=24)(f:FBI g b e A pre post N u0 nd x h)(hn:nd<4)(hK:∀ h',Win .u8 h' g b e A pre (zb (pad N u0)) post->K (.tuple #[]) h'):Z6 prog A N K nd x h:=by
 unfold Z6
 have u:x<10000:=by
  obtain ⟨_,_,_,_,_,_,i⟩:=f
  exact aW i (bL (aN (by decide) (show nd<=4 by omega)) (by decide))
 refine ⟨fun l d=>∃ nd x:Nat,l=[I nd,U32 x]/\FBI g b e A pre post N u0 nd x d/\nd<2,B4 (fun r=>?_) (fun r=>?_),?_⟩
 ·obtain ⟨j,rfl⟩:∃ j,nd=j+2:=⟨nd-2,by omega⟩
  refine Iv Jt f ?_ ?_ (by rw [B6 (by omega) (by omega)];omega) (by rw [B6 (by omega) (by omega)];omega) ?_
  ·simp (disch:=omega) only [A0a,Fe,Kh,A46]
  ·simp (disch:=omega) only [A0a,Fe,Kh]
  ·intro s n
   refine ⟨j,x/100,?_,n,by omega⟩
   rw [B6 (by omega) (by omega),A2z,Fe (by omega)]
   simp only [aI,aP,and_true,true_and];omega
 ·exact ⟨nd,x,rfl,f,by omega⟩
 ·rintro a k d ⟨m,o,p,q,c⟩
  obtain ⟨rfl,rfl⟩:a=(m:Int)/\k=(o:Int):=by simpa using p
  exact B9j hN q c hK
def U1{u an ac:Nat}{xs:List Int}(w:Win .u8 h g b e A pre xs post)(hn:an=xs.length)(hN:an<=24)(hu:u<10^an)(hu2:u<18446744073709551616)(hK:∀ h',Win .u8 h' g b e A pre (zb (pad an u)) post->K (.tuple #[]) h'):aM prog N4 #[.slice A an ac,U (u:Int)] h K:=by
 refine Ps _ _ _ _ ?_
 unfold Ly
 refine ⟨fun l d=>∃ a v:Nat,l=[U v,I a]/\FBI g b e A pre post an u a v d/\v<=u,fun l _=>(iAt l 1).toNat,⟨an,u,rfl,⟨xs,[],by simpa [zb] using w,hn.symm,by simp,by simp,hu⟩,bJ _⟩,?_⟩
 rintro q m d ⟨a,v,y,f,N⟩
 obtain ⟨rfl,rfl⟩:q=(v:Int)/\m=(a:Int):=by simpa using y
 have C:a<=an:=by obtain ⟨_,_,_,_,hN,_,_⟩:=f;omega
 refine B4 (fun D=>?_) (fun D=>?_)
 ·obtain ⟨j,rfl⟩:∃ j,a=j+8:=⟨a-8,by omega⟩
  refine Iv (j:=j+6) Jt f ?_ ?_ (by rw [B6 (by omega) (by omega)];omega) (by rw [B6 (by omega) (by omega)];omega) ?_
  ·simp (disch:=omega) only [tm8,tm4,A0a,Fe,Kh,A46];omega
  ·simp (disch:=omega) only [tm8,tm4,A0a,Fe,Kh];omega
  intro p z
  refine Iv (j:=j+4) Jt z ?_ ?_ (by rw [B6 (by omega) (by omega)];omega) (by rw [B6 (by omega) (by omega)];omega) ?_
  ·simp (disch:=omega) only [tm8,tm4,A2z,Fe,Kh,A46];omega
  ·simp (disch:=omega) only [tm8,tm4,A2z,Fe,Kh];omega
  intro J c
  refine Iv (j:=j+2) Jt c ?_ ?_ (by rw [B6 (by omega) (by omega)];omega) (by rw [B6 (by omega) (by omega)];omega) ?_
  ·simp (disch:=omega) only [tm8,A0a,td4,Fe,Kh,A46];omega
  ·simp (disch:=omega) only [tm8,A0a,td4,Fe,Kh];omega
  intro M i
  refine Iv (j:=j) Jt i ?_ ?_ (by rw [B6 (by omega) (by omega)];omega) (by rw [B6 (by omega) (by omega)];omega) ?_
  ·simp (disch:=omega) only [tm8,A2z,td4,Fe,Kh,A46];omega
  ·simp (disch:=omega) only [tm8,A2z,td4,Fe,Kh];omega
  intro O s
  have r:B5 (((j+8:Nat):Int)-8)=(j:Int):=by rw [B6 (by omega) (by omega)];omega
  have B:B8 (dH (v:Int) 100000000)=((v/100/100/100/100:Nat):Int):=by
   rw [td8,B9 (by omega) (by omega)];omega
  rw [r,B]
  exact ⟨⟨j,_,rfl,s,by omega⟩,by simp only [iAt,aH,aJ];omega⟩
 ·have E:v<100000000:=by
   obtain ⟨_,_,_,_,_,_,hu⟩:=f
   exact aW hu (bL (aN (by decide) (show a<=8 by omega)) (by decide))
  refine ⟨fun l d=>∃ a x:Nat,l=[I a,U32 x]/\FBI g b e A pre post an u a x d/\a<4,B4 (fun p=>?_) (fun p=>?_),?_⟩
  ·obtain ⟨j,rfl⟩:∃ j,a=j+4:=⟨a-4,by omega⟩
   refine Iv (j:=j+2) Jt f ?_ ?_ (by rw [B6 (by omega) (by omega)];omega) (by rw [B6 (by omega) (by omega)];omega) ?_
   ·simp (disch:=omega) only [tm4,A0a,Fe,Kh,A46];omega
   ·simp (disch:=omega) only [tm4,A0a,Fe,Kh];omega
   intro J c
   refine Iv (j:=j) Jt c ?_ ?_ (by rw [B6 (by omega) (by omega)];omega) (by rw [B6 (by omega) (by omega)];omega) ?_
   ·simp (disch:=omega) only [tm4,A2z,Fe,Kh,A46];omega
   ·simp (disch:=omega) only [tm4,A2z,Fe,Kh];omega
   intro M i
   refine ⟨j,v/100/100,?_,i,by omega⟩
   rw [B6 (by omega) (by omega),Fe (by omega),td4,Fe (by omega)]
   simp only [aI,aP,and_true,true_and];omega
  ·exact ⟨a,v,by rw [Fe (by omega)],f,by omega⟩
  ·rintro o F G ⟨L,H,k,c,n⟩
   obtain ⟨rfl,rfl⟩:o=(L:Int)/\F=(H:Int):=by simpa using k
   exact B9i hN c n hK
end
def Ro{P:Program}{h:aV}{l:List UInt8}{m:Nat}{ys:List cO}(hy:ys=yv l)(hm:m=l.length){K:Array cO->aV->Prop}(x:K ys.toArray h):wpH P (Builtin.firstCells 1 m (.string (bs l))) K h:=by
 subst hm hy
 show K _ h
 have e:((bs l).extract 0 l.length).data.map (fun b=>bB .u8 b.toNat)=(yv l).toArray:=by
  rw [K3]
  apply Array.toList_inj.1
  simp [bs,yv]
 rw [e];exact x
def Sw{P:Program}{t e e' ty:bD}{z:cO}{bytes:Nat}(st:SliceT P t e z 1 bytes){h g:aV}{A:Option aQ}{n c:Nat}{xs:List cO}(p:cI h g e' 1 A n c xs)
 {B:Option aQ} {m d:Nat} {ys:List cO} (hy:ys.length=m) (hc:SlV h B ys) (h1:∀ v∈ys,Vj v=true) (hb:(2*(n+m)+192)*bytes<=281474976710656) (hm:n+m<=9223372036854775807) {K:VP}
 (x1:n+m<=c->∀ h',cI h' g e' 1 A (n+m) c (xs++ys)->K (.slice A (n+m) c) h') (x2:c<n+m->∀ A' c' h' g',g.le g'->cI h' g' e 1 A' (n+m) c' (xs++ys)->K (.slice A' (n+m) c') h'):
 wpH P (bZ #[t,t] ty #[.slice A n c,.slice B m d]) K h:=by
 obtain ⟨i,E,hz,W,w⟩:=st.parts
 have S:=st.pos
 have H:=p.1
 rw [aY] at H
 unfold bZ
 simp only [List.getElem?_toArray,aH,aJ,C3,E3 st.und,J5 E,F4,Bool.false_eq_true,if_false,Builtin.lenOf,W,Bool.not_false,if_true]
 by_cases k:n+m<=c
 ·simp only [k,if_true,C3]
  refine I6 (by omega) hc ?_
  rcases p.2.2 with ⟨N,hg⟩|⟨b,l,Z,Q,hh,q,D⟩
  ·have O:n=0:=by omega
   have L:m=0:=by omega
   subst O;subst hg
   have C:ys=[]:=aF (by omega)
   have R:xs=[]:=aF (by omega)
   have s:K (.slice A (0+m) c) h:=x1 k h ⟨by rw [C,R,L];rfl,by omega,.inl ⟨N,rfl⟩⟩
   subst C
   cases A with
   | none=>exact s
   | some a=>exact s
  ·subst Z
   simp only [C3,I0,eE]
   rw [hh]
   rw [aY] at q D ⊢
   refine H5 ys.toArray.toList n 0 l ?_ (fun v hv=>h1 v (by simpa using hv)) ?_
   ·simp only
    omega
   ·simp only [F4,Nat.add_zero]
    refine x1 k _ ⟨by rw [aD];omega,k,.inr ⟨b,_,rfl,Q,rfl,?_,?_⟩⟩
    ·simp only [J8,aD,aL,aX,q,hy];omega
    ·have x:(l.take n).length=n:=by rw [aL,q];omega
     unfold J8
     have t1:(l.take n).take (n+m)=l.take n:=aG (by rw [x];omega)
     have X:ys.take m=ys:=aG (by omega)
     rw [aY,aO,cR,x,dZ,cR,t1,X,hy,Nat.sub_self,List.take_zero,bY,D]
 ·have u:c<n+m:=by omega
  simp only [k,if_false,C3,G5 E,w]
  have V:=Mz u
  have aa:Builtin.nextslicecap (n+m) c*bytes<=281474976710656:=bL (Nat.mul_le_mul_right _ V) hb
  rw [iN (by rintro ⟨h',_⟩;simp only [IntKind.max,IntKind.signed,IntKind.bits] at h';simp at h';omega)]
  simp only [C3,G5 E,w]
  rw [iN (by simp only [show (2^48:Nat)=281474976710656 from rfl];omega)]
  simp only [F4,C3]
  refine Hf rfl fun tt=>?_
  simp only [Dm,G5 E]
  have y:xs=[]\/∃ a,A=some a/\∀ j v,xs[j]? = some v->h.cell? (a.add j)=some v:=p.slV
  refine I6 p.1 y ?_
  refine I6 (by omega) hc ?_
  simp only [K6 E hz,N9]
  intro b r
  have F:∃ o,(Question.appendCap (n+m) c e).cut tt=o/\n+m<=o:=⟨_,rfl,by simp only [Question.cut];omega⟩
  obtain ⟨o,J,T⟩:=F
  rw [J]
  have G:=p.le
  refine x2 u _ o _ h G ⟨by rw [aD];omega,T,.inr ⟨b,xs++ys++(bU z.cells (o-(n+m))).toList,rfl,r,?_,?_,?_⟩⟩
  ·congr 1;simp
  ·have M:(bU z.cells (o-(n+m))).toList.length=o-(n+m):=by simp [bU,st.cells]
   rw [aD,aD,H,hy,M];omega
  ·rw [aY,cH (by rw [aD];omega),aG (by rw [aD];omega)]
def A6y{P:Program}{t e e' ty t2:bD}{z:cO}{bytes:Nat}(st:SliceT P t e z 1 bytes)(hu:P.underlying t2=some .string){h g:aV}{A:Option aQ}{n c:Nat}{xs:List cO}(p:cI h g e' 1 A n c xs)
 {m:Nat} {l:List UInt8} {ys:List cO} (hly:ys=yv l) (hm0:m=l.length) (hy:ys.length=m) (h1:∀ v∈ys,Vj v=true) (hb:(2*(n+m)+192)*bytes<=281474976710656) (hm:n+m<=9223372036854775807) {K:VP}
 (x1:n+m<=c->∀ h',cI h' g e' 1 A (n+m) c (xs++ys)->K (.slice A (n+m) c) h') (x2:c<n+m->∀ A' c' h' g',g.le g'->cI h' g' e 1 A' (n+m) c' (xs++ys)->K (.slice A' (n+m) c') h'):
 wpH P (bZ #[t,t2] ty #[.slice A n c,.string (bs l)]) K h:=by
 obtain ⟨i,D,W,T,w⟩:=st.parts
 have Q:=st.pos
 have G:=p.1
 rw [aY] at G
 unfold bZ
 simp only [List.getElem?_toArray,aH,aJ,C3,E3 st.und,E3 hu,J5 D,F4,Bool.false_eq_true,if_false,Builtin.lenOf,T,Bool.not_false,if_true,G7,<- hm0]
 by_cases d:n+m<=c
 ·simp only [d,if_true,C3]
  refine Ro hly hm0 ?_
  rcases p.2.2 with ⟨L,X⟩|⟨b,k,V,N,hh,q,C⟩
  ·have M:n=0:=by omega
   have hm0:m=0:=by omega
   subst M;subst X
   have B:ys=[]:=aF (by omega)
   have O:xs=[]:=aF (by omega)
   have s:K (.slice A (0+m) c) h:=x1 d h ⟨by rw [B,O,hm0];rfl,by omega,.inl ⟨L,rfl⟩⟩
   subst B
   cases A with
   | none=>exact s
   | some a=>exact s
  ·subst V
   simp only [C3,I0,eE]
   rw [hh]
   rw [aY] at q C ⊢
   refine H5 ys.toArray.toList n 0 k ?_ (fun v Z=>h1 v (by simpa using Z)) ?_
   ·simp only
    omega
   ·simp only [F4,Nat.add_zero]
    refine x1 d _ ⟨by rw [aD];omega,d,.inr ⟨b,_,rfl,N,rfl,?_,?_⟩⟩
    ·simp only [J8,aD,aL,aX,q,hy];omega
    ·have x:(k.take n).length=n:=by rw [aL,q];omega
     unfold J8
     have t1:(k.take n).take (n+m)=k.take n:=aG (by rw [x];omega)
     have t2:ys.take m=ys:=aG (by omega)
     rw [aY,aO,cR,x,dZ,cR,t1,t2,hy,Nat.sub_self,List.take_zero,bY,C]
 ·have u:c<n+m:=by omega
  simp only [d,if_false,C3,G5 D,w]
  have S:=Mz u
  have aa:Builtin.nextslicecap (n+m) c*bytes<=281474976710656:=bL (Nat.mul_le_mul_right _ S) hb
  rw [iN (by rintro ⟨h',_⟩;simp only [IntKind.max,IntKind.signed,IntKind.bits] at h';simp at h';omega)]
  simp only [C3,G5 D,w]
  rw [iN (by simp only [show (2^48:Nat)=281474976710656 from rfl];omega)]
  simp only [F4,C3]
  refine Hf rfl fun tt=>?_
  simp only [Dm,G5 D]
  have y:xs=[]\/∃ a,A=some a/\∀ j v,xs[j]? = some v->h.cell? (a.add j)=some v:=p.slV
  refine I6 p.1 y ?_
  refine Ro hly hm0 ?_
  simp only [K6 D W,N9]
  intro b r
  have E:∃ o,(Question.appendCap (n+m) c e).cut tt=o/\n+m<=o:=⟨_,rfl,by simp only [Question.cut];omega⟩
  obtain ⟨o,H,R⟩:=E
  rw [H]
  have F:=p.le
  refine x2 u _ o _ h F ⟨by rw [aD];omega,R,.inr ⟨b,xs++ys++(bU z.cells (o-(n+m))).toList,rfl,r,?_,?_,?_⟩⟩
  ·congr 1;simp
  ·have J:(bU z.cells (o-(n+m))).toList.length=o-(n+m):=by simp [bU,st.cells]
   rw [aD,aD,G,hy,J];omega
  ·rw [aY,cH (by rw [aD];omega),aG (by rw [aD];omega)]
def Xq(l:List UInt8):∀ v∈yv l,Vj v=true:=by
 intro v a
 simp only [yv,List.mem_map] at a
 obtain ⟨c,_,rfl⟩:=a
 rfl
def Qj{P:Program}{t:bD}{z v:cO}(hz:(P.info? t).map (fun i=>i.zero)=some (some z)){K:VP}{h:aV}(x:∀ b,h b=none->K (.pointer (some ⟨b,0,none⟩)) (h.put b (.cells z.cells t))):wpH P (Instr.alloc t true v) K h:=by
 cases hi:P.info? t with
 | none=>rw [hi] at hz;cases hz
 | some i=>
  rw [hi] at hz
  simp only [Option.map_some,bG] at hz
  unfold Instr.alloc
  simp only [C3,K6 hi hz]
  unfold newVar
  simp only [N9,F4]
  exact x
def A5p:(prog.info? Qn).map (fun i=>i.zero)=some (some (.agg (bN 24 (.int .u8 0)))):=by kernel_rfl
def Gp(h:aV):Prop:=∀ k,k<20->h.cell? (Addr.add ⟨3,0,none⟩ (k*1))=some (U ((10^k:Nat):Int))
def Gp.mono{h h':aV}(g:Gp h)(l:h.le h'):Gp h':=fun k a=>D4 l (g k a)
section
variable {h g:aV} {K:VP}
def Uy{i:Nat}(hi:i<100)(hK:K (.string (bs (J3 i))) h):aM prog Qd #[I i] h K:=by
 refine B1d _ ?_
 unfold B5z
 have key:∀ i:Nat,i<100->(i<10->Xu.extract i (i+1)=bs (J3 i))/\(¬ i<10->G9.extract (2*i) (2*i+2)=bs (J3 i)):=by
  intro i hi
  have d:J3 i=if i<10 then [dch i] else [dch (i/10),dch (i%10)]:=by
   split
   ·by_cases a:i=0
    ·subst a;rfl
    ·rw [V8 a,N5 a,show i/10=0 by omega,F7,show i%10=i by omega];rfl
   ·rw [V8 (by omega),N5 (by omega),N5 (by omega),show i/10/10=0 by omega,F7,show i/10%10=i/10 by omega];rfl
  rw [d]
  revert i
  decide +kernel
 obtain ⟨e,g⟩:=key i hi
 refine B4 (fun j=>?_) (fun j=>?_)
 ·have b:B5 ((i:Int)+1)=((i+1:Nat):Int):=by rw [B6 (by omega) (by omega)];omega
  rw [b,aC,aC,e (by omega)]
  exact ⟨⟨by omega,by show _<=((36:Nat):Int);omega⟩,⟨by omega,by omega⟩,hK⟩
 ·have b:B5 ((i:Int)*2)=((2*i:Nat):Int):=by rw [B6 (by omega) (by omega)];omega
  have c:B5 (((2*i:Nat):Int)+2)=((2*i+2:Nat):Int):=by rw [B6 (by omega) (by omega)];omega
  rw [b,c,aC,aC,g (by omega)]
  exact ⟨⟨by omega,by show _<=((200:Nat):Int);omega⟩,⟨by omega,by omega⟩,hK⟩
def Ci{d:Nat}(gp:Gp h)(h0:d≠0)(hd:d<18446744073709551616)(hK:K (I ((dd d).length:Int)) h):aM prog X5 #[U (d:Int)] h K:=by
 refine Zg _ ?_
 unfold Wd
 have e:I9 d<=64:=Ep hd
 obtain ⟨_,_,c⟩:=B58 (I9 d) (by omega)
 refine Xv hd ⟨_,rfl,Zh _ ?_⟩
 unfold We
 have a:Int.fdiv (B5 ((I9 d:Int)*78913)) (2^(min ((18:Int)).toNat 64))=((ndg (I9 d):Nat):Int):=by
  rw [show (2:Int)^(min ((18:Int)).toNat 64)=262144 by decide,Int.fdiv_eq_ediv_of_nonneg _ (by decide),B6 (by omega) (by omega)]
  unfold ndg;omega
 rw [a]
 refine ⟨_,rfl,⟨by omega,by omega⟩,_,by rw [aC];exact gp _ (by omega),B1e _ ?_⟩
 unfold B60
 rw [B98 h0 hd] at hK
 refine B4 (fun b=>⟨_,rfl,?_⟩) (fun b=>⟨_,rfl,?_⟩)
 ·rw [iP (by omega)] at hK
  rw [B6 (by omega) (by omega)]
  exact hK
 ·rw [iN (by omega)] at hK
  rw [B6 (by omega) (by omega)]
  exact hK
def Bk{e':bD}{A:Option aQ}{n c i:Nat}{l:List UInt8}(gp:Gp h)(p:cI h g e' 1 A n c (yv l))(hi:i<18446744073709551616)(hn:n<=1000000000000)
 (hK:∀ A' c' e2 h' g',g.le g'->cI h' g' e2 1 A' (n+(J3 i).length) c' (yv (l++J3 i))->(n+(J3 i).length<=c->A'=A/\c'=c/\e2=e')->(e'=F1->e2=F1)->K (.slice A' (n+(J3 i).length:Nat) c') h'):aM prog S0 #[.slice A n c,U (i:Int),I 10] h K:=by
 refine Um _ _ _ _ _ ?_
 unfold Tr
 refine D9 (fun _=>?_) (fun e=>absurd rfl e)
 have x:(J3 i).length<=20:=(Lg (by decide)).2 (by show i<10^20;omega)
 refine B4 (fun N=>?_) (fun N=>?_)
 ·rw [B6 (by omega) (by omega)]
  refine Uy (by omega) ⟨_,rfl,?_⟩
  refine A6y Ct Q3 p (l:=J3 i) rfl rfl (Fk _) (Xq _) (by omega) (by omega) ?_ ?_
  ·intro u h' a
   rw [<- Q8] at a
   exact ⟨_,_,_,rfl,hK _ _ _ _ _ (B3 _) a (fun _=>⟨rfl,rfl,rfl⟩) id⟩
  ·intro u A' c' h' g' w a
   rw [<- Q8] at a
   exact ⟨_,_,_,rfl,hK _ _ _ _ _ w a (fun e=>by omega) (fun _=>rfl)⟩
 ·refine Qj A5p ?_
  intro b j
  have L:(dY (bN 24 (.int .u8 0))).cells=((aE 24 (0:Int)).map (bB .u8)).toArray:=by rfl
  rw [L]
  have E:Win .u8 (h.put b (.cells ((aE 24 (0:Int)).map (bB .u8)).toArray Qn)) h b Qn (some ⟨b,0,none⟩) [] (aE 24 (0:Int)) []:=⟨j,by simp,.inr rfl⟩
  generalize (h.put b (.cells ((aE 24 (0:Int)).map (bB .u8)).toArray Qn))=h1' at *
  refine ⟨_,rfl,Ci (gp.mono E.le) (by omega) hi ⟨_,rfl,?_⟩⟩
  have z:J3 i=dd i:=V8 (by omega)
  rw [z] at x hK
  refine ⟨⟨by omega,by omega⟩,?_⟩
  rw [aC,bK]
  have G:=E.sub (l:=0) (m:=(dd i).length) (c:=24) (by omega) (by simp;omega) (by simp)
  have q:((aE 24 (0:Int)).drop 0).take ((dd i).length-0)=aE (dd i).length 0:=by
   rw [bC,dF,bK,aZ (by omega)]
  rw [q] at G
  have s:i<10^(dd i).length:=N6.1 (bJ _)
  refine U1 G (by simp) (by omega) s hi ?_
  intro F B
  refine ⟨rfl,⟨by omega,by omega⟩,?_⟩
  have C:pad (dd i).length i=dd i:=by simp [pad]
  rw [C] at B
  have H:SlV F (J4 (some ⟨b,0,none⟩) 24 0 1) (yv (dd i)):=by
   have:=B.sl
   unfold SlI at this
   rw [B8t] at this
   exact this
  have r:=B.eq
  obtain ⟨o,ho⟩:∃ o,F=h.put b o:=⟨_,r⟩
  subst ho
  have J:=p.put j o
  have d:g.le (g.put b o):=by
   intro k M D
   have y:k≠b:=by
    rintro rfl
    rw [p.le k M D] at j;cases j
   rw [B7 _ _ y];exact D
  refine Sw Ct J (Fk _) H (Xq _) (by omega) (by omega) ?_ ?_
  ·intro u h' a
   rw [<- Q8] at a
   exact ⟨_,_,_,rfl,hK _ _ _ _ _ d a (fun _=>⟨rfl,rfl,rfl⟩) id⟩
  ·intro u A' c' h' g' w a
   rw [<- Q8] at a
   exact ⟨_,_,_,rfl,hK _ _ _ _ _ (A0 d w) a (fun e=>by omega) (fun _=>rfl)⟩
end
structure Ext (g:aV) (e':bD) (A:Option aQ) (n c:Nat) (l t:List UInt8) (A':Option aQ) (n' c':Nat) (e2:bD) (g' h':aV):Prop where
 le:g.le g'
 priv:cI h' g' e2 1 A' n' c' (yv (l++t))
 len:n'=n+t.length
 fit:n+t.length<=c->A'=A/\c'=c/\e2=e'
 tag:e'=F1->e2=F1
def Ext.trans{g g1 g2 h1 h2:aV}{e' e1 e2:bD}{A A1 A2:Option aQ}{n c n1 c1 n2 c2:Nat}{l t s:List UInt8}(x:Ext g e' A n c l t A1 n1 c1 e1 g1 h1)(y:Ext g1 e1 A1 n1 c1 (l++t) s A2 n2 c2 e2 g2 h2):Ext g e' A n c l (t++s) A2 n2 c2 e2 g2 h2:=by
 refine ⟨A0 x.le y.le,?_,?_,?_,fun e=>y.tag (x.tag e)⟩
 ·have:=y.priv;rwa [aO] at this
 ·rw [y.len,x.len,aD];omega
 ·intro a
  rw [aD] at a
  obtain ⟨rfl,rfl,rfl⟩:=x.fit (by omega)
  have b:=x.len
  exact y.fit (by omega)
section
variable {h g:aV} {K:VP} {A:Option aQ} {n c:Nat} {e':bD} {l:List UInt8}
def Ev{i:Nat}(gp:Gp h)(p:cI h g e' 1 A n c (yv l))(hi:i<18446744073709551616)(hn:n<=1000000000000)
 (hK:∀ A' n' c' e2 g' h',Ext g e' A n c l (J3 i) A' n' c' e2 g' h'->K (.slice A' n' c') h'):aM prog Ej #[.slice A n c,U (i:Int),I 10] h K:=by
 refine Us _ _ _ _ _ ?_
 unfold Tw
 refine Bk gp p hi hn ?_
 intro A' c' e2 h' g' d a e b
 exact ⟨_,_,_,rfl,hK _ _ _ _ _ _ ⟨d,a,rfl,e,b⟩⟩
def Dv{ch:UInt8}{v:Int}(hv:v=(ch.toNat:Int))(p:cI h g e' 1 A n c (yv l))(hn:n<=1000000000000){KK:Option aQ->Nat->Nat->aV->Prop}
 (x:∀ A' n' c' e2 g' h',Ext g e' A n c l [ch] A' n' c' e2 g' h'->KK A' n' c' h'):
 wpH prog (Instr.buildSlice Fm 1 #[(0,Y v)]) (fun v1 hp1=>∃ (A1:Option aQ) (n1 c1:Nat),v1= .slice A1 n1 c1/\wpH prog (bZ #[Fm,Fm] Fm #[.slice A n c,.slice A1 n1 c1]) (fun v2 hp2=>∃ (A2:Option aQ) (n2 c2:Nat),v2= .slice A2 n2 c2/\KK A2 n2 c2 hp2) hp1) h:=by
 subst hv
 refine Y4 Ct rfl ?_
 intro b a
 refine ⟨_,_,_,rfl,?_⟩
 have B:=p.put a (.cells #[Y (ch.toNat:Int)] F1)
 have i:g.le (g.put b (.cells #[Y (ch.toNat:Int)] F1)):=by
  intro k w q
  have o:k≠b:=by
   rintro rfl
   rw [p.le k w q] at a;cases a
  rw [B7 _ _ o];exact q
 have s:SlV (h.put b (.cells #[Y (ch.toNat:Int)] F1)) (some ⟨b,0,none⟩) (yv [ch]):=by
  refine .inr ⟨_,rfl,fun j u r=>?_⟩
  rw [I0,G3]
  match j with
  | 0=>simpa [yv] using r
  | j+1=>simp [yv] at r
 refine Sw Ct B (m:=1) (ys:=yv [ch]) rfl s (Xq _) (by omega) (by omega) ?_ ?_
 ·intro y h' d
  rw [<- Q8] at d
  exact ⟨_,_,_,rfl,x _ _ _ _ _ _ ⟨i,d,rfl,fun _=>⟨rfl,rfl,rfl⟩,id⟩⟩
 ·intro y A' c' h' g' z d
  rw [<- Q8] at d
  exact ⟨_,_,_,rfl,x _ _ _ _ _ _ ⟨A0 i z,d,rfl,fun e=>by simp at e;omega,fun _=>rfl⟩⟩
def Xd{i:Int}(h:i<0):Dp i=[45]++J3 i.natAbs:=by unfold Dp;rw [iP h];rfl
def Ju{i:Int}(h:¬ i<0):Dp i=J3 i.natAbs:=by unfold Dp;rw [iN h]
def Ik{i:Int}(gp:Gp g)(p:cI h g e' 1 A n c (yv l))(h1: -9223372036854775808<=i)(h2:i<9223372036854775808)(hn:n<=100000000000)
 (hK:∀ A' n' c' e2 g' h',Ext g e' A n c l (Dp i) A' n' c' e2 g' h'->K (.slice A' n' c') h'):aM prog Cb #[.slice A n c,I i,I 10] h K:=by
 refine Zx _ _ _ _ _ ?_
 unfold Wy
 refine Zl _ _ _ _ _ ?_
 unfold Wj
 refine B4 (fun o=>?_) (fun o=>?_)
 ·rw [Xd o] at hK
  refine Dv (ch:=45) rfl p (by omega) ?_
  intro A1 w c1 u s r a
  have e:B8 (0-B8 i)=((i.natAbs:Nat):Int):=by rw [D8,D8];omega
  rw [e]
  refine Bk (gp.mono (A0 a.le a.priv.le)) a.priv (by omega) (by have:=a.len;simp at this;omega) ?_
  intro A2 c2 e2 b q k d j m
  exact ⟨_,_,_,rfl,_,_,_,rfl,hK _ _ _ _ _ _ (a.trans ⟨k,d,rfl,j,m⟩)⟩
 ·rw [Ju o] at hK
  have e:B8 i=((i.natAbs:Nat):Int):=by rw [D8];omega
  rw [e]
  refine Bk (gp.mono p.le) p (by omega) (by omega) ?_
  intro A2 c2 e2 b q k d j m
  exact ⟨_,_,_,rfl,_,_,_,rfl,hK _ _ _ _ _ _ ⟨k,d,rfl,j,m⟩⟩
def A01{b:Nat}{e:bD}{B:Option aQ}{pre post:List cO}{s:List UInt8}(w:Win .u8 h g b e B pre (zb s) post):SlV h B (yv s):=by
 have:=w.sl
 unfold SlI at this
 rw [B8t] at this
 exact this
def Ig{i:Int}(gp:Gp h)(h1: -9223372036854775808<=i)(h2:i<9223372036854775808)(hK:K (.string (bs (Dp i))) h):aM prog Ca #[I i,I 10] h K:=by
 refine FCall.pure (Zu _ _ ?_)
 unfold Ww
 refine Zj _ _ ?_
 unfold Wg
 refine D9 (fun _=>?_) (fun e=>absurd rfl e)
 refine ⟨fun L j=>L=[.bool (decide (0<=i/\i<100))]/\j=h,B4 (fun p=>⟨by simp [p],rfl⟩) (fun p=>⟨by simp [p],rfl⟩),?_⟩
 rintro w j ⟨G,rfl⟩
 obtain rfl:w=decide (0<=i/\i<100):=by simpa using G
 refine B4 (fun p=>?_) (fun p=>?_)
 ·obtain ⟨k,rfl⟩:∃ k:Nat,i=k:=⟨i.toNat,by omega⟩
  refine Uy (by omega) ⟨_,rfl,⟨_,rfl,B3 _,?_⟩⟩
  rw [Ju (by omega)] at hK
  exact hK
 ·refine Qj A5p ?_
  intro b H
  have E:(dY (bN 24 (.int .u8 0))).cells=((aE 24 (0:Int)).map (bB .u8)).toArray:=by rfl
  rw [E]
  have r:Win .u8 (j.put b (.cells ((aE 24 (0:Int)).map (bB .u8)).toArray Qn)) j b Qn (some ⟨b,0,none⟩) [] (aE 24 (0:Int)) []:=⟨H,by simp,.inr rfl⟩
  generalize (j.put b (.cells ((aE 24 (0:Int)).map (bB .u8)).toArray Qn))=hp1 at *
  refine ⟨_,rfl,?_⟩
  obtain ⟨u,hu⟩:∃ u:Nat,u=i.natAbs:=⟨_,rfl⟩
  have a:u≠0:=by omega
  have C:J3 u=dd u:=V8 a
  have J:(dd u).length<=20:=N6.2 (by show u<10^20;omega)
  have A:B5 (1+(((dd u).length:Nat):Int))=((1+(dd u).length:Nat):Int):=by rw [B6 (by omega) (by omega)];omega
  have z:=r.sub (l:=1) (m:=1+(dd u).length) (c:=24) (by omega) (by simp;omega) (by simp)
  have s:((aE 24 (0:Int)).drop 1).take (1+(dd u).length-1)=aE (dd u).length 0:=by
   rw [List.drop_replicate,dF,aZ (by omega)];congr 1;omega
  rw [s] at z
  have g:u<10^(dd u).length:=N6.1 (bJ _)
  have q:pad (dd u).length u=dd u:=by simp [pad]
  have n:1+(dd u).length-1=(dd u).length:=by omega
  refine B4 (fun o=>?_) (fun o=>?_)
  ·rw [Xd o,<- hu,C] at hK
   have e:B8 (0-B8 i)=(u:Int):=by rw [D8,D8];omega
   rw [e]
   refine Ci (gp.mono r.le) a (by omega) ⟨_,rfl,?_⟩
   rw [A,aC]
   refine ⟨⟨by omega,by omega⟩,⟨by omega,by omega⟩,?_⟩
   rw [show ((1:Int)).toNat=1 from rfl,n]
   refine U1 z (by simp) (by omega) g (by omega) ?_
   intro x d
   rw [q] at d
   refine ⟨rfl,B4 (fun _=>?_) (fun y=>absurd o y)⟩
   have F:=r.whole (l:=1) (m:=1+(dd u).length) (by omega) (by simp;omega) (by rw [Fh];omega) d
   refine ⟨⟨by omega,by omega⟩,?_⟩
   rw [show ((0:Int)).toNat=0 from rfl]
   refine F.storeN Jt rfl (by simp) ?_
   intro M B
   refine ⟨⟨by omega,by omega⟩,?_⟩
   have D:=B.sub (l:=0) (m:=1+(dd u).length) (c:=24) (by omega) (by simp [Fh];omega) (by simp [Fh];omega)
   have N:((((aE 24 (0:Int)).take 1++zb (dd u)++(aE 24 (0:Int)).drop (1+(dd u).length)).set 0 45).drop 0).take (1+(dd u).length-0)=zb ([45]++dd u):=by
    rw [bC,dF,show min 1 24=1 from rfl,show aE 1 (0:Int)=[0] from rfl,aO,List.singleton_append,List.set_cons_zero,bK,Nat.add_comm 1,List.take_succ_cons,List.take_left' (Fh _)]
    rfl
   rw [N] at D
   refine Hj Ct.und Av Q3 (A01 D) (by simp;omega) ⟨_,rfl,_,rfl,?_,hK⟩
   exact B.le
  ·rw [Ju o,<- hu,C] at hK
   have e:B8 i=(u:Int):=by rw [D8];omega
   rw [e]
   refine Ci (gp.mono r.le) a (by omega) ⟨_,rfl,?_⟩
   rw [A,aC]
   refine ⟨⟨by omega,by omega⟩,⟨by omega,by omega⟩,?_⟩
   rw [show ((1:Int)).toNat=1 from rfl,n]
   refine U1 z (by simp) (by omega) g (by omega) ?_
   intro x d
   rw [q] at d
   refine ⟨rfl,B4 (fun y=>absurd y o) (fun _=>?_)⟩
   refine ⟨⟨by omega,by omega⟩,⟨by omega,by omega⟩,?_⟩
   exact Hj Ct.und Av Q3 (A01 d) rfl ⟨_,rfl,_,rfl,d.le,hK⟩
def Uf{s q:List UInt8}(hK:K (.tuple #[.string (bs (if q <+: s then s.drop q.length else s)),.bool (decide (q <+: s))]) h):aM prog Gn #[.string (bs s),.string (bs q)] h K:=by
 refine Zw _ _ ?_
 unfold Wx
 refine Zk _ _ ?_
 unfold Wi
 have b:aM prog Ge #[.string (bs s),.string (bs q)] h (fun r b=>r= .bool (decide (q <+: s))/\b=h):=by
  refine Zi _ _ ?_
  unfold Wf
  simp only [G7]
  refine B4 (fun a=>?_) (fun a=>?_)
  ·refine ⟨⟨by omega,by omega⟩,?_,trivial⟩
   rw [aC,K3,Ew]
   congr 1
   rw [decide_eq_decide,bC,bK,List.prefix_iff_eq_take]
   exact eq_comm
  ·refine ⟨?_,trivial⟩
   congr 1
   symm
   rw [decide_eq_false_iff_not]
   intro c
   have:=c.length_le
   omega
 refine b.mono ?_
 rintro r d ⟨rfl,rfl⟩
 refine ⟨_,rfl,S7 (B4 (fun a=>?_) (fun a=>?_))⟩
 ·rw [iP a,decide_eq_true a] at hK
  have:=a.length_le
  simp only [G7]
  refine ⟨⟨by omega,by omega⟩,_,_,rfl,?_⟩
  rw [aC,K3,aG (by rw [aX];omega)]
  exact hK
 ·rw [iN a,decide_eq_false a] at hK
  exact ⟨_,_,rfl,hK⟩
end
abbrev cB:Int:=10000000000000000000
section
variable {h g:aV} {K:VP} {A B:Option aQ} {ac bc:Nat}
def B9y{Invv:LP}{muv:LN}{WA CA:Option aQ}{wn wc cn cc:Nat}{us:List Int}{hp1 g1:aV}(p:Pw hp1 g1 WA wn wc us)(hne:us≠[])(hwn:wn=us.length)(du:Dig b64 us)(hl:wn<=100000000)
 (hK:∀ (ws:List Int) (m:Nat) (r:Int) (hp2:aV),Pw hp2 g1 WA m wc (ws.take m)->m=(ws.take m).length->m<=wn->Norm (ws.take m)->Dig b64 (ws.take m)->val b64 us=val b64 (ws.take m)*cB+r->(0<=r/\r<cB)->
  wpH prog (Instr.buildSlice Bn 1 #[(0,U r)]) (fun v hp6=>∃ (t44A:Option aQ) (t44n:Nat) (t44c:Nat),v= .slice t44A t44n t44c/\wpH prog (bZ #[Bn,Bn] Bn #[.slice CA cn cc,.slice t44A t44n t44c]) (fun v1 hp7=>∃ (t45A:Option aQ) (t45n:Nat) (t45c:Nat),v1= .slice t45A t45n t45c/\Invv [.slice WA m wc,.slice t45A t45n t45c] hp7/\muv [.slice WA m wc,.slice t45A t45n t45c] hp7<muv [.slice WA wn wc,.slice CA cn cc] hp1) hp6) hp2):
 Bl prog Invv muv WA wn wc CA cn cc hp1:=by
 obtain ⟨b,g,N,S⟩:=Mc p hne
 unfold Bl
 refine ⟨fun s O=>∃ (k:Nat) (r:Int) (ws:List Int),s=[U r,I ((k:Int)-1)]/\k<=wn/\(0<=r/\r<cB)/\ws.length=us.length/\Dig b64 ws/\Win .u64 O g1 b C0 WA [] ws g/\ws.take k=us.take k/\val b64 (us.drop k)=val b64 (ws.drop k)*cB+r,fun s _=>(iAt s 1+1).toNat,⟨wn,0,us,by rw [B6 (by omega) (by omega)],by omega,by decide,rfl,du,N,rfl,by rw [cD (by omega)];simp [val]⟩,?_⟩
 rintro c i hp2 ⟨k,r,ws,E,V,B,d,A,w,n,u⟩
 obtain ⟨rfl,rfl⟩:c=r/\i=(k:Int)-1:=by simpa using E
 refine B4 (fun M=>?_) (fun M=>?_)
 ·obtain ⟨j,rfl⟩:∃ j,k=j+1:=⟨k-1,by omega⟩
  have e:((j+1:Nat):Int)-1=(j:Int):=by omega
  rw [e]
  have Q:=L6 A j
  refine w.sl.load (by omega) (by omega) (by omega) ?_
  rw [aC]
  refine Qi (y:=10000000000000000000) B Q (by decide) ⟨_,_,rfl,?_⟩
  have L:us.getD j 0=ws.getD j 0:=by
   have o:(ws.take (j+1)).getD j 0=(us.take (j+1)).getD j 0:=by rw [n]
   simpa [List.getD,List.getElem?_take] using o.symm
  generalize hx:ws.getD j 0=x at *
  have G:0<=c/\c<10000000000000000000:=B
  have T:0<=c*18446744073709551616+x:=by omega
  have R:0<=(c*18446744073709551616+x)/10000000000000000000/\(c*18446744073709551616+x)/10000000000000000000<18446744073709551616:=by omega
  obtain ⟨a,D,_⟩:=SlV.at w.sl (i:=j) (by simp;omega)
  refine ⟨a,D,by omega,by omega,w.storeN F0 D (by omega) ?_⟩
  intro W J
  rw [B6 (by omega) (by omega)]
  refine ⟨⟨j,_,_,rfl,by omega,by show _/\_<(10000000000000000000:Int);omega,by simpa using d,A.set R,J,?_,?_⟩,by simp only [iAt,aH,aJ];omega⟩
  ·rw [List.take_set_of_le (by omega)]
   have o:=congrArg (List.take j) n
   rw [List.take_take,List.take_take,aZ (by omega)] at o
   exact o
  ·rw [S2 (by omega),Js b64 (by omega),u,L]
   have:=Int.mul_ediv_add_emod (c*18446744073709551616+x) 10000000000000000000
   simp only [val]
   generalize (c*18446744073709551616+x)/10000000000000000000=q at *
   generalize (c*18446744073709551616+x)%10000000000000000000=s at *
   grind
 ·obtain rfl:k=0:=by omega
  rw [bC,bC] at u
  rw [show wn=ws.length by omega] at hK ⊢
  refine Cp w.sl (by omega) (by omega) ?_
  intro m C F z
  refine ⟨_,_,_,rfl,?_⟩
  have l:ws≠[]:=by intro H;apply hne;exact aF (by rw [<- d,H];rfl)
  exact hK ws m c hp2 (w.priv l (by omega) C) (by rw [aL];omega) C F (A.take m) (by rw [z];exact u) B
end
def nv:List Nat->Nat
 | []=>0
 | c::r=>c+10^19*nv r
def A95(ns:List Nat)(c:Nat):((nv (ns++[c]):Nat):Int)=(nv ns:Int)+cB^ns.length*(c:Int):=by
 induction ns with
 | nil=>simp [nv]
 | cons d r ih=>
  have e:((10^19:Nat):Int)=cB:=by decide
  simp only [List.cons_append,nv,dJ,bM,dQ,aU,ih,e]
  grind
def C1r{ns:List Nat}(h:∀ c∈ns,c<10^19):nv ns<10^(19*ns.length):=by
 induction ns with
 | nil=>simp [nv]
 | cons d r ih=>
  have e:=h d (by simp)
  have b:=ih fun c a=>h c (by simp [a])
  simp only [nv,dJ]
  rw [show 19*(r.length+1)=19+19*r.length by omega,dN]
  have:=Nat.mul_le_mul_left (10^19) (show nv r+1<=10^(19*r.length) by omega)
  rw [Nat.mul_add] at this;omega
def C1q{ns:List Nat}(hne:ns≠[])(h:ns.getLast? ≠ some 0):nv ns≠0:=by
 induction ns with
 | nil=>exact absurd rfl hne
 | cons d r ih=>
  cases r with
  | nil=>simp at h;simp [nv];exact h
  | cons e s=>
   have:=ih (by simp) (by simpa [List.getLast?_cons_cons] using h)
   simp only [nv] at this ⊢
   have a:0<10^19*(e+10^19*nv s):=Nat.mul_pos (by decide) (by omega)
   omega
def B3c{c:Nat}:aE (19-(J3 c).length) 48++J3 c=pad 19 c:=by
 unfold J3 pad
 split
 ·rename_i h;subst h;rw [F7];rfl
 ·rfl
def A90{c w:Nat}(h:c≠0):aE (w-(J3 c).length) 48++J3 c=pad w c:=by
 unfold J3 pad;rw [iN h]
def A6i{w n k:Nat}(h:n<10^k):(pad w n).length<=w+k:=by
 unfold pad
 have:=N6.2 h
 rw [aD,List.length_replicate];omega
def A80(W:Nat)(ns:List Nat)(k:Nat):List UInt8:=if k<ns.length then pad (W-19*k) (nv (ns.drop k)) else []
def B2s{W:Nat}{ns:List Nat}(h:∀ c∈ns,c<10^19)(k:Nat):(A80 W ns k).length<=W+19*ns.length:=by
 unfold A80
 split
 ·have:=A6i (w:=W-19*k) (C1r (ns:=ns.drop k) fun c a=>h c (List.mem_of_mem_drop a))
  rw [aX] at this;omega
 ·simp
def A8g{W:Nat}{ns:List Nat}(hb:∀ c∈ns,c<10^19)(ht:ns.getLast? ≠ some 0){j:Nat}(hj:j<ns.length):A80 W ns j=A80 W ns (j+1)++(aE ((if j+1=ns.length then max (J3 ns[j]).length (W-19*j) else 19)-(J3 ns[j]).length) 48++J3 ns[j]):=by
 have e:ns.drop j=ns[j]::ns.drop (j+1):=cP hj
 unfold A80
 rw [iP hj,e]
 by_cases h:j+1=ns.length
 ·rw [iN (by omega),iP h,List.nil_append,cD (by omega)]
  have g:ns[j]≠0:=by
   intro a
   apply ht
   rw [dU,<- h,cL,aT hj,a]
  rw [show max (J3 ns[j]).length (W-19*j)-(J3 ns[j]).length=(W-19*j)-(J3 ns[j]).length by omega,A90 g]
  simp [nv]
 ·rw [iP (by omega),iN h,B3c]
  have d:nv (ns.drop (j+1))≠0:=by
   apply C1q
   ·intro b;have:=congrArg dC b;rw [aX] at this;simp at this;omega
   ·rw [List.getLast?_drop,iN (by omega)];exact ht
  have:=A0x (w:=W-19*j) (h:=nv (ns.drop (j+1))) (l:=ns[j]) (k:=19) (hb _ (cT hj)) (.inl d)
  rw [Nat.sub_sub] at this
  rw [show 19*(j+1)=19*j+19 by omega,<- this]
  congr 1
  simp only [nv];rw [eF];omega
def Priv.clear{h g:aV}{e:bD}{A:Option aQ}{n c:Nat}{xs:List cO}(p:cI h g e 1 A n c xs):cI h g e 1 A 0 c []:=by
 obtain ⟨q,m,d⟩:=p
 refine ⟨by simp,by omega,?_⟩
 rcases d with d|⟨b,a,l,k,j,i,o⟩
 ·exact .inl d
 ·exact .inr ⟨b,a,l,k,j,i,by simp⟩
def nz(ns:List Nat):List Int:=ns.map fun (x:Nat)=>(x:Int)
def Bx(g:aV)(eT:bD)(A:Option aQ)(n c:Nat)(l:List UInt8)(p:aQ)(CA:Option aQ)(ns:List Nat)(bl t:List UInt8)(tA:Option aQ)(tn tc:Nat)(hp:aV):Prop:=
 ∃ e2 gA gB,Ext g eT A n c l t tA tn tc e2 gA hp/\cI gA gB A8b 1 (some p) bl.length 20 (yv bl)/\g.le gB/\SlI .u64 gB CA (nz ns)
section
variable {h g:aV} {K:VP} {A CA:Option aQ} {n c:Nat} {eT:bD} {l:List UInt8} {p:aQ} {ns:List Nat}
def A4m{bl t s:List UInt8}{tA tA':Option aQ}{tn tc tn' tc':Nat}{e2 e3:bD}{gA gB g' hp hp':aV}(x:Ext g eT A n c l t tA tn tc e2 gA hp)(q:cI gA gB A8b 1 (some p) bl.length 20 (yv bl))(lg:g.le gB)(sc:SlI .u64 gB CA (nz ns))(y:Ext gA e2 tA tn tc (l++t) s tA' tn' tc' e3 g' hp'):Bx g eT A n c l p CA ns bl (t++s) tA' tn' tc' hp':=by
 obtain ⟨a,b,d⟩:=q.after y.le
 exact ⟨e3,g',a,x.trans y,d,A0 lg b,sc.mono b⟩
def B44{Invv2:LP}{muv2:LN}{tA:Option aQ}{tn tc q:Nat}{first:Bool}{i1 size:Int}{bl t:List UInt8}{hp9 hp11:aV}(x:Bx g eT A n c l p CA ns bl t tA tn tc hp11)(hq:B5 (size-((bl.length:Nat):Int))=(q:Int))(hb:n+t.length+q+bl.length<=100000000000)
 (hK:∀ tA' tn' tc' hp',Bx g eT A n c l p CA ns bl (t++(aE q 48++bl)) tA' tn' tc' hp'->Invv2 [.slice tA' tn' tc',.bool false,I (B5 (i1-1))] hp'/\muv2 [.slice tA' tn' tc',.bool false,I (B5 (i1-1))] hp'<muv2 [.slice tA tn tc,.bool first,I i1] hp9):
 Z3 prog Invv2 muv2 tA tn tc first i1 (some p) bl.length 20 size hp9 hp11:=by
 unfold Z3
 rw [hq]
 refine ⟨fun s m=>∃ (k:Nat) (tA:Option aQ) (tn tc:Nat),s=[.slice tA tn tc,I k]/\k<=q/\Bx g eT A n c l p CA ns bl (t++aE k 48) tA tn tc m,fun s _=>q-(iAt s 1).toNat,⟨0,tA,tn,tc,rfl,by omega,by simpa using x⟩,?_⟩
 rintro L C E G w ⟨k,W,N,O,a,X,Z,gA,gB,ex,i,o,r⟩
 simp only [aI,aS,aP,and_true,true_and] at a
 obtain ⟨⟨rfl,rfl,rfl⟩,rfl⟩:=a
 have d:=ex.len
 rw [aD,List.length_replicate] at d
 refine B4 (fun M=>?_) (fun M=>?_)
 ·refine Dv (ch:=48) rfl ex.priv (by omega) ?_
  intro A' n' T e3 D u y
  rw [B6 (by omega) (by omega)]
  refine ⟨⟨k+1,_,_,_,rfl,by omega,?_⟩,by simp only [iAt,aH,aJ];omega⟩
  have:=A4m ex i o r y
  rwa [aO,<- List.replicate_succ'] at this
 ·obtain rfl:k=q:=by omega
  refine ⟨fun s m=>∃ (tA:Option aQ) (tn tc:Nat),s=[.slice tA tn tc]/\Bx g eT A n c l p CA ns bl (t++(aE k 48++bl)) tA tn tc m,?_,?_⟩
  ·refine Sw Ct ex.priv (Fk bl) (SlV.mono ex.priv.le i.slV) (Xq _) (by omega) (by omega) ?_ ?_
   ·intro Q u b
    rw [<- Q8] at b
    refine ⟨_,_,_,rfl,_,_,_,rfl,?_⟩
    have:=A4m ex i o r (s:=bl) ⟨B3 _,b,rfl,fun _=>⟨rfl,rfl,rfl⟩,id⟩
    rwa [aO] at this
   ·intro Q A' T u D j b
    rw [<- Q8] at b
    refine ⟨_,_,_,rfl,_,_,_,rfl,?_⟩
    have:=A4m ex i o r (s:=bl) ⟨j,b,rfl,fun e=>by omega,fun _=>rfl⟩
    rwa [aO] at this
  ·rintro V R F z ⟨B,J,S,a,H⟩
   simp only [aI,aS,and_true] at a
   obtain ⟨rfl,rfl,rfl⟩:=a
   exact hK _ _ _ _ H
def B42{W tn tc:Nat}{tA:Option aQ}{t:List UInt8}{e2:bD}{gA hp9:aV}(x:Ext g eT A n c l t tA tn tc e2 gA hp9)(hW:W<=10000000000)(hb:tn<=10000000000)(hK:∀ A' n' c' e3 g' h',Ext g eT A n c l (t++aE W 48) A' n' c' e3 g' h'->K (.slice A' n' c') h'):Z2 prog (W:Int) K tA tn tc hp9:=by
 unfold Z2
 refine ⟨fun s q=>∃ (k:Nat) (tA:Option aQ) (tn' tc:Nat) (e3:bD) (g':aV),s=[.slice tA tn' tc,I k]/\k<=W/\tn'=tn+k/\Ext g eT A n c l (t++aE k 48) tA tn' tc e3 g' q,fun s _=>W-(iAt s 1).toNat,⟨0,tA,tn,tc,e2,gA,rfl,by omega,rfl,by simpa using x⟩,?_⟩
 rintro z r m o a ⟨k,u,e,p,e3,g',b,B,w,ex⟩
 simp only [aI,aS,aP,and_true,true_and] at b
 obtain ⟨⟨rfl,rfl,rfl⟩,rfl⟩:=b
 refine B4 (fun i=>?_) (fun i=>?_)
 ·refine Dv (ch:=48) rfl ex.priv (by omega) ?_
  intro A' n' c' j d h' y
  rw [B6 (by omega) (by omega)]
  refine ⟨⟨k+1,_,_,_,j,d,rfl,by omega,?_,?_⟩,by simp only [iAt,aH,aJ];omega⟩
  ·have:=y.len;simp at this;omega
  ·have:=ex.trans y
   rwa [aO,<- List.replicate_succ'] at this
 ·obtain rfl:k=W:=by omega
  exact hK _ _ _ _ _ _ ex
def B43{W cn:Nat}{tA:Option aQ}{tn tc:Nat}{hp8:aV}{b:Nat}(gp:Gp g)(hp:p=⟨b,0,none⟩)(x:Bx g eT A n c l p CA ns [] [] tA tn tc hp8)(hcn:cn=ns.length)(hb:∀ c∈ns,c<10^19)(ht:ns.getLast? ≠ some 0)(hW:W<=1000000000)(hn:n<=1000000000)(hnl:ns.length<=1000000000)
 (hK:∀ A' n' c' e3 g' h',Ext g eT A n c l (pad W (nv ns)) A' n' c' e3 g' h'->K (.slice A' n' c') h'):Z4 prog tA tn tc (W:Int) K CA cn p hp8:=by
 subst hcn
 have m:J4 (some p) 20 0 1=some p:=by rw [hp];rfl
 unfold Z4
 refine ⟨fun s hp=>∃ (k:Nat) (tA:Option aQ) (tn tc:Nat) (T:List UInt8),s=[.slice tA tn tc,.bool (decide (k=ns.length)),I ((k:Int)-1)]/\k<=ns.length/\Bx g eT A n c l p CA ns T (A80 W ns k) tA tn tc hp,fun s _=>(iAt s 2+1).toNat,⟨ns.length,tA,tn,tc,[],by rw [B6 (by omega) (by omega)];simp,bJ _,by unfold A80;rw [iN (by omega)];exact x⟩,?_⟩
 rintro B u w first i1 X ⟨k,af,ac,ad,T,H,hk,M,gA,gB,ex,G,C,S⟩
 simp only [aI,aS,aP,Value.bool.injEq,and_true,true_and] at H
 obtain ⟨⟨rfl,rfl,rfl⟩,rfl,rfl⟩:=H
 have L:=ex.len
 have aa:=B2s (W:=W) hb k
 refine B4 (fun h1=>?_) (fun h1=>?_)
 ·obtain ⟨j,rfl⟩:∃ j,k=j+1:=⟨k-1,by omega⟩
  have e:((j+1:Nat):Int)-1=(j:Int):=by omega
  rw [e]
  have z:j<ns.length:=by omega
  refine ⟨⟨by omega,by omega⟩,?_⟩
  refine (S.mono (A0 G.le ex.priv.le)).load (by simp [nz]) (by omega) (by simp;omega) ?_
  have Z:(nz ns).getD (j:Int).toNat 0=((ns[j]:Nat):Int):=by
   rw [aC];simp [nz,List.getD,z]
  rw [Z,m,show ((0:Int)).toNat-0=0 from rfl,show 20-0=20 from rfl]
  have a:=hb ns[j] (cT z)
  have ae:(J3 ns[j]).length<=20:=(Lg (by decide)).2 (aW a (by decide))
  refine ex.priv.call ?_
  refine Ev (l:=[]) (gp.mono (A0 C G.le)) G.clear (aW a (by decide)) (by omega) ?_
  intro A' n' c' e3 g' V y h' pt
  obtain ⟨rfl,rfl,rfl⟩:=y.fit (by omega)
  have R:=y.len
  rw [eE] at R
  subst R
  refine ⟨_,_,_,rfl,?_⟩
  have x2:Bx g eT A n c l p CA ns (J3 ns[j]) (A80 W ns (j+1)) B u w h':=
   ⟨M,V,g',⟨A0 C (A0 y.le y.priv.le),pt,ex.len,ex.fit,ex.tag⟩,by simpa using y.priv,A0 C y.le,S.mono y.le⟩
  refine ⟨fun s hp=>s=[I (((if j+1=ns.length then max (J3 ns[j]).length (W-19*j) else 19):Nat):Int)]/\hp=h',B4 (fun d=>⟨?_,rfl⟩) (fun d=>⟨by rw [iN d];rfl,rfl⟩),?_⟩
  ·rw [iP d,B6 (n:=19*(j:Int)) (by omega) (by omega),B6 (by omega) (by omega)]
   simp only [aI,aP,and_true,true_and]
   by_cases J:(W:Int)-19*(j:Int)>(((J3 ns[j]).length:Nat):Int)
   ·rw [iP J];omega
   ·rw [iN J];omega
  ·rintro i N ⟨D,rfl⟩
   obtain rfl:i=(((if j+1=ns.length then max (J3 ns[j]).length (W-19*j) else 19):Nat):Int):=by simpa using D
   have O:(J3 ns[j]).length<=19:=(Lg (by decide)).2 a
   generalize hsz:(if j+1=ns.length then max (J3 ns[j]).length (W-19*j) else 19)=sz at *
   have Q:(J3 ns[j]).length<=sz/\sz<=W+20:=by
    rw [<- hsz];split<;>omega
   refine B44 (q:=sz-(J3 ns[j]).length) x2 (by rw [B6 (by omega) (by omega)];omega) (by have:=ex.len;omega) ?_
   intro o r F ab x3
   rw [B6 (by omega) (by omega)]
   refine ⟨⟨j,o,r,F,J3 ns[j],?_,by omega,?_⟩,by simp only [iAt,aH,aJ];omega⟩
   ·rw [show decide (j=ns.length)=false by simp;omega]
   ·rw [A8g hb ht z,hsz];exact x3
 ·obtain rfl:k=0:=by omega
  refine B4 (fun d=>?_) (fun d=>?_)
  ·have E:ns=[]:=aF d.symm
   subst E
   refine B42 ex (by omega) (by omega) ?_
   intro A' n' c' e3 g' h' y
   refine hK _ _ _ e3 g' _ ?_
   have:A80 W [] 0++aE W 48=pad W (nv []):=by simp [A80,nv,pad,F7]
   rwa [this] at y
  ·refine hK _ _ _ M gA _ ?_
   ·have:A80 W ns 0=pad W (nv ns):=by unfold A80;rw [iP (by omega)];simp
    rw [<- this];exact ex
end
def B47:(prog.info? A8b).map (fun i=>i.zero)=some (some (.agg (bN 20 (.int .u8 0)))):=by kernel_rfl
def B72(ns:List Nat)(c:Nat):nz (ns++[c])=nz ns++[(c:Int)]:=by simp [nz]
section
variable {h g:aV} {K:VP} {A XA:Option aQ} {n c:Nat} {eT:bD} {l:List UInt8}
def Di{xn xc v W:Nat}(gp:Gp g)(p:cI h g eT 1 A n c (yv l))(M:Mw g XA xn (v:Int))(hx:xn<=10000000)(hW:W<=1000000000)(hn:n<=1000000000)
 (hK:∀ A' n' c' e3 g' h',Ext g eT A n c l (pad W v) A' n' c' e3 g' h'->K (.slice A' n' c') h'):aM prog R9 #[.slice A n c,.slice XA xn xc,I (W:Int)] h K:=by
 obtain ⟨xs,R,sx,dx,nx,S⟩:=M
 refine Pr _ _ _ _ _ _ _ ?_
 unfold Lw
 refine p.call ?_
 refine Dg sx R (by omega) ?_
 intro WA X h0 g0 l0 pw h1 V
 obtain ⟨D,Z,ad⟩:=V.swap pw
 refine ⟨_,_,_,rfl,?_⟩
 unfold Gy
 have ap:(v:Int)<2^(64*xn):=by
  have:=I5 (B:=b64) (by decide) dx
  rw [S,<- R,Fw] at this;exact this
 refine ⟨fun s hp=>∃ (a:List Int) (ns:List Nat) (WA CA:Option aQ) (wn X cn cc:Nat) (D g2 g3:aV),s=[.slice WA wn X,.slice CA cn cc]/\Pw hp D WA wn X a/\Pw D g2 CA cn cc (nz ns)/\cI g2 g3 eT 1 A n c (yv l)/\g.le g3/\wn=a.length/\cn=ns.length/\wn<=xn/\Dig b64 a/\Norm a/\(∀ c∈ns,c<10^19)/\(v:Int)=val b64 a*cB^ns.length+(nv ns:Int)/\(a=[]->ns.getLast? ≠ some 0),fun s hp=>match s with|[.slice A n _,_]=>A9a b64 hp A n|_=>0,⟨xs,[],WA,none,xs.length,X,0,0,D,D,g0,rfl,Z,Priv.nil _ _ _ _,ad,l0,rfl,rfl,by omega,dx,nx,by simp,by simp [nv,S],by simp⟩,?_⟩
 rintro WA1 O ag CA1 ae az N ⟨a,ns,WA2,CA2,ax,au,ay,aq,D,g2,g3,hs,pw,pc,V,lg,y,ai,av,du,nu,hb,hv,w⟩
 simp only [aI,aS,and_true] at hs
 obtain ⟨⟨rfl,rfl,rfl⟩,rfl,rfl,rfl⟩:=hs
 have aw:=C5 (B:=b64) (by decide) du
 have Mu:Mw N WA1 O (val b64 a):=⟨a,y,pw.slV,du,nu,rfl⟩
 refine B4 (fun h2=>?_) (fun h2=>?_)
 ·have ah:a≠[]:=by rintro rfl;simp at y;omega
  have F:0<val b64 a:=by
   have:=Mu.len_zero (by decide)
   omega
  have u:ns.length<=64*xn:=by
   by_cases T:ns.length<=64*xn
   ·exact T
   ·exfalso
    have h3:(2:Int)^(64*xn)<=2^ns.length:=D5 (by decide) (by omega)
    have h4:(2:Int)^ns.length<=cB^ns.length:=by
     have:∀ k:Nat,(2:Int)^k<=cB^k:=by
      intro k
      induction k with
      | zero=>simp
      | succ k ih=>
       rw [bM,bM]
       exact Int.mul_le_mul ih (by decide) (by decide) (dI (dO (by decide)))
     exact this _
    have h5:1*cB^ns.length<=val b64 a*cB^ns.length:=cG F (dI (dO (by decide)))
    omega
  refine B9y pw ah y du (by omega) ?_
  intro C m r ar ak hm a0 nw dw d hr
  obtain ⟨q,am,af⟩:=ak.swap pc
  refine Ft O8 am rfl rfl (by omega) (by omega) ?_
  intro CA' al h' g' ao j
  obtain ⟨x,l2,i⟩:=af.after ao
  obtain ⟨g4,G,aj⟩:=j.swap i
  obtain ⟨g5,l5,an⟩:=V.after l2
  obtain ⟨c0,e⟩:∃ c0:Nat,r=(c0:Int):=⟨r.toNat,by omega⟩
  have Q:c0<10^19:=by
   have H:r<10000000000000000000:=hr.2
   show c0<10000000000000000000
   omega
  have aa:=C5 (B:=b64) (by decide) dw
  refine ⟨⟨C.take m,ns++[c0],WA1,CA',m,ag,ae+1,al,g4,x,g5,rfl,G,?_,an,A0 lg l5,hm,by simp;omega,by omega,dw,nw,?_,?_,?_⟩,?_⟩
  ·have h9:=aj
   rw [<- List.map_singleton (f:=bB .u64),<- cW,e,<- B72] at h9
   exact h9
  ·intro c T
   rcases List.mem_append.1 T with H|H
   ·exact hb c H
   ·rw [List.mem_singleton.1 H];exact Q
  ·rw [A95,hv,d,aD,cZ,bM,e];grind
  ·intro he
   rw [List.getLast?_append]
   simp only [eA,Option.some_or,ne_eq,bG]
   intro e0
   rw [he] at d
   simp [val] at d
   omega
  ·show A9a b64 h' WA1 m<A9a b64 N WA1 O
   have Mw2:Mw h' WA1 m (val b64 (C.take m)):=⟨C.take m,hm,G.slV,dw,nw,rfl⟩
   rw [Y3 Mw2,Y3 Mu]
   have H:1*val b64 (C.take m)<=cB*val b64 (C.take m):=cG (by decide) aa
   have h7:val b64 a=10000000000000000000*val b64 (C.take m)+r:=by rw [d,Int.mul_comm]
   omega
 ·have E:a=[]:=aF (by omega)
  subst E
  obtain ⟨x,ac,j⟩:=pc.swap V
  obtain ⟨q,J,i⟩:=pw.swap ac
  have ab:v=nv ns:=by
   simp [val] at hv;omega
  have u:ns.length<=1000000000:=by
   by_cases e:ns=[]
   ·subst e;simp
   ·have h7:=w rfl
    obtain ⟨ms,c0,rfl⟩:∃ ms c0,ns=ms++[c0]:=⟨ns.dropLast,ns.getLast e,(List.dropLast_concat_getLast e).symm⟩
    rw [List.getLast?_append] at h7
    simp only [eA,Option.some_or,ne_eq,bG] at h7
    have h8:=A95 ms c0
    by_cases T:ms.length<=64*xn
    ·simp;omega
    ·exfalso
     have h3:(2:Int)^(64*xn)<=2^ms.length:=D5 (by decide) (by omega)
     have h4:(2:Int)^ms.length<=cB^ms.length:=by
      have:∀ k:Nat,(2:Int)^k<=cB^k:=by
       intro k
       induction k with
       | zero=>simp
       | succ k ih=>
        rw [bM,bM]
        exact Int.mul_le_mul ih (by decide) (by decide) (dI (dO (by decide)))
      exact this _
     have h5:cB^ms.length*1<=cB^ms.length*(c0:Int):=Int.mul_le_mul_of_nonneg_left (by omega) (dI (dO (by decide)))
     omega
  refine Qj B47 ?_
  intro b z
  refine ⟨_,rfl,?_⟩
  have hz:(dY (bN 20 (.int .u8 0))).cells=(aE 20 (bB .u8 0)).toArray:=by rfl
  rw [hz]
  have L:q b=none:=by
   cases hx1:q b with
   | none=>rfl
   | some o=>rw [J.le b o hx1] at z;cases z
  refine B43 (ns:=ns) gp rfl ⟨eT,_,q,⟨?_,?_,by simp,fun _=>⟨rfl,rfl,rfl⟩,id⟩,⟨by simp [yv],by simp,.inr ⟨b,aE 20 (bB .u8 0),rfl,L,rfl,by simp,by simp [yv]⟩⟩,?_,?_⟩ ai hb (w rfl) hW hn u (by rw [<- ab];exact hK)
  ·exact A0 lg (A0 j.le (A0 i.le (Heap.le_put _ L)))
  ·rw [bY];exact J.put z _
  ·exact A0 lg (A0 j.le i.le)
  ·exact (show SlI .u64 x CA1 (nz ns) from j.slV).mono i.le
end
def Fn(i:Nat):Nat:=10^(19*2^i)
def A8j(i:Nat):Fn i=(10^19)^(2^i):=dM _ _ _
def B2w(i:Nat):0<Fn i:=dA (by decide)
def A8i:Fn 0=10000000000000000000:=by decide
def A0c(i:Nat):Fn (i+1)=Fn i*Fn i:=by
 unfold Fn
 rw [<- dN]
 congr 1
 rw [cA];omega
def B6m(i:Nat):(Fn i:Int)<b64^(2^i):=by
 have h:(10^19)^(2^i)<(18446744073709551616:Nat)^(2^i):=Nat.pow_lt_pow_left (by decide) (Nat.pos_iff_ne_zero.1 (dA (by decide)))
 rw [<- A8j] at h
 have a:((Fn i:Nat):Int)<((18446744073709551616^(2^i):Nat):Int):=Int.ofNat_lt.2 h
 rw [aR] at a
 exact a
def B6n(i:Nat):(2:Int)^(63*2^i)<=(Fn i:Int):=by
 have h:(2^63)^(2^i)<=(10^19)^(2^i):=cK (by decide) _
 rw [<- A8j,<- dM] at h
 have a:((2^(63*2^i):Nat):Int)<=((Fn i:Nat):Int):=Int.ofNat_le.2 h
 rw [aR] at a
 exact a
def B93{k m:Nat}(h:(2:Int)^k<2^m):k<m:=by
 by_cases a:k<m
 ·exact a
 ·have:=D5 (B:=2) (by decide) (show m<=k by omega)
  omega
abbrev slT(s:Option aQ × Nat × Nat):cO:=.slice s.1 s.2.1 s.2.2
def Pws(h:aV)(PA:Option aQ)(k:Nat):Prop:=∃ ss:List (Option aQ × Nat × Nat),ss.length=k/\SlV h PA (ss.map slT)/\∀ i s,ss[i]? = some s->s.2.1<=s.2.2/\Mw h s.1 s.2.1 (Fn i:Int)
def Pws.mono{h h':aV}(l:h.le h'){PA:Option aQ}{k:Nat}(p:Pws h PA k):Pws h' PA k:=by
 obtain ⟨c,d,b,a⟩:=p
 exact ⟨c,d,b.mono l,fun i s e=>⟨(a i s e).1,(a i s e).2.mono l⟩⟩
def Pws.take{h:aV}{PA:Option aQ}{k j:Nat}(p:Pws h PA k)(hj:j<=k):Pws h PA j:=by
 obtain ⟨a,g,b,d⟩:=p
 refine ⟨a.take j,by rw [aL];omega,?_,fun i s e=>?_⟩
 ·have:=SlV.cut (c:=(a.map slT).length) b (Nat.zero_le j) (by rw [cX];omega) (bJ _)
  rw [H1,bC,bK,<- List.map_take] at this
  exact this
 ·rw [List.getElem?_take] at e
  split at e
  ·exact d i s e
  ·cases e
def Pws.at{h:aV}{PA:Option aQ}{k i:Nat}(p:Pws h PA k)(hi:i<k):∃ (a:aQ) (A:Option aQ) (n c:Nat),PA=some a/\h.cell? (a.add i)=some (.slice A n c)/\n<=c/\Mw h A n (Fn i:Int):=by
 obtain ⟨e,o,g,m⟩:=p
 obtain ⟨a,j,b⟩:=g.at (i:=i) (by rw [cX];omega)
 rw [dK] at b
 obtain ⟨l,d⟩:=m i e[i] (aT (by omega))
 exact ⟨a,_,_,_,j,b,l,d⟩
def Mw.tenP_le{h:aV}{A:Option aQ}{n i:Nat}(m:Mw h A n (Fn i:Int)):n<=2^i:=m.len_le (by decide) (B6m i)
def Mw.tenP_ge{h:aV}{A:Option aQ}{n i:Nat}(m:Mw h A n (Fn i:Int)):2^i<2*n:=by
 have a:=m.lt (by decide)
 rw [Fw] at a
 have b:=B93 (Int.lt_of_le_of_lt (B6n i) a)
 omega
def Ext.weak{g g0 g' h':aV}{eT e2:bD}{A A':Option aQ}{n c n' c':Nat}{l t:List UInt8}(l0:g0.le g)(x:Ext g eT A n c l t A' n' c' e2 g' h'):Ext g0 eT A n c l t A' n' c' e2 g' h':=⟨A0 l0 x.le,x.priv,x.len,x.fit,x.tag⟩
def B55(w n:Nat):w<=(pad w n).length:=by simp [pad];omega
def B6v{j:Nat}(hj:j<=30):B5 (19*2^(min j 64))=((19*2^j:Nat):Int):=by
 rw [aZ (by omega)]
 have b:2^j<=2^30:=aN (by decide) hj
 have a:(19*2^j:Int)=((19*2^j:Nat):Int):=by rw [aU,aR];rfl
 rw [a,B6 (by omega) (by have:(2:Nat)^30=1073741824:=by decide
                         omega)]
def Yt{l:List UInt8}(hd:∀ c∈l,F8 c):(H4 l:Int)<b64^l.length:=by
 have d:=Em hd
 have b:10^l.length<=(18446744073709551616:Nat)^l.length:=cK (by decide) _
 have a:((H4 l:Nat):Int)<((18446744073709551616^l.length:Nat):Int):=Int.ofNat_lt.2 (aW d b)
 rw [aR] at a
 exact a
def Pj:∀ (k:Nat) {h g:aV} {K:VP} {A XA PA:Option aQ} {n c xn xc pc v W:Nat} {eT:bD} {l:List UInt8},Gp g->cI h g eT 1 A n c (yv l)->Mw g XA xn (v:Int)->xn<=xc->xn<=10000000->Pws g PA k->k<=pc->k<=26->(W=0\/W=19*2^k)->n+(pad W v).length<=1000000000->
 (∀ A' n' c' e3 g' h',Ext g eT A n c l (pad W v) A' n' c' e3 g' h'->K (.slice A' n' c') h')->aM prog F9 #[.slice A n c,.slice XA xn xc,I (W:Int),.slice PA k pc] h K:=by
 intro k
 induction k with
 | zero=>
  intro h g K A XA PA n c xn xc pc v W eT l m p M C H s L hk hW V o
  have:=B55 W v
  refine Gw _ _ _ _ _ _ _ _ _ _ ?_
  unfold Gx
  refine B4 (fun _=>?_) (fun e=>absurd (by decide) e)
  refine Di m p M H (by omega) (by omega) ?_
  intro A' n' c' E g' h' x
  exact ⟨_,_,_,rfl,o _ _ _ E g' _ x⟩
 | succ j ih=>
  intro h g K A XA PA n c xn xc pc v W eT l m p M C H s L hk hW V o
  have ah:=B55 W v
  have X:B5 (((j+1:Nat):Int)-1)=(j:Int):=by rw [B6 (by omega) (by omega)];omega
  refine Gw _ _ _ _ _ _ _ _ _ _ ?_
  unfold Gx
  simp only [X,aC,bK,H1,B6v (show j<=30 by omega)]
  refine B4 (fun e=>absurd e (by omega)) (fun _=>B4 (fun _=>?_) (fun _=>?_))
  ·refine Di m p M H (by omega) (by omega) ?_
   intro A' n' c' E g' h' x
   exact ⟨_,_,_,rfl,o _ _ _ E g' _ x⟩
  ·obtain ⟨a,PA',pn,ad,ha,hc,y,Mp⟩:=s.at (i:=j) (by omega)
   refine ⟨a,ha,by omega,by omega,_,_,_,by rw [aY];exact D4 p.le hc,?_⟩
   have aa:=Mp.tenP_le
   have ag:2^j<=2^26:=aN (by decide) (by omega)
   have ac:(2:Nat)^26=67108864:=by decide
   have D:=B2w j
   refine p.call ?_
   refine Y7 M Mp C y (by omega) (by omega) (by omega) ?_
   intro A1 m1 c1 A2 m2 c2 g1 b k1 S M1 M2 h1 O
   refine ⟨_,_,_,_,_,_,rfl,?_⟩
   rw [<- dL] at M1
   rw [<- Int.natCast_emod] at M2
   have hv:=Nat.div_add_mod v (Fn j)
   have u:=Nat.mod_lt v D
   have af:=bF v (Fn j)
   generalize v/Fn j=q at *
   generalize v%Fn j=r at *
   have hz:=M1.len_zero (by decide)
   have Q:=M.lt (by decide)
   have ae:m1<=xn:=M1.len_le (by decide) (by omega)
   have ab:m2<=xn:=M2.len_le (by decide) (by
    have h0:0<=Fn j*q:=Nat.zero_le _
    generalize Fn j*q=z at *
    omega)
   have J:v=q*10^(19*2^j)+r:=by rw [<- hv,eF];rfl
   have aj:2^(j+1)=2*2^j:=by rw [cA];omega
   refine B4 (fun e=>absurd e (by omega)) (fun _=>?_)
   refine D9 (fun e0=>D9 (fun eW=>?_) (fun eW=>?_)) (fun e0=>?_)
   ·obtain rfl:W=0:=by omega
    obtain rfl:q=0:=by omega
    obtain rfl:v=r:=by omega
    refine ⟨⟨by omega,by omega⟩,?_⟩
    refine ih (W:=0) (m.mono b) O M2 S (by omega) ((s.mono b).take (by omega)) (by omega) (by omega) (.inl rfl) V ?_
    intro A4 n4 c4 N T h4 G
    exact ⟨_,_,_,rfl,o _ _ _ _ _ _ (G.weak b)⟩
   all_goals
    have hw:q≠0\/19*2^j<=W:=by omega
    have d:=A0x (w:=W) (h:=q) (l:=r) (k:=19*2^j) u hw
    rw [<- J] at d
    have F:(pad (19*2^j) r).length=19*2^j:=Vh u
    have Z:(pad W v).length=(pad (W-19*2^j) q).length+19*2^j:=by rw [d,aD,F]
    refine ⟨⟨by omega,by omega⟩,?_⟩
    have e3:(if (0:Int)>B5 ((W:Int)-((19*2^j:Nat):Int)) then (0:Int) else B5 ((W:Int)-((19*2^j:Nat):Int)))=((W-19*2^j:Nat):Int):=by
     rw [B6 (by omega) (by omega)]
     split<;>omega
    rw [e3]
    refine ih (m.mono b) O M1 k1 (by omega) ((s.mono b).take (by omega)) (by omega) (by omega) (by omega) (by omega) ?_
    intro A3 n3 c3 e3 g3 h3 B
    have ai:=B.len
    have R:=A0 b B.le
    refine ⟨_,_,_,rfl,⟨by omega,by omega⟩,?_⟩
    refine ih (m.mono R) B.priv (M2.mono B.le) S (by omega) ((s.mono R).take (by omega)) (by omega) (by omega) (.inr rfl) (by omega) ?_
    intro A4 n4 c4 N T h4 G
    refine ⟨_,_,_,rfl,o _ _ _ N T _ ?_⟩
    rw [d]
    exact (B.trans G).weak b
def Fx:∀ (k:Nat) {h:aV} {K:VP} {PA:Option aQ} {pc:Nat} {l:List UInt8},(∀ c∈l,F8 c)->l.length<=100000000->Pws h PA k->k<=pc->k<=30->(∀ A n c h',h.le h'->n<=c->Mw h' A n (H4 l:Int)->K (.slice A n c) h')->aM prog I7 #[.string (bs l),.slice PA k pc] h K:=by
 intro k
 induction k using Nat.strongRecOn with
 | _ k ih=>
  intro h K PA pc l B T D ac hk G
  refine Uj _ _ _ _ ?_
  unfold Tg
  rw [G7]
  have b:aM prog J1 #[.string (bs l)] h (fun r z=>∃ (A:Option aQ) (n c:Nat),r= .slice A n c/\K (.slice A n c) z):=by
   refine Pi B T ?_
   intro A n c h' o g M
   exact ⟨_,_,_,rfl,G _ _ _ _ o g M⟩
  refine ⟨fun s z=>z=h/\∃ j:Nat,s=[I ((j:Int)-1)]/\j<=k,fun s _=>(iAt s 0+1).toNat,⟨rfl,k,by rw [B6 (by omega) (by omega)],bJ _⟩,?_⟩
  rintro x z ⟨rfl,j,R,hj⟩
  obtain rfl:x=(j:Int)-1:=by simpa using R
  refine B4 (fun N=>?_) (fun N=>B4 (fun _=>b) (fun e=>absurd (show (j:Int)-1<0 by omega) e))
  obtain ⟨i,rfl⟩:∃ i,j=i+1:=⟨j-1,by omega⟩
  have W:((i+1:Nat):Int)-1=(i:Int):=by omega
  have Z:0<2^i:=dA (by decide)
  simp only [W,aC,bK,H1,B6v (show i<=30 by omega)]
  refine B4 (fun e=>absurd e (by omega)) (fun _=>B4 (fun H=>?_) (fun H=>?_))
  ·refine ⟨⟨trivial,i,by rw [B6 (by omega) (by omega)],by omega⟩,?_⟩
   simp only [iAt,aH]
   rw [B6 (by omega) (by omega)]
   omega
  refine B4 (fun e=>absurd e (by omega)) (fun _=>B4 (fun _=>b) (fun L=>B4 (fun e=>absurd e (by omega)) (fun _=>?_)))
  have V:B5 ((l.length:Int)-((19*2^i:Nat):Int))=((l.length-19*2^i:Nat):Int):=by rw [B6 (by omega) (by omega)];omega
  simp only [V,aC,K3,bC,bK]
  obtain ⟨a,PA',pn,X,ha,g,q,Mp⟩:=D.at (i:=i) (by omega)
  refine ⟨⟨by omega,by omega⟩,⟨by omega,by omega⟩,a,ha,by omega,by omega,_,_,_,by rw [aY];exact g,?_⟩
  have S:=Mp.tenP_le
  have Q:19*2^i<l.length:=by omega
  have p:∀ c∈l.take (l.length-19*2^i),F8 c:=fun c g=>B c (bV g)
  have u:∀ c∈l.drop (l.length-19*2^i),F8 c:=fun c g=>B c (List.mem_of_mem_drop g)
  have E:(l.take (l.length-19*2^i)).length=l.length-19*2^i:=by rw [aL];omega
  have m:(l.drop (l.length-19*2^i)).length=19*2^i:=by rw [aX];omega
  have d:H4 l=H4 (l.take (l.length-19*2^i))*Fn i+H4 (l.drop (l.length-19*2^i)):=by
   have:=En (l.take (l.length-19*2^i)) (l.drop (l.length-19*2^i))
   rw [bO,m] at this
   exact this
  have hb:=Yt B
  have y:=Yt p
  have w:=Yt u
  rw [E] at y
  rw [m] at w
  refine ih i (by omega) p (by omega) (D.take (by omega)) (by omega) (by omega) ?_
  intro A1 n1 c1 H o k1 M1
  refine ⟨_,_,_,rfl,o,?_⟩
  have aa:=M1.len_le (by decide) y
  refine G1 M1 (Mp.mono o) k1 q (by omega) (by omega) ?_
  intro A2 n2 c2 h2 C k2 M2
  refine ⟨_,_,_,rfl,C,⟨by omega,by omega⟩,⟨by omega,by omega⟩,?_⟩
  rw [<- aU] at M2
  have O:=M2.len_le (by decide) (Int.lt_of_le_of_lt (Int.ofNat_le.2 (by rw [d];exact Nat.le_add_right _ _)) hb)
  rw [aG (by rw [m];omega)]
  refine ih i (by omega) u (by omega) ((D.mono (A0 o C)).take (by omega)) (by omega) (by omega) ?_
  intro A3 n3 c3 h3 F k3 M3
  refine ⟨_,_,_,rfl,F,?_⟩
  have ab:=M3.len_le (by decide) w
  refine O4 (M2.mono F) M3 k2 k3 (by omega) (by omega) ?_
  intro A4 n4 c4 h4 J k4 M4
  refine ⟨_,_,_,rfl,J,G _ _ _ _ (A0 o (A0 C (A0 F J))) k4 ?_⟩
  rw [<- dQ,<- d] at M4
  exact M4
section
variable {h g:aV} {K:VP} {A XA:Option aQ} {n c:Nat} {eT:bD} {l:List UInt8}
def A0d{hs:aV}{ss:List (Option aQ × Nat × Nat)}{s:Option aQ × Nat × Nat}(h3:∀ i s,ss[i]? = some s->s.2.1<=s.2.2/\Mw hs s.1 s.2.1 (Fn i:Int))(h4:s.2.1<=s.2.2/\Mw hs s.1 s.2.1 (Fn ss.length:Int)):∀ i t,(ss++[s])[i]? = some t->t.2.1<=t.2.2/\Mw hs t.1 t.2.1 (Fn i:Int):=by
 intro i t e
 by_cases b:i<ss.length
 ·rw [List.getElem?_append_left b] at e;exact h3 i t e
 ·rw [List.getElem?_append_right (by omega)] at e
  by_cases a:i=ss.length
  ·subst a
   simp at e
   subst e;exact h4
  ·rw [List.getElem?_eq_none (by simp;omega)] at e;cases e
def Xf{hs:aV}{b:Nat}{e:bD}: ∀ i (t:Option aQ × Nat × Nat),[((some ⟨b,0,none⟩:Option aQ),1,1)][i]? = some t->t.2.1<=t.2.2/\Mw (hs.put b (.cells #[U 10000000000000000000] e)) t.1 t.2.1 (Fn i:Int):=by
 intro i t a
 rcases i with _|i
 ·simp at a
  subst a
  refine ⟨bJ _,[10000000000000000000],rfl,SlI.new _ _ _ _ _,?_,?_,?_⟩
  ·intro x c;simp at c;subst c;decide
  ·unfold Norm;simp
  ·rw [A8i];simp [val]
 ·simp at a
def Rb(hd:∀ c∈l,F8 c)(hl:l.length<=100000000)(hK:∀ A n c h',h.le h'->n<=c->Mw h' A n (H4 l:Int)->K (.slice A n c) h'):aM prog Dz #[.string (bs l)] h K:=by
 refine Ui _ ?_
 unfold Tf
 rw [G7]
 refine B4 (fun h5=>?_) (fun _=>?_)
 ·refine Y4 O8 rfl ?_
  intro q z
  refine ⟨_,_,_,rfl,?_⟩
  refine Ft A4v (Priv.nil _ _ _ none) rfl rfl (by omega) (by omega) ?_
  intro A1 c1 h1 g1 m T
  refine ⟨fun s w=>∃ (j:List (Option aQ × Nat × Nat)) (PA:Option aQ) (k u:Nat) (g:aV),s=[.slice PA k u]/\cI w g Do 1 PA k u (j.map slT)/\j.length=k/\0<k/\h.le g/\(∀ i s,j[i]? = some s->s.2.1<=s.2.2/\Mw g s.1 s.2.1 (Fn i:Int))/\2^(k-1)<=l.length,fun s _=>match s with|[.slice _ n _]=>l.length-n|_=>0,⟨[(some ⟨q,0,none⟩,1,1)],A1,1,c1,g1,rfl,T,rfl,by omega,A0 (Heap.le_put _ z) m,fun i s e=>⟨(Xf (hs:=h) (b:=q) (e:=C0) i s e).1,(Xf (hs:=h) (b:=q) (e:=C0) i s e).2.mono m⟩,by simp;omega⟩,?_⟩
  rintro PA k u w ⟨j,PA',k',N,g,hs,p,C,Z,F,o,X⟩
  simp only [aI,aS,and_true] at hs
  obtain ⟨rfl,rfl,rfl⟩:=hs
  have E:k-1<27:=by
   by_cases d:k-1<27
   ·exact d
   ·have:2^27<=2^(k-1):=aN (by decide) (by omega)
    have:(2:Nat)^27=134217728:=by decide
    omega
  rw [aC,B6v (show k<=30 by omega)]
  have H:B5 ((k:Int)-1)=((k-1:Nat):Int):=by rw [B6 (by omega) (by omega)];omega
  have r:Pws w PA k:=⟨j,C,p.slV,fun i s e=>⟨(o i s e).1,(o i s e).2.mono p.le⟩⟩
  refine B4 (fun e=>absurd e (by omega)) (fun _=>B4 (fun L=>?_) (fun L=>?_))
  ·obtain ⟨a,ha,d⟩:=p.slV.at (i:=k-1) (by rw [cX];omega)
   rw [dK] at d
   obtain ⟨G,M⟩:=o (k-1) (j[k-1]'(by omega)) (aT (by omega))
   generalize j[k-1]'(by omega)=s at *
   rw [H,aC,aY]
   refine ⟨a,ha,by omega,by omega,_,_,_,d,?_⟩
   have D:=M.tenP_le
   refine p.call ?_
   refine G1 M M G G (by omega) (by omega) ?_
   intro A2 Q c2 g2 B W M2 h2 J
   refine ⟨_,_,_,rfl,?_⟩
   refine Ft A4v J rfl rfl (by omega) (by omega) ?_
   intro A3 O h3 S x V
   have hm:2^k=2*2^(k-1):=by
    obtain ⟨i,rfl⟩:∃ i,k=i+1:=⟨k-1,by omega⟩
    rw [cA];simp;omega
   have R:k<2^k:=Nat.lt_two_pow_self
   refine ⟨⟨j++[(A2,Q,c2)],A3,k+1,O,S,rfl,?_,by simp;omega,by omega,A0 F (A0 B x),?_,?_⟩,?_⟩
   ·rw [cW];exact V
   ·refine A0d (fun i s e=>⟨(o i s e).1,(o i s e).2.mono (A0 B x)⟩) ⟨W,?_⟩
    rw [C,show Fn k=Fn (k-1)*Fn (k-1) by rw [<- A0c];congr 1;omega,aU]
    exact M2.mono x
   ·rw [cL];omega
   ·show l.length-(k+1)<l.length-k
    omega
  ·refine Fx k hd hl r p.2.1 (by omega) ?_
   intro A n c h' y d M
   exact ⟨_,_,_,rfl,hK _ _ _ _ (A0 F (A0 p.le y)) d M⟩
 ·refine Fx 0 hd hl ⟨[],rfl,SlV.nil,by simp⟩ (by omega) (by omega) ?_
  intro A n c h' y d M
  exact ⟨_,_,_,rfl,hK _ _ _ _ y d M⟩
def Hm(hd:∀ c∈l,F8 c)(hl:l.length<=100000000)(hK:∀ A n c h',h.le h'->ZI h' false A n c (H4 l:Int)->K (.agg #[.bool false,.slice A n c]) h'):aM prog Hr #[.string (bs l)] h K:=by
 refine B0t _ ?_
 unfold B5n
 refine Rb hd hl ?_
 intro A n c h' b a M
 refine ⟨_,_,_,rfl,hK _ _ _ _ b ⟨a,?_,?_⟩⟩
 ·rw [aK];exact M
 ·symm;rw [decide_eq_false_iff_not];omega
end
def Priv.le_put'{h g:aV}{e:bD}{s:Nat}{A:Option aQ}{n c:Nat}{xs:List cO}(p:cI h g e s A n c xs){b:Nat}(hb:h b=none)(o:Obj):g.le (g.put b o):=by
 intro k i d
 have a:k≠b:=by
  rintro rfl
  rw [p.le k i d] at hb;cases hb
 rw [B7 _ _ a];exact d
def A84{n:Int}(h0:9223372036854775808<=n)(h1:n<18446744073709551616):B5 n=n-18446744073709551616:=by
 unfold B5 IntKind.wrap
 simp only [IntKind.signed,IntKind.bits]
 have e:n%18446744073709551616=n:=by omega
 simp only [show (2^64:Int)=18446744073709551616 from rfl,show (2^(64-1):Int)=9223372036854775808 from rfl,e]
 rw [iP (by simp;omega)]
section
variable {h g:aV} {K:VP} {A XA:Option aQ} {n c:Nat} {eT:bD} {l:List UInt8}
def B9t{v xn:Nat}(hv:(v:Int)<b64^xn):(dd v).length<=20*xn:=by
 refine N6.2 ?_
 rw [dM]
 have a:((v:Nat):Int)<((18446744073709551616^xn:Nat):Int):=by rw [aR];exact hv
 exact aW (Int.ofNat_lt.1 a) (cK (by decide) _)
def Ey{xn xc v:Nat}(gp:Gp g)(p:cI h g eT 1 A n c (yv l))(M:Mw g XA xn (v:Int))(hxc:xn<=xc)(hx:xn<=10000000)(hn:n<=200000000)
 (hK:∀ A' n' c' e3 g' h',Ext g eT A n c l (J3 v) A' n' c' e3 g' h'->K (.slice A' n' c') h'):aM prog V4 #[.slice A n c,.slice XA xn xc] h K:=by
 have h0:=M.len_zero (by decide)
 refine Tl _ _ _ _ _ _ ?_
 unfold Pc
 refine D9 (fun e=>?_) (fun e=>?_)
 ·obtain rfl:v=0:=by omega
  refine Dv (ch:=48) rfl p (by omega) ?_
  intro A' n' c' F g' h' x
  exact hK _ _ _ _ _ _ x
 ·have T:v≠0:=by omega
  refine D9 (fun R=>?_) (fun R=>?_)
  ·obtain ⟨xs,y,sx,dx,nx,N⟩:=M
   obtain ⟨w,rfl⟩:∃ w,xs=[w]:=by
    rcases xs with _|⟨w,_|⟨w',r⟩⟩
    ·simp at y;omega
    ·exact ⟨w,rfl⟩
    ·simp at y;omega
   rw [S9] at N
   subst N
   refine (SlI.mono p.le sx).load y (by omega) (by omega) ?_
   have q:=dx v (by simp)
   refine Ev (gp.mono p.le) p (by have:(v:Int)<18446744073709551616:=q.2;omega) (by omega) ?_
   intro A' n' c' F g' h' x
   exact ⟨_,_,_,rfl,hK _ _ _ _ _ _ x⟩
  ·have al:=B9t (M.lt (by decide))
   have ah:(pad 0 v).length<=200000000:=by rw [A4y];omega
   refine Y4 O8 rfl ?_
   intro G O
   refine ⟨_,_,_,rfl,?_⟩
   have p1:=p.put O (.cells #[U 10000000000000000000] C0)
   have l1:=p.le_put' O (.cells #[U 10000000000000000000] C0)
   have w1:=fun i s e=>Xf (hs:=g) (b:=G) (e:=C0) i s e
   generalize h.put G (Obj.cells #[U 10000000000000000000] C0)=h1 at *
   generalize g.put G (Obj.cells #[U 10000000000000000000] C0)=g1 at *
   refine Y4 A4v rfl ?_
   intro b2 aa
   refine ⟨_,_,_,rfl,?_⟩
   have split:∀ {C:aV} {o:List (Option aQ × Nat × Nat)} {PA:Option aQ} {k z:Nat} {j d:aV},cI C j Do 1 PA k z (o.map slT)->cI j d eT 1 A n c (yv l)->o.length=k->g.le d->(∀ i s,o[i]? = some s->s.2.1<=s.2.2/\Mw d s.1 s.2.1 (Fn i:Int))->k<=26->
    aM prog F9 #[.slice A n c,.slice XA xn xc,I (0:Int),.slice PA k z] C (fun r Q=>∃ (A1:Option aQ) (n1 c1:Nat),r= .slice A1 n1 c1/\K (.slice A1 n1 c1) Q):=by
    intro C o PA k z j d B D H L q m
    obtain ⟨g3,V,u⟩:=B.swap D
    have J:=A0 L u.le
    refine Pj k (W:=0) (gp.mono J) V (M.mono J) hxc hx ⟨o,H,u.slV,fun i s e=>⟨(q i s e).1,(q i s e).2.mono u.le⟩⟩ u.2.1 m (.inl rfl) (by omega) ?_
    intro A' n' c' F g' h' x
    refine ⟨_,_,_,rfl,hK _ _ _ F g' _ ?_⟩
    rw [A4y,<- V8 T] at x
    exact x.weak J
   refine ⟨fun s C=>∃ (o:List (Option aQ × Nat × Nat)) (PA:Option aQ) (k z:Nat) (j d:aV),s=[.slice PA k z]/\cI C j Do 1 PA k z (o.map slT)/\cI j d eT 1 A n c (yv l)/\o.length=k/\0<k/\g.le d/\(∀ i s,o[i]? = some s->s.2.1<=s.2.2/\Mw d s.1 s.2.1 (Fn i:Int))/\2^(k-1)<=2*xn,fun s _=>match s with|[.slice _ n _]=>xn-n|_=>0,⟨[(some ⟨G,0,none⟩,1,1)],_,1,1,h1,g1,rfl,⟨by simp,by simp,.inr ⟨b2,[.slice (some ⟨G,0,none⟩) 1 1],rfl,aa,rfl,by simp,by simp⟩⟩,p1,rfl,by omega,l1,w1,by simp;omega⟩,?_⟩
   rintro PA k z C ⟨o,PA',k',ae,j,d,hs,B,D,H,ak,L,q,af⟩
   simp only [aI,aS,and_true] at hs
   obtain ⟨rfl,rfl,rfl⟩:=hs
   have m:k<=26:=by
    by_cases E:k<=26
    ·exact E
    ·have h1:2^26<=2^(k-1):=aN (by decide) (by omega)
     have h2:(2:Nat)^26=67108864:=by decide
     omega
   refine B4 (fun am=>?_) (fun _=>split B D H L q m)
   have R:B5 ((k:Int)-1)=((k-1:Nat):Int):=by rw [B6 (by omega) (by omega)];omega
   obtain ⟨a,ha,E⟩:=B.slV.at (i:=k-1) (by rw [cX];omega)
   rw [dK] at E
   obtain ⟨h4,Mk⟩:=q (k-1) (o[k-1]'(by omega)) (aT (by omega))
   generalize o[k-1]'(by omega)=s at *
   simp only [R,aC,aY]
   refine ⟨a,ha,by omega,by omega,_,_,_,E,?_⟩
   have aj:=Mk.tenP_ge
   have ad:=Mk.tenP_le
   have F:B5 (2*(s.2.1:Int))=2*(s.2.1:Int):=B6 (by omega) (by omega)
   rw [F]
   refine B4 (fun h5=>?_) (fun _=>split B D H L q m)
   refine ⟨a,ha,by omega,by omega,_,_,_,E,?_⟩
   refine B.call (D.call ?_)
   refine G1 Mk Mk h4 h4 (by omega) (by omega) ?_
   intro A2 m2 c2 g2 l2 k2 M2 ac S ai Z
   refine ⟨_,_,_,rfl,?_⟩
   refine Ft A4v Z rfl rfl (by omega) (by omega) ?_
   intro A3 c3 h3 g3 J p3
   obtain ⟨g4,X,ab⟩:=S.after J
   have hm:2^k=2*2^(k-1):=by
    obtain ⟨i,rfl⟩:∃ i,k=i+1:=⟨k-1,by omega⟩
    rw [cA];simp;omega
   have ag:k<2^k:=Nat.lt_two_pow_self
   refine ⟨⟨o++[(A2,m2,c2)],A3,k+1,c3,g3,g4,rfl,?_,ab,by simp;omega,by omega,A0 L (A0 l2 X),?_,?_⟩,?_⟩
   ·rw [cW];exact p3
   ·refine A0d (fun i s e=>⟨(q i s e).1,(q i s e).2.mono (A0 l2 X)⟩) ⟨k2,?_⟩
    rw [H,show Fn k=Fn (k-1)*Fn (k-1) by rw [<- A0c];congr 1;omega,aU]
    exact M2.mono X
   ·rw [cL];omega
   ·show xn-(k+1)<xn-k
    omega
def B2j{z:Int}{s:Bool}{xn xc m:Nat}(i:ZI h s XA xn xc z)(hz:ZB m z)(hm:m<=100000000):xn<=10000000:=by
 obtain ⟨k,hk⟩:∃ k,k=10000000:=⟨_,rfl⟩
 rw [<- hk]
 refine i.mag.len_le (by decide) ?_
 rw [Fw]
 have b:(z.natAbs:Int)<2^m:=by
  have:((z.natAbs:Nat):Int)<((2^m:Nat):Int):=Int.ofNat_lt.2 hz
  simpa using this
 have a:=D5 (B:=2) (by decide) (show m<=64*k by omega)
 exact Int.lt_of_lt_of_le b a
def Fi{s:Bool}{xn xc:Nat}{z:Int}(gp:Gp g)(p:cI h g eT 1 A n c (yv l))(i:ZI g s XA xn xc z){m:Nat}(hz:ZB m z)(hm:m<=100000000)(hn:n<=100000000)
 (hK:∀ A' n' c' e3 g' h',Ext g eT A n c l (Dp z) A' n' c' e3 g' h'->K (.slice A' n' c') h'):aM prog Gd #[.agg #[.bool s,.slice XA xn xc],.slice A n c] h K:=by
 have k:=B2j i hz hm
 refine A73 _ _ _ _ _ _ _ ?_
 unfold B0q
 refine Br.of (fun e=>?_) (fun e=>?_)
 ·have a:z<0:=by have:=i.sgn;rw [e] at this;simpa using this.symm
  rw [Xd a] at hK
  refine Dv (ch:=45) rfl p (by omega) ?_
  intro A1 y c1 x w u b
  have:=b.len
  refine Ey (gp.mono b.le) b.priv (i.mag.mono b.le) i.cap k (by simp at this;omega) ?_
  intro A2 r c2 o q j d
  exact ⟨_,_,_,rfl,hK _ _ _ _ _ _ (b.trans d)⟩
 ·have a:¬ z<0:=by have:=i.sgn;rw [e] at this;simpa using this.symm
  rw [Ju a] at hK
  refine Ey gp p i.mag i.cap k (by omega) ?_
  intro A2 r c2 o q j d
  exact ⟨_,_,_,rfl,hK _ _ _ _ _ _ d⟩
def Ff{s:Bool}{xn xc:Nat}{z:Int}(gp:Gp h)(i:ZI h s XA xn xc z){m:Nat}(hz:ZB m z)(hm:m<=100000000)(hK:K (.string (bs (Dp z))) h):aM prog Gc #[.agg #[.bool s,.slice XA xn xc]] h K:=by
 refine FCall.pure (A70 _ _ _ _ ?_)
 unfold B0l
 refine Fi (l:=[]) (eT:=F1) gp (Priv.nil _ _ _ _) i hz hm (by omega) ?_
 intro A' d c b g e x
 refine ⟨_,_,_,rfl,?_⟩
 have a:=x.len
 refine Hj Ct.und Av Q3 x.priv.slV (by simpa using a) ⟨_,rfl,?_⟩
 exact ⟨A0 x.le x.priv.le,hK⟩
def A2o{s:Bool}{xn xc:Nat}{z:Int}(i:ZI h s XA xn xc z)(hK1: -9223372036854775808<=z->z<9223372036854775808->K (.tuple #[I z,.bool true]) h)(hK0:¬ (-9223372036854775808<=z/\z<9223372036854775808)->K (.tuple #[I 0,.bool false]) h):aM prog Ya #[.agg #[.bool s,.slice XA xn xc]] h K:=by
 have y:=i.zeroIff
 have l:=Fp i.sgn
 refine B0p _ _ _ _ ?_
 unfold B5m
 refine D9 (fun e=>?_) (fun e=>?_)
 ·obtain rfl:z=0:=by omega
  exact hK1 (by omega) (by omega)
 ·obtain ⟨j,a,o,m,x,g⟩:=i.mag
  have u:=L6 m 0
  refine o.load a (by omega) (by omega) ?_
  rw [show ((0:Int)).toNat=0 from rfl]
  refine B4 (fun k=>?_) (fun k=>?_)
  ·refine hK0 ?_
   have p:=i.mag.ge (by decide) (by omega)
   have B:b64^1<=b64^(xn-1):=D5 (by decide) (by omega)
   have C:b64^1=18446744073709551616:=by decide
   omega
  ·obtain ⟨w,rfl⟩:∃ w,j=[w]:=by
    rcases j with _|⟨w,_|⟨A,r⟩⟩
    ·simp at a;omega
    ·exact ⟨w,rfl⟩
    ·simp at a;omega
   rw [S9] at g
   have q:[w].getD 0 0=w:=rfl
   rw [q] at u ⊢
   rcases l with ⟨rfl,n⟩|⟨rfl,n⟩
   ·refine Br.of (fun _=>?_) (fun c=>by cases c)
    refine B4 (fun d=>?_) (fun d=>?_)
    ·have:B5 (B8 (0-w))=z:=by rw [D8,A84 (by omega) (by omega)];omega
     rw [this];exact hK1 (by omega) (by omega)
    ·refine Br.of (fun b=>by cases b) (fun _=>?_)
     exact hK0 (by omega)
   ·refine Br.of (fun c=>by cases c) (fun _=>?_)
    refine Br.of (fun _=>?_) (fun b=>by cases b)
    refine B4 (fun d=>?_) (fun d=>?_)
    ·have:B5 w=z:=by rw [B6 (by omega) (by omega)];omega
     rw [this];exact hK1 (by omega) (by omega)
    ·exact hK0 (by omega)
end
def B6s(q:Rat)(f:Int):(q-f).num=q.num-f*q.den/\(q-f).den=q.den:=by
 have c:bH (q.num-f*q.den).natAbs q.den=1:=by
  have a:bI (q.num-f*q.den) q.den=bI q.num q.den:=Int.gcd_sub_mul_right_left _ _ _
  have b:bI q.num q.den=1:=by
   have:=q.reduced
   unfold Nat.Coprime at this
   unfold bI
   simpa using this
  rw [b] at a
  unfold bI at a
  simpa using a
 have e:q-f=⟨q.num-f*q.den,q.den,q.den_nz,c⟩:=by
  rw [Rat.sub_def',Rat.mk_eq_mkRat];simp
 rw [e];exact ⟨rfl,rfl⟩
def A9b(a b:Rat):(a*b).num=a.num.tdiv (bH a.num.natAbs b.den:Nat)*b.num.tdiv (bH b.num.natAbs a.den:Nat)/\(a*b).den=a.den/(bH b.num.natAbs a.den)*(b.den/(bH a.num.natAbs b.den)):=by
 show (Rat.mul a b).num=_/\(Rat.mul a b).den=_
 delta Rat.mul
 simp only [Int.divExact_eq_tdiv,Nat.divExact_eq_div,and_self]
def Vw(a b:Rat)(h:a.den.gcd b.den=1):(a+b).num=a.num*b.den+b.num*a.den/\(a+b).den=a.den*b.den:=by
 show (dS a b).num=_/\(dS a b).den=_
 delta dS
 simp only [h,dif_pos,and_self]
def Vv(a b:Rat)(h:a.den.gcd b.den≠1){g r:Nat}{z:Int}(hg:g=a.den.gcd b.den)(hz:z=a.num*(b.den/g:Nat)+b.num*(a.den/g:Nat))(hr:r=z.natAbs.gcd g):(a+b).num=z.tdiv r/\(a+b).den=a.den/g*(b.den/r):=by
 subst hg hz
 have c:r∣b.den:=by rw [hr];exact Nat.dvd_trans (cQ ..) (cQ ..)
 show (dS a b).num=_/\(dS a b).den=_
 delta dS
 simp only [h,dif_neg,not_false_eq_true]
 rw [Rat.maybeNormalize_eq]
 subst hr
 refine ⟨?_,Nat.mul_div_assoc _ c⟩
 simp only [Int.divExact_eq_tdiv]
def Lm(a:Rat)(z:Int):(a+z).num=z*a.den+a.num/\(a+z).den=a.den:=by
 have:=B6s a (-z)
 rw [Rat.intCast_neg] at this
 have e:a - -(z:Rat)=a+z:=by grind
 rw [e] at this
 refine ⟨by rw [this.1,Int.neg_mul];omega,this.2⟩
def Vq{q:Rat}(h:q.den=1):q=(q.num:Rat):=by
 apply Rat.ext
 ·simp
 ·simpa using h
abbrev dgt(c:UInt8):Bool:=decide (F8 c)
def Jw(l:List UInt8):∀ c∈l.takeWhile dgt,F8 c:=by
 induction l with
 | nil=>simp
 | cons d r ih=>
  intro c a
  by_cases b:F8 d
  ·simp [b] at a
   rcases a with rfl|a
   ·exact b
   ·exact ih c a
  ·simp [b] at a
def B3b(l:List UInt8):Bool:=decide ([45] <+: l)
def Cx(l:List UInt8):List UInt8:=if [45] <+: l then l.drop 1 else l
def A4x(l:List UInt8):l=(if B3b l then [45] else [])++Cx l:=by
 unfold B3b Cx
 by_cases h:[45] <+: l
 ·obtain ⟨t,rfl⟩:=h;simp
 ·simp [h]
def A8x(l:List UInt8):B3b l=(l.head? == some 45):=by
 unfold B3b
 cases l with
 | nil=>simp
 | cons c r=>
  rw [cY,cJ,decide_eq_true_iff,beq_iff_eq,bG]
  constructor
  ·rintro ⟨t,e⟩;simp at e;exact e.1.symm
  ·rintro rfl;exact ⟨r,rfl⟩
def Form.parts{l:List UInt8}{neg:Bool}{a b:List UInt8}(f:Form l neg a b):neg=B3b l/\a=(Cx l).takeWhile dgt/\(if b=[] then [] else 47::b)=(Cx l).dropWhile dgt:=by
 have i:neg=B3b l:=by rw [A8x];exact f.head
 have e:=A4x l
 rw [<- i] at e
 have g:=e.symm.trans f.eq
 rw [aO] at g
 have j:=eB g
 have k:∀ c,(if b=[] then [] else 47::b:List UInt8).head? = some c->¬ F8 c:=by
  intro c d
  split at d
  ·simp at d
  ·simp at d;subst d;decide
 have:=Ds f.da k
 rw [<- j] at this
 exact ⟨i,this.1.symm,this.2.symm⟩
section
variable {h g:aV} {K:VP} {l:List UInt8}
def Ii(hl:l.length<=1000000000)(hK:K (.tuple #[.string (bs (l.takeWhile dgt)),.string (bs (l.dropWhile dgt))]) h):aM prog W9 #[.string (bs l)] h K:=by
 refine Ze _ ?_
 unfold Wa
 simp only [G7]
 refine ⟨fun L e=>L=[I (((l.takeWhile dgt).length:Nat):Int)]/\e=h,?_,?_⟩
 ·refine ⟨fun L e=>∃ k:Nat,L=[I k]/\e=h/\k<=l.length/\(∀ c∈l.take k,F8 c),fun L _=>l.length-(iAt L 0).toNat,⟨0,rfl,rfl,by omega,by simp⟩,?_⟩
  rintro n e ⟨k,m,rfl,x,i⟩
  obtain rfl:=sI1 m
  have a:(∀ c,(l.drop k).head? = some c->¬ F8 c)->[I (k:Int)]=[I (((l.takeWhile dgt).length:Nat):Int)]/\e=e:=by
   intro z
   have:=Ds i z
   rw [bO] at this
   refine ⟨?_,rfl⟩
   rw [this.1,aL,aZ x]
  refine B4 (fun A=>?_) (fun A=>?_)
  ·have g:k<l.length:=by omega
   have d:(bs l)[(k:Int).toNat]? = some l[k]:=by rw [aC,Ij,aT g]
   have r:(l.drop k).head? = some l[k]:=by rw [List.head?_drop,aT g]
   refine ⟨l[k],⟨by omega,d⟩,B4 (fun u=>?_) (fun u=>?_)⟩
   ·refine ⟨l[k],⟨by omega,d⟩,B4 (fun w=>?_) (fun w=>?_)⟩
    ·rw [B6 (by omega) (by omega)]
     refine ⟨⟨k+1,rfl,rfl,by omega,?_⟩,by simp only [iAt,aH];omega⟩
     rw [cC g]
     intro c b
     rcases List.mem_append.1 b with o|o
     ·exact i c o
     ·rw [List.mem_singleton.1 o];exact ⟨by omega,by omega⟩
    ·exact a (fun c b=>by rw [r] at b;cases b;intro i;exact w (by have:=i.2;omega))
   ·exact a (fun c b=>by rw [r] at b;cases b;intro i;exact u (by have:=i.1;omega))
  ·exact a (fun c b=>by rw [cD (by omega)] at b;cases b)
 ·rintro n e ⟨m,rfl⟩
  obtain rfl:n=(((l.takeWhile dgt).length:Nat):Int):=by simpa using m
  have j:(l.takeWhile dgt).length<=l.length:=(eG _).length_le
  have s:l.take (l.takeWhile dgt).length=l.takeWhile dgt:=by
   conv=>lhs;rw [<- cF (p:=dgt) (l:=l)]
   rw [cF,List.prefix_iff_eq_take.1 (List.takeWhile_prefix _)]
   rw [aL,aZ j]
  have q:l.drop (l.takeWhile dgt).length=l.dropWhile dgt:=by
   have y:l.takeWhile dgt++l.drop (l.takeWhile dgt).length=l.takeWhile dgt++l.dropWhile dgt:=by
    rw [cF]
    conv=>lhs;lhs;rw [<- s]
    exact bO _ _
   exact eB y
  refine ⟨⟨by omega,by omega⟩,⟨by omega,by omega⟩,?_⟩
  rw [aC,K3,K3,bC,bK,s,q,aG (by rw [<- q,aX];omega)]
  exact hK
def U4(a:List UInt8):((bs a).toList==({ data:=#[] }:ByteArray).toList)=decide (a=[]):=Ew a []
def Ms(hl:l.length<=1000000000)(hK1:∀ neg a b,Form l neg a b->K (.tuple #[.agg #[.bool neg,.string (bs a),.string (bs b)],.bool true]) h)(hK0:(∀ neg a b,¬ Form l neg a b)->∀ neg a b,K (.tuple #[.agg #[.bool neg,.string (bs a),.string (bs b)],.bool false]) h):aM prog Kp #[.string (bs l)] h K:=by
 refine B0y _ ?_
 unfold B5s
 refine Uf (q:=[45]) ⟨_,_,rfl,?_⟩
 have B:(Cx l).length<=l.length:=by unfold Cx;split<;>simp
 show aM prog W9 #[.string (bs (Cx l))] h _
 refine Ii (by omega) ⟨_,_,rfl,?_⟩
 show Br _ _ _
 have C:Cx l=(Cx l).takeWhile dgt++(Cx l).dropWhile dgt:=List.takeWhile_append_dropWhile.symm
 have w:∀ c∈(Cx l).takeWhile dgt,F8 c:=Jw _
 have k:∀ neg a b,Form l neg a b->neg=B3b l/\a=(Cx l).takeWhile dgt/\(if b=[] then [] else 47::b)=(Cx l).dropWhile dgt:=fun neg a b f=>f.parts
 have g:=A4x l
 have ab:((Cx l).takeWhile dgt).length<=l.length:=bL (eG _).length_le B
 have J:((Cx l).dropWhile dgt).length<=l.length:=bL (List.dropWhile_sublist _).length_le B
 have aa:∀ c,((Cx l).dropWhile dgt).head? = some c->¬ F8 c:=fun c O=>by
  have:=List.head?_dropWhile_not dgt (Cx l)
  rw [O] at this
  simpa using this
 show Br _ _ _
 have z:decide ([45] <+: l)=B3b l:=rfl
 rw [z]
 generalize B3b l=neg at *
 generalize (Cx l).takeWhile dgt=a at *
 generalize (Cx l).dropWhile dgt=r at *
 generalize Cx l=t at *
 subst C
 have M:((bs a).toList==({ data:=#[48] }:ByteArray).toList)=decide (a=[48]):=Ew a [48]
 rw [M,U4,U4]
 refine B4 (fun Q=>?_) (fun Q=>?_)
 ·subst Q
  refine S7 (Br.of (fun W=>?_) (fun W=>?_))
  ·subst W
   refine hK0 ?_ _ _ []
   intro E x i f
   obtain ⟨rfl,rfl,_⟩:=k _ _ _ f
   rcases f.ha with d|d
   ·exact d rfl
   ·cases d.2.1
  ·subst W
   by_cases F:r=[]
   ·rw [decide_eq_true F]
    subst F
    refine hK1 false [48] [] ⟨by simpa using g,by simpa using w,by simp,by simp,.inr ⟨rfl,rfl,rfl⟩,by simp,by simp⟩
   ·rw [decide_eq_false F]
    refine hK0 ?_ _ _ []
    intro E x i f
    obtain ⟨rfl,rfl,n⟩:=k _ _ _ f
    rcases f.ha with d|d
    ·exact d rfl
    ·rw [d.2.2] at n;exact F (by simpa using n.symm)
 ·refine ⟨fun L X=>L=[.bool (decide (a=[]\/a.head? = some 48))]/\X=h,?_,?_⟩
  ·refine B4 (fun d=>⟨by simp [d],rfl⟩) (fun d=>?_)
   obtain ⟨c,m,rfl⟩:=bW d
   refine ⟨c,⟨by omega,by rw [Ij];rfl⟩,?_,rfl⟩
   congr 2
   rw [cJ,beq_iff_eq,decide_eq_true_iff]
   simp only [reduceCtorEq,false_or,cY,bG]
   constructor
   ·intro e;apply UInt8.toNat_inj.1;show c.toNat=48;omega
   ·rintro rfl;rfl
  rintro R X ⟨hL,rfl⟩
  obtain rfl:R=decide (a=[]\/a.head? = some 48):=by simpa using hL
  refine B4 (fun d=>?_) (fun d=>?_)
  ·refine hK0 ?_ _ _ []
   intro E x i f
   obtain ⟨rfl,rfl,_⟩:=k _ _ _ f
   rcases d with d|d
   ·exact f.ne d
   ·rcases f.ha with n|n
    ·exact n d
    ·exact Q n.1
  ·have p:a≠[]:=fun e=>d (.inl e)
   have D:a.head? ≠ some 48:=fun e=>d (.inr e)
   refine B4 (fun n=>?_) (fun n=>?_)
   ·subst n
    exact hK1 neg a [] ⟨by simpa using g,w,by simp,p,.inl D,by simp,by simp⟩
   ·obtain ⟨c,m,rfl⟩:=bW n
    refine ⟨c,⟨by omega,by rw [Ij];rfl⟩,N8 (fun Z=>?_) (fun Z=>?_)⟩
    ·refine hK0 ?_ _ _ []
     intro E x i f
     obtain ⟨rfl,rfl,o⟩:=k _ _ _ f
     by_cases y:i=[]
     ·simp [y] at o
     ·rw [iN y] at o
      simp at o
      exact Z (by rw [<- o.1];rfl)
    ·have O:c=47:=by apply UInt8.toNat_inj.1;show c.toNat=47;omega
     subst O
     refine ⟨⟨by omega,by rw [G7];simp;omega⟩,?_⟩
     rw [K3,show ((1:Int)).toNat=1 from rfl,G7,aG (by simp),List.drop_succ_cons,bC]
     refine Ii (by simp at J;omega) ⟨_,_,rfl,?_⟩
     have u:m=m.takeWhile dgt++m.dropWhile dgt:=List.takeWhile_append_dropWhile.symm
     have T:∀ c∈m.takeWhile dgt,F8 c:=Jw _
     have N:∀ i:List UInt8,(∀ c∈i,F8 c)->i=m->m.takeWhile dgt=i/\m.dropWhile dgt=[]:=by
      intro i hd e
      subst e
      have:=Ds (r:=[]) hd (by simp)
      simpa using this
     generalize m.takeWhile dgt=b at *
     generalize m.dropWhile dgt=s at *
     have G:(s≠[]\/b=[]\/b.head? = some 48\/b=[49])->∀ neg' x i,¬ Form (((if neg=true then [45] else [])++(a++47::m))) neg' x i:=by
      rintro A E x i f
      rw [<- g] at f
      obtain ⟨rfl,rfl,o⟩:=k _ _ _ f
      by_cases y:i=[]
      ·simp [y] at o
      ·rw [iN y] at o
       simp at o
       obtain ⟨e6,e7⟩:=N i f.db o
       subst e6
       rcases A with j|j|j|j
       ·exact j e7
       ·exact y j
       ·exact f.hb j
       ·exact f.b1 j
     rw [U4,U4]
     have V:((bs b).toList==({ data:=#[49] }:ByteArray).toList)=decide (b=[49]):=Ew b [49]
     rw [V]
     refine B4 (fun j=>?_) (fun j=>hK0 (by rw [g];exact G (.inl j)) _ _ _)
     subst j
     rw [bY] at u
     subst u
     refine S7 (B4 (fun S=>hK0 (by rw [g];exact G (.inr (.inl S))) _ _ _) (fun S=>?_))
     obtain ⟨c,r3,rfl⟩:=bW S
     refine ⟨c,⟨by omega,by rw [Ij];rfl⟩,N8 (fun h8=>?_) (fun h8=>?_)⟩
     ·by_cases H:c::r3=[49]
      ·rw [decide_eq_true H]
       exact hK0 (by rw [g];exact G (.inr (.inr (.inr H)))) _ _ _
      ·rw [decide_eq_false H]
       refine hK1 neg a (c::r3) ⟨by simpa using g,w,T,p,.inl D,?_,H⟩
       intro e;simp at e;exact h8 (by rw [e];rfl)
     ·have hh:(c::r3).head? = some 48:=by
       simp only [cY,bG]
       apply UInt8.toNat_inj.1;show c.toNat=48;omega
      exact hK0 (by rw [g];exact G (.inr (.inr (.inl hh)))) _ _ _
end
def B46:(prog.info? A8a).map (fun i=>i.zero)=some (some (.agg (bN 48 (.int .u8 0)))):=by kernel_rfl
def A1l{x y:Int}(hy:0<y):(cU x y).num=x.tdiv (bI x y)/\((cU x y).den:Int)=y.tdiv (bI x y):=by
 have b:(bI x y:Int)∣x:=Int.gcd_dvd_left ..
 have a:(bI x y:Int)∣y:=Int.gcd_dvd_right ..
 constructor
 ·rw [Rat.num_divInt,bA hy,Int.one_mul,Int.gcd_comm,eC b]
 ·rw [Rat.den_divInt,iN (by omega),Int.gcd_comm,dL,Int.natAbs_of_nonneg (by omega),eC a]
def A4r{q:Rat}(h:q.den=1):E4 q=Dp q.num:=by unfold E4;rw [iP h,bY]
def A07{q:Rat}(h:q.den≠1):E4 q=Dp q.num++[47]++Dp (q.den:Int):=by
 unfold E4;rw [iN h,Ju (i:=(q.den:Int)) (by omega),aK];simp
section
variable {h g:aV} {K:VP} {l:List UInt8}
def C1h{k:Nat}(h:k<=18):10^k<=1000000000000000000:=bL (aN (by decide) h) (by decide)
def Eu(hd:∀ c∈l,F8 c)(hl:l.length<=18)(hK:K (I (H4 l:Int)) h):aM prog V5 #[.string (bs l)] h K:=by
 refine To _ ?_
 unfold Pe
 simp only [G7]
 refine ⟨fun L g=>∃ k:Nat,L=[I (H4 (l.take k):Int),I k]/\g=h/\k<=l.length,fun L _=>l.length-(iAt L 1).toNat,⟨0,rfl,rfl,by omega⟩,?_⟩
 rintro n p g ⟨k,i,rfl,o⟩
 simp only [aI,aP,and_true,true_and] at i
 obtain ⟨rfl,rfl⟩:=i
 refine B4 (fun j=>?_) (fun j=>?_)
 ·have a:k<l.length:=by omega
  have b:=hd l[k] (cT a)
  have d:=Em (l:=l.take (k+1)) (fun c m=>hd c (bV m))
  rw [aL,aZ (by omega)] at d
  have r:=C1h (k:=k+1) (by omega)
  have q:H4 (l.take (k+1))=10*H4 (l.take k)+(l[k].toNat-48):=by rw [cC a,Gq]
  unfold F8 at b
  refine ⟨l[k],⟨by omega,by rw [aC,Ij,aT a]⟩,?_⟩
  have e:B5 (B5 (10*((H4 (l.take k):Nat):Int))+B5 (wu8 (((l[k].toNat:Nat):Int)-48)))=((H4 (l.take (k+1)):Nat):Int):=by
   rw [Ut (by omega) (by omega),B6 (n:=((l[k].toNat:Nat):Int)-48) (by omega) (by omega),B6 (n:=10*((H4 (l.take k):Nat):Int)) (by omega) (by omega),B6 (by omega) (by omega)]
   omega
  rw [e,B6 (n:=(k:Int)+1) (by omega) (by omega)]
  exact ⟨⟨k+1,rfl,rfl,by omega⟩,by simp only [iAt,aH,aJ];omega⟩
 ·obtain rfl:k=l.length:=by omega
  rw [List.take_length];exact hK
def A0b{a b:Nat}(hK:K (I (bH a b:Int)) h):aM prog A5a #[I (a:Int),I (b:Int)] h K:=by
 refine B80 _ _ ?_
 unfold C39
 refine ⟨fun L d=>∃ x y:Nat,L=[I x,I y]/\d=h/\bH x y=bH a b,fun L _=>(iAt L 1).toNat,⟨a,b,rfl,rfl,rfl⟩,?_⟩
 rintro m j d ⟨x,y,k,rfl,c⟩
 obtain ⟨rfl,rfl⟩:m=(x:Int)/\j=(y:Int):=by simpa using k
 refine N8 (fun g=>?_) (fun g=>?_)
 ·have i:y≠0:=by omega
  refine B4 (fun e=>absurd e g) (fun _=>?_)
  have e:cM (x:Int) (y:Int)=((x%y:Nat):Int):=(dD x y).symm
  rw [e]
  have l:=Nat.mod_lt x (Nat.pos_of_ne_zero i)
  refine ⟨⟨y,x%y,rfl,rfl,?_⟩,by simp only [iAt,aH,aJ];omega⟩
  rw [<- c,Nat.gcd_comm x y,Nat.gcd_rec y x,Nat.gcd_comm]
 ·obtain rfl:y=0:=by omega
  rw [Nat.gcd_zero_right] at c
  rw [c];exact hK
def Ch(hK1:∀ q,l=E4 q->q.num.natAbs<1000000000->q.den<1000000000->K (.tuple #[.agg #[I q.num,I (q.den:Int)],.bool true]) h)(hK0:K (.tuple #[.agg #[I 0,I 0],.bool false]) h):aM prog W7 #[.string (bs l)] h K:=by
 refine Zd _ ?_
 unfold Vz
 rw [G7]
 refine B4 (fun _=>hK0) (fun O=>?_)
 refine Ms (by omega) ?_ ?_
 ·intro neg a b f
  refine ⟨_,_,_,_,rfl,?_⟩
  simp only [G7]
  refine ⟨fun L i=>L=[.bool (decide (a.length>9\/b.length>9))]/\i=h,Br.of (fun e=>by cases e) (fun _=>B4 (fun w=>⟨?_,rfl⟩) (fun w=>⟨?_,rfl⟩)),?_⟩
  ·rw [decide_eq_true (show a.length>9\/b.length>9 by omega)]
  ·by_cases M:b.length>9
   ·rw [decide_eq_true (show a.length>9\/b.length>9 by omega)]
    exact congrArg (fun x=>[Value.bool x]) (decide_eq_true (show ((b.length:Nat):Int)>9 by omega))
   ·rw [decide_eq_false (show ¬ (a.length>9\/b.length>9) by omega)]
    exact congrArg (fun x=>[Value.bool x]) (decide_eq_false (show ¬ ((b.length:Nat):Int)>9 by omega))
  rintro d i ⟨s,rfl⟩
  obtain rfl:d=decide (a.length>9\/b.length>9):=by simpa using s
  refine B4 (fun _=>hK0) (fun w=>?_)
  have j:(Ox neg a).natAbs=H4 a:=by unfold Ox;split<;>simp
  have G:=Em f.da
  have A:=Em f.db
  have y:∀ k,k<=9->10^k<=1000000000:=fun k C=>bL (aN (by decide) C) (by decide)
  have J:=y a.length (by omega)
  have H:=y b.length (by omega)
  refine Eu f.da (by omega) ⟨_,rfl,?_⟩
  refine ⟨fun L g=>L=[I 0,I 0,I (H4 a:Int),I (Jn b:Int)]/\g=i/\bH (H4 a) (Jn b)=1,?_,?_⟩
  ·rw [U4]
   refine S7 (B4 (fun u=>?_) (fun u=>?_))
   ·subst u;exact ⟨rfl,rfl,by unfold Jn;simp⟩
   ·refine Eu f.db (by omega) ⟨_,rfl,A0b ⟨_,rfl,N8 (fun _=>hK0) (fun V=>?_)⟩⟩
    have p:Jn b=H4 b:=by unfold Jn;rw [iN u]
    rw [p]
    exact ⟨rfl,rfl,by omega⟩
  ·rintro B E S T r ⟨o,rfl,D⟩
   simp only [aI,aP,and_true,true_and] at o
   obtain ⟨_,_,rfl,rfl⟩:=o
   obtain ⟨q,z⟩:=f.isNum.2 D
   have c:=f.of_txt z
   have n:Jn b<1000000000:=by unfold Jn;split<;>omega
   refine ⟨fun L g=>L=[I q.num,I (q.den:Int)]/\g=r,Br.of (fun e=>?_) (fun e=>?_),?_⟩
   ·rw [c.1,c.2,e,B6 (by omega) (by omega)]
    exact ⟨by unfold Ox;simp,rfl⟩
   ·rw [c.1,c.2,e]
    exact ⟨by unfold Ox;simp,rfl⟩
   ·rintro R N F ⟨m,rfl⟩
    simp only [aI,aP,and_true,true_and] at m
    obtain ⟨rfl,rfl⟩:=m
    exact hK1 q z (by rw [c.1,j];omega) (by rw [c.2];exact n)
 ·intro Q neg a b
  refine ⟨_,_,_,_,rfl,?_⟩
  refine ⟨fun L i=>L=[.bool true]/\i=h,S7 ⟨rfl,rfl⟩,?_⟩
  rintro d i ⟨s,rfl⟩
  obtain rfl:d=true:=by simpa using s
  exact Br.of (fun _=>hK0) (fun e=>by cases e)
def Bo{l':List UInt8}(hK1:∀ p q,l=E4 p->l'=E4 q->p.num.natAbs<1000000000->p.den<1000000000->q.num.natAbs<1000000000->q.den<1000000000->K (.tuple #[.agg #[I p.num,I (p.den:Int)],.agg #[I q.num,I (q.den:Int)],.bool true]) h)(hK0:K (.tuple #[.agg #[I 0,I 0],.agg #[I 0,I 0],.bool false]) h):aM prog An #[.string (bs l),.string (bs l')] h K:=by
 refine A4a _ _ ?_
 unfold A5t
 refine Ch ?_ ⟨_,_,_,rfl,S7 hK0⟩
 intro p a g b
 refine ⟨_,_,_,rfl,S7 ?_⟩
 refine Ch ?_ ⟨_,_,_,rfl,S7 hK0⟩
 intro q d e c
 exact ⟨_,_,_,rfl,S7 (hK1 p q a d g b e c)⟩
def Y5{num den:Int}(gp:Gp h)(hd:den≠0)(h1:num.natAbs<4000000000000000000)(h2:den.natAbs<4000000000000000000)(hK:K (.string (bs (E4 (cU num den)))) h):aM prog P7 #[I num,I den] h K:=by
 refine FCall.pure (Tn _ _ ?_)
 unfold Pd
 refine ⟨fun L y=>y=h/\∃ n d:Int,L=[I n,I d]/\0<d/\cU n d=cU num den/\n.natAbs=num.natAbs/\d.natAbs=den.natAbs,B4 (fun l=>⟨rfl,-num,-den,?_,by omega,Rat.neg_divInt_neg num den,by omega,by omega⟩) (fun l=>⟨rfl,num,den,rfl,by omega,rfl,rfl,rfl⟩),?_⟩
 ·rw [B6 (by omega) (by omega),B6 (by omega) (by omega),Int.zero_sub,Int.zero_sub]
 rintro g r y ⟨rfl,n,d,C,u,hq,hn,O⟩
 simp only [aI,aP,and_true,true_and] at C
 obtain ⟨rfl,rfl⟩:=C
 rw [<- hq] at hK
 have i:=A1l (x:=g) u
 have aa:=Sm (a:=g) (b:=r) (by omega)
 generalize cU g r=q at *
 have J:=q.den_nz
 refine ⟨fun L w=>w=y/\L=[I q.num,I (q.den:Int)],N8 (fun l=>?_) (fun l=>?_),?_⟩
 ·have B:(if (B5 (0-g))>g then B5 (0-g) else g)=((g.natAbs:Nat):Int):=by
   rw [B6 (by omega) (by omega)];split<;>omega
  obtain ⟨k,rfl⟩:∃ k:Nat,r=k:=⟨r.toNat,by omega⟩
  rw [B]
  refine A0b ⟨_,rfl,?_⟩
  have V:0<bH g.natAbs k:=dX _ (by omega)
  refine B4 (fun e=>by omega) (fun _=>B4 (fun e=>by omega) (fun _=>⟨rfl,?_⟩))
  have E:dH g ((bH g.natAbs k:Nat):Int)=q.num:=i.1.symm
  have G:dH (k:Int) ((bH g.natAbs k:Nat):Int)=(q.den:Int):=i.2.symm
  rw [E,G,B6 (by omega) (by omega),B6 (by omega) (by omega)]
 ·subst l
  have N:bI g 1=1:=by simp
  rw [N] at i
  simp at i
  refine ⟨rfl,?_⟩
  rw [i.1]
  simp only [aI,aP,and_true,true_and];omega
 rintro n2 d2 o ⟨rfl,m⟩
 simp only [aI,aP,and_true,true_and] at m
 obtain ⟨rfl,rfl⟩:=m
 refine D9 (fun l=>?_) (fun l=>?_)
 ·rw [A4r (by omega)] at hK
  exact Ig gp (by omega) (by omega) ⟨_,rfl,B3 _,hK⟩
 ·rw [A07 (by omega)] at hK
  refine Qj B46 ?_
  intro b X
  have M:(dY (bN 48 (.int .u8 0))).cells=(aE 48 (bB .u8 0)).toArray:=by rfl
  rw [M]
  refine ⟨_,rfl,⟨by omega,by omega⟩,?_⟩
  have p:J4 (some ⟨b,0,none⟩) 48 0 1=some ⟨b,0,none⟩:=rfl
  rw [p,show ((0:Int)).toNat-0=0 from rfl,show 48-0=48 from rfl]
  have p0:cI (o.put b (.cells (aE 48 (bB .u8 0)).toArray A8a)) o A8a 1 (some ⟨b,0,none⟩) 0 48 (yv []):=⟨by simp [yv],by omega,.inr ⟨b,aE 48 (bB .u8 0),rfl,X,rfl,by simp,by simp [yv]⟩⟩
  refine Ik gp p0 (by omega) (by omega) (by omega) ?_
  intro A1 Q c1 B g1 T A
  refine ⟨_,_,_,rfl,?_⟩
  have S:(Dp q.num).length<=20:=by
   unfold Dp
   have:(J3 q.num.natAbs).length<=19:=(Lg (by decide)).2 (aW (show q.num.natAbs<10000000000000000000 by omega) (by decide))
   split<;>simp<;>omega
  have W:=A.len
  refine Dv (ch:=47) rfl A.priv (by omega) ?_
  intro A2 R c2 e2 g2 Z D
  have j:=A.trans D
  have s:=j.len
  rw [aD,cZ] at s
  refine Ik (gp.mono j.le) D.priv (by omega) (by omega) (by omega) ?_
  intro A3 ab c3 E g3 H F
  refine ⟨_,_,_,rfl,?_⟩
  rw [aO] at F
  have c:=j.trans F
  have z:=c.len
  refine Hj Ct.und Av Q3 c.priv.slV (by simpa using z) ⟨_,rfl,?_⟩
  refine ⟨A0 c.le c.priv.le,?_⟩
  simpa using hK
end
structure RQ (h:aV) (w:QV) (q:Rat):Prop where
 num:ZI h w.s w.A w.n w.c q.num
 den:ZI h w.s2 w.A2 w.n2 w.c2 (if q.den=1 then 0 else (q.den:Int))
def ZB.gcd{m:Nat}{x y:Int}(hy:y≠0)(h:ZB m y):ZB m (bI x y:Int):=by
 refine h.le ?_
 rw [aK]
 exact dV (by omega) (Int.natAbs_dvd_natAbs.2 (Int.gcd_dvd_right x y))
def B6u{x y a b:Int}(ha:0<a)(hb:0<b)(hs:x.sign≠y.sign):Cj (x*a) (y*b)=Cj x y:=by
 have g:(x*a).sign=x.sign:=by rw [Int.sign_mul,bA ha,Int.mul_one]
 have d:(y*b).sign=y.sign:=by rw [Int.sign_mul,bA hb,Int.mul_one]
 have key:∀ u v:Int,u.sign≠v.sign->(u<v↔u.sign<v.sign)/\(v<u↔v.sign<u.sign):=by
  intro u v h
  have t:∀ w:Int,(w<0/\w.sign= -1)\/(w=0/\w.sign=0)\/(0<w/\w.sign=1):=fun w=>by
   rcases Int.lt_trichotomy w 0 with c|c|c
   ·exact .inl ⟨c,cN c⟩
   ·exact .inr (.inl ⟨c,by rw [c];rfl⟩)
   ·exact .inr (.inr ⟨c,bA c⟩)
  have m:=t u
  have l:=t v
  omega
 have k:=key x y hs
 have i:=key (x*a) (y*b) (by rw [g,d];exact hs)
 rw [g,d] at i
 unfold Cj
 by_cases c:x<y
 ·rw [iP c,iP (i.1.2 (k.1.1 c))]
 ·rw [iN c,iN (fun e=>c (k.1.2 (i.1.1 e)))]
  by_cases j:y<x
  ·rw [iP j,iP (i.2.2 (k.2.1 j))]
  ·rw [iN j,iN (fun e=>j (k.2.2 (i.2.1 e)))]
section
variable {h h':aV} {K:VP} {A B:Option aQ} {n c n' c':Nat} {s s':Bool} {x y z:Int} {m:Nat} {p q:Rat} {a b w:QV} {l:List UInt8}
def RQ.mono(hl:h.le h')(i:RQ h w q):RQ h' w q:=⟨i.num.mono hl,i.den.mono hl⟩
def RQ.whole(i:ZI h s A n c z):RQ h ⟨s,A,n,c,false,none,0,0⟩ (z:Rat):=⟨by simpa using i,by simpa using ZI.zero⟩
def RQ.zero:RQ h ⟨false,none,0,0,false,none,0,0⟩ 0:=⟨ZI.zero,ZI.zero⟩
def I4(i:RQ h w q)(hK:K (.bool (decide (q.den=1))) h):aM prog G2 #[.agg #[.bool w.s2,.slice w.A2 w.n2 w.c2]] h K:=by
 refine V9 i.den ?_
 have:=q.den_nz
 have e:decide ((if q.den=1 then (0:Int) else (q.den:Int))=0)=decide (q.den=1):=by
  rw [decide_eq_decide];split<;>omega
 rw [e];exact hK
def T7(i:ZI h s A n c z)(j:ZI h s' B n' c' y)(h1:q.num=z)(h2:(q.den:Int)=y)(hK:∀ w,RQ h w q->K w.v h):aM prog W8 #[.agg #[.bool s,.slice A n c],.agg #[.bool s',.slice B n' c']] h K:=by
 subst h1 h2
 refine A76 _ _ _ _ _ _ _ _ ?_
 unfold B0z
 refine S8 j ⟨_,rfl,B4 (fun e=>?_) (fun e=>?_)⟩
 ·exact hK ⟨s,A,n,c,false,none,0,0⟩ ⟨i,by rw [iP (by omega)];exact ZI.zero⟩
 ·exact hK ⟨s,A,n,c,s',B,n',c'⟩ ⟨i,by rw [iN (by omega)];exact j⟩
def Cv(i:RQ h w q)(hK:∀ s A n c h',h.le h'->ZI h' s A n c (q.den:Int)->K (.agg #[.bool s,.slice A n c]) h'):aM prog Oo #[w.v] h K:=by
 refine B88 _ _ _ _ _ _ _ _ ?_
 unfold C3g
 refine I4 i ⟨_,rfl,B4 (fun e=>?_) (fun e=>?_)⟩
 ·refine Zy (by decide) (by decide) ?_
  intro s A n c d b a
  exact ⟨_,_,_,_,rfl,hK _ _ _ _ _ b (by rw [e];exact a)⟩
 ·have:=i.den
  rw [iN e] at this
  exact hK _ _ _ _ _ (B3 _) this
def St(gl:Gtz h)(i:ZI h s A n c x)(j:ZI h s' B n' c' y)(hx:ZB m x)(hy:ZB m y)(hm:m<=6400000000)(hy0:0<y)(hK:∀ s1 A1 n1 c1 s2 A2 n2 c2 h',h.le h'->ZI h' s1 A1 n1 c1 (x.tdiv (bI x y))->ZI h' s2 A2 n2 c2 (y.tdiv (bI x y))->K (.tuple #[.agg #[.bool s1,.slice A1 n1 c1],.agg #[.bool s2,.slice A2 n2 c2]]) h'):aM prog Kr #[.agg #[.bool s,.slice A n c],.agg #[.bool s',.slice B n' c']] h K:=by
 refine A77 _ _ _ _ _ _ _ _ ?_
 unfold B11
 refine S8 j ⟨_,rfl,B4 (fun e=>?_) (fun e=>?_)⟩
 ·subst e
  have k:bI x 1=1:=by simp
  rw [k] at hK
  exact hK _ _ _ _ _ _ _ _ _ (B3 _) (by simpa using i) (by simpa using j)
 ·refine Fg gl i j hx hy hm ?_
  intro A1 n1 c1 C d l
  have k:=Int.gcd_pos_of_ne_zero_right x (show y≠0 by omega)
  have a:ZB m (bI x y:Int):=ZB.gcd (by omega) hy
  refine ⟨_,_,_,_,rfl,Cn (i.mono d) l hx a hm (by omega) ?_⟩
  intro s2 A2 n2 c2 u b o
  refine ⟨_,_,_,_,rfl,b,Cn (j.mono (A0 d b)) (l.mono b) hy a hm (by omega) ?_⟩
  intro z A3 w q r g p
  exact ⟨_,_,_,_,rfl,g,hK _ _ _ _ _ _ _ _ _ (A0 d (A0 b g)) (o.mono g) p⟩
def A6c(i:RQ h w q)(hK:∀ w',RQ h w' (-q)->K w'.v h):aM prog A9r #[w.v] h K:=by
 refine B85 _ _ _ _ _ _ _ _ ?_
 unfold C3d
 refine Co i.num ?_
 intro b a
 exact ⟨_,_,_,_,rfl,B3 _,hK ⟨b,w.A,w.n,w.c,w.s2,w.A2,w.n2,w.c2⟩ ⟨by simpa using a,by simpa using i.den⟩⟩
def Du(i:RQ h w q)(hK:K (I q.num.sign) h):aM prog Ni #[w.v] h K:=by
 refine B4g _ _ _ _ _ _ _ _ ?_
 unfold C07
 exact Hb i.num ⟨_,rfl,hK⟩
def Fs(i:RQ h w q)(hK:K (.bool (decide (q=0))) h):aM prog Db #[w.v] h K:=by
 refine A7f _ _ _ _ _ _ _ _ ?_
 unfold B1b
 refine V9 i.num ⟨_,rfl,?_⟩
 have e:decide (q.num=0)=decide (q=0):=by rw [decide_eq_decide];exact cV
 rw [e];exact hK
def A6g(gl:Gtz h)(i:RQ h a p)(j:RQ h b q)(hp:Sz m p)(hq:Sz m q)(hm:2*m+1<=6400000000)(hK:∀ w h',h.le h'->RQ h' w (p+q)->K w.v h'):aM prog A9s #[a.v,b.v] h K:=by
 have ao:=p.den_nz
 have al:=q.den_nz
 have M:∀ {z:Int},ZB m z->ZB (2*m+1) z:=fun u=>u.mono (by omega)
 refine B89 _ _ _ _ _ _ _ _ _ _ _ _ _ _ _ _ ?_
 unfold C3h
 refine ⟨fun L hp=>L=[.bool (decide (p.den=1/\q.den=1))]/\hp=h,I4 i ⟨_,rfl,B4 (fun e=>?_) (fun e=>?_)⟩,?_⟩
 ·exact I4 j ⟨_,rfl,by simp [e],rfl⟩
 ·exact ⟨by simp [e],rfl⟩
 rintro ag ad ⟨hL,rfl⟩
 obtain rfl:ag=decide (p.den=1/\q.den=1):=by simpa using hL
 refine B4 (fun e=>?_) (fun e=>?_)
 ·refine Fj i.num j.num hp.num hq.num (by omega) ?_
  intro s1 A1 n1 c1 h1 d T
  refine ⟨_,_,_,_,rfl,hK ⟨s1,A1,n1,c1,false,none,0,0⟩ _ d ?_⟩
  have:=RQ.whole T
  rw [Rat.intCast_add,<- Vq e.1,<- Vq e.2] at this
  exact this
 ·refine ⟨fun L hp=>L=[.bool (decide (p.den=1))]/\hp=ad,I4 i ⟨_,rfl,rfl,rfl⟩,?_⟩
  rintro aj ak ⟨hL,rfl⟩
  obtain rfl:aj=decide (p.den=1):=by simpa using hL
  refine B4 (fun S=>?_) (fun S=>?_)
  ·have ai:q.den≠1:=fun Q=>e ⟨S,Q⟩
   have jd:=j.den
   rw [iN ai] at jd
   refine L9 i.num jd hp.num hq.den (by omega) ?_
   intro s1 A1 n1 c1 h1 d T
   refine ⟨_,_,_,_,rfl,d,Fj (m:=2*m+1) T (j.num.mono d) ((hp.num.mul hq.den).mono (by omega)) (M hq.num) hm ?_⟩
   intro s2 A2 n2 c2 h2 n i2
   have c:=Lm q p.num
   rw [<- Vq S,Rat.add_comm] at c
   refine ⟨_,_,_,_,rfl,n,hK ⟨s2,A2,n2,c2,b.s2,b.A2,b.n2,b.c2⟩ _ (A0 d n) ⟨by rw [c.1];exact i2,?_⟩⟩
   rw [c.2]
   exact j.den.mono (A0 d n)
  ·refine I4 j ⟨_,rfl,B4 (fun Q=>?_) (fun Q=>?_)⟩
   ·have k:=i.den
    rw [iN S] at k
    refine L9 j.num k hq.num hp.den (by omega) ?_
    intro s1 A1 n1 c1 h1 d T
    refine ⟨_,_,_,_,rfl,d,Fj (m:=2*m+1) T (i.num.mono d) ((hq.num.mul hp.den).mono (by omega)) (M hp.num) hm ?_⟩
    intro s2 A2 n2 c2 h2 n i2
    have c:=Lm p q.num
    rw [<- Vq Q] at c
    refine ⟨_,_,_,_,rfl,n,hK ⟨s2,A2,n2,c2,a.s2,a.A2,a.n2,a.c2⟩ _ (A0 d n) ⟨by rw [c.1];exact i2,?_⟩⟩
    rw [c.2]
    exact i.den.mono (A0 d n)
   ·have k:=i.den
    have s:=j.den
    rw [iN S] at k
    rw [iN Q] at s
    refine Fg gl k s hp.den hq.den (by omega) ?_
    intro A1 n1 c1 h1 d J
    rw [eD] at J
    obtain ⟨g,hg⟩:∃ g,g=p.den.gcd q.den:=⟨_,rfl⟩
    rw [<- hg] at J
    have X:0<g:=by rw [hg];exact Nat.gcd_pos_of_pos_left _ (by omega)
    have ae:g∣q.den:=by rw [hg];exact cQ ..
    have A:ZB m (g:Int):=hq.den.le (by simpa using dV (by omega) ae)
    refine ⟨_,_,_,_,rfl,Cn (s.mono d) J hq.den A (by omega) (by omega) ?_⟩
    intro s2 A2 n2 c2 h2 n il
    rw [<- bX] at il
    refine ⟨_,_,_,_,rfl,n,Cn (k.mono (A0 d n)) (J.mono n) hp.den A (by omega) (by omega) ?_⟩
    intro s3 A3 n3 c3 h3 Z ir
    rw [<- bX] at ir
    have D:ZB m ((q.den/g:Nat):Int):=hq.den.le (by rw [aK,aK];exact bF _ _)
    have x:ZB m ((p.den/g:Nat):Int):=hp.den.le (by rw [aK,aK];exact bF _ _)
    have E:=A0 d (A0 n Z)
    refine ⟨_,_,_,_,rfl,Z,L9 (i.num.mono E) (il.mono Z) hp.num D (by omega) ?_⟩
    intro s4 A4 n4 c4 h4 F i4
    refine ⟨_,_,_,_,rfl,F,L9 (j.num.mono (A0 E F)) (ir.mono F) hq.num x (by omega) ?_⟩
    intro s5 A5 n5 c5 h5 H i5
    refine ⟨_,_,_,_,rfl,H,Fj (m:=2*m) (i4.mono H) i5 ((hp.num.mul D).mono (by omega)) ((hq.num.mul x).mono (by omega)) (by omega) ?_⟩
    intro s6 A6 n6 c6 h6 V R
    obtain ⟨z,u⟩:∃ z,z=p.num*((q.den/g:Nat):Int)+q.num*((p.den/g:Nat):Int):=⟨_,rfl⟩
    rw [<- u] at R
    have O:ZB (2*m+1) z:=by
     rw [u]
     exact ((hp.num.mul D).mono (show m+m<=2*m by omega)).add ((hq.num.mul x).mono (show m+m<=2*m by omega))
    have l:=A0 E (A0 F (A0 H V))
    refine ⟨_,_,_,_,rfl,V,V9 R ⟨_,rfl,B4 (fun G=>?_) (fun G=>?_)⟩⟩
    ·have:p+q=0:=by
      rw [<- cV]
      by_cases y:p.den.gcd q.den=1
      ·have:=(Vw p q y).1
       rw [<- hg] at y
       rw [y,dB,dB] at u
       rw [this,<- u,G]
      ·have:=(Vv p q y hg u rfl).1
       rw [this,G];simp
     rw [this] at hK
     exact hK ⟨false,none,0,0,false,none,0,0⟩ _ l RQ.zero
    ·refine S8 (J.mono (A0 n (A0 Z (A0 F (A0 H V))))) ⟨_,rfl,B4 (fun ac=>?_) (fun ac=>?_)⟩
     ·have o:g=1:=by omega
      have c:=Vw p q (by rw [<- hg];exact o)
      rw [o,dB,dB] at u
      refine L9 (k.mono l) (s.mono l) hp.den hq.den (by omega) ?_
      intro s7 A7 n7 c7 h7 B i7
      refine ⟨_,_,_,_,rfl,B,T7 (q:=p+q) (R.mono B) i7 (by rw [c.1,u]) (by rw [c.2,aU]) ?_⟩
      intro w iw
      exact ⟨_,_,_,_,_,_,_,_,rfl,B3 _,hK _ _ (A0 l B) iw⟩
     ·have o:p.den.gcd q.den≠1:=by rw [<- hg];omega
      obtain ⟨r,hr⟩:∃ r,r=z.natAbs.gcd g:=⟨_,rfl⟩
      have c:=Vv p q o hg u hr
      have an:0<r:=by rw [hr];exact dX _ X
      have ab:r<=g:=by rw [hr];exact dV X (cQ ..)
      have aa:=J.mono (A0 n (A0 Z (A0 F (A0 H V))))
      refine Fg (gl.mono l) R aa O (M A) hm ?_
      intro A7 n7 c7 h7 B i7
      have e7:bI z (g:Int)=r:=hr.symm
      rw [e7] at i7
      have W:ZB m (r:Int):=A.le (by simpa using ab)
      refine ⟨_,_,_,_,rfl,Cn (R.mono B) i7 O (M W) hm (by omega) ?_⟩
      intro s8 A8 n8 c8 h8 N i8
      refine ⟨_,_,_,_,rfl,N,Cn (s.mono (A0 l (A0 B N))) (i7.mono N) hq.den W (by omega) (by omega) ?_⟩
      intro s9 A9 n9 c9 h9 l9 i9
      rw [<- bX] at i9
      have af:ZB m ((q.den/r:Nat):Int):=hq.den.le (by rw [aK,aK];exact bF _ _)
      refine ⟨_,_,_,_,rfl,l9,L9 (ir.mono (A0 F (A0 H (A0 V (A0 B (A0 N l9)))))) i9 x af (by omega) ?_⟩
      intro aq A10 am ap ar C ah
      refine ⟨_,_,_,_,rfl,C,T7 (q:=p+q) (i8.mono (A0 l9 C)) ah c.1 (by rw [c.2,aU]) ?_⟩
      intro w iw
      exact ⟨_,_,_,_,_,_,_,_,rfl,B3 _,hK _ _ (A0 l (A0 B (A0 N (A0 l9 C)))) iw⟩
end
structure Gl (h:aV):Prop where
 tz:Gtz h
 p10:Gp h
def Gl.mono{h h':aV}(g:Gl h)(l:h.le h'):Gl h':=⟨g.tz.mono l,g.p10.mono l⟩
section
variable {h h':aV} {K:VP} {A B:Option aQ} {n c n' c':Nat} {s s':Bool} {x y z:Int} {m:Nat} {p q:Rat} {a b w:QV} {l:List UInt8}
def Vb(gl:Gtz h)(i:RQ h a p)(j:RQ h b q)(hp:Sz m p)(hq:Sz m q)(hm:m<=6400000000)(hK:∀ w h',h.le h'->RQ h' w (p*q)->K w.v h'):aM prog A5e #[a.v,b.v] h K:=by
 have X:=p.den_nz
 have Q:=q.den_nz
 refine B86 _ _ _ _ _ _ _ _ _ _ _ _ _ _ _ _ ?_
 unfold C3e
 refine ⟨fun L hp=>L=[.bool (decide (p.num=0\/q.num=0))]/\hp=h,V9 i.num ⟨_,rfl,B4 (fun e=>?_) (fun e=>?_)⟩,?_⟩
 ·exact ⟨by simp [e],rfl⟩
 ·exact V9 j.num ⟨_,rfl,by simp [e],rfl⟩
 rintro y z ⟨s,rfl⟩
 obtain rfl:y=decide (p.num=0\/q.num=0):=by simpa using s
 refine B4 (fun e=>?_) (fun e=>?_)
 ·have:p*q=0:=by
   rw [cV,cV] at e
   exact Rat.mul_eq_zero.2 e
  rw [this] at hK
  exact hK ⟨false,none,0,0,false,none,0,0⟩ _ (B3 _) RQ.zero
 ·refine ⟨fun L hp=>L=[.bool (decide (p.den=1/\q.den=1))]/\hp=z,I4 i ⟨_,rfl,B4 (fun e=>?_) (fun e=>?_)⟩,?_⟩
  ·exact I4 j ⟨_,rfl,by simp [e],rfl⟩
  ·exact ⟨by simp [e],rfl⟩
  rintro x M ⟨s,rfl⟩
  obtain rfl:x=decide (p.den=1/\q.den=1):=by simpa using s
  refine B4 (fun e=>?_) (fun e=>?_)
  ·refine L9 i.num j.num hp.num hq.num hm ?_
   intro E A1 D c1 T g J
   refine ⟨_,_,_,_,rfl,hK ⟨E,A1,D,c1,false,none,0,0⟩ _ g ?_⟩
   have:=RQ.whole J
   rw [Rat.intCast_mul,<- Vq e.1,<- Vq e.2] at this
   exact this
  ·have k:=A9b p q
   refine Cv j ?_
   intro E A1 D c1 T g G
   refine ⟨_,_,_,_,rfl,g,St (gl.mono g) (i.num.mono g) G hp.num hq.den hm (by omega) ?_⟩
   intro s2 A2 n2 c2 s3 A3 n3 c3 h2 C F r
   have c:=A0 g C
   refine ⟨_,_,_,_,_,_,_,_,rfl,C,Cv (i.mono c) ?_⟩
   intro s4 A4 n4 c4 h4 d A
   refine ⟨_,_,_,_,rfl,d,St (gl.mono (A0 c d)) (j.num.mono (A0 c d)) A hq.num hp.den hm (by omega) ?_⟩
   intro s5 A5 Z c5 s6 A6 n6 c6 h5 l B u
   have H:bI p.num (q.den:Int)=bH p.num.natAbs q.den:=rfl
   have R:bI q.num (p.den:Int)=bH q.num.natAbs p.den:=rfl
   rw [H] at F r
   rw [R] at B u
   rw [<- bX] at r u
   refine ⟨_,_,_,_,_,_,_,_,rfl,l,L9 (F.mono (A0 d l)) B hp.num.tdiv hq.num.tdiv hm ?_⟩
   intro s7 A7 n7 c7 h7 n N
   have S:ZB m ((p.den/bH q.num.natAbs p.den:Nat):Int):=hp.den.le (by rw [aK,aK];exact bF _ _)
   have O:ZB m ((q.den/bH p.num.natAbs q.den:Nat):Int):=hq.den.le (by rw [aK,aK];exact bF _ _)
   refine ⟨_,_,_,_,rfl,n,L9 (u.mono n) (r.mono (A0 d (A0 l n))) S O hm ?_⟩
   intro s8 A8 n8 c8 h8 o W
   refine ⟨_,_,_,_,rfl,o,T7 (q:=p*q) (N.mono o) W k.1 (by rw [k.2,aU]) ?_⟩
   intro w V
   exact ⟨_,_,_,_,_,_,_,_,rfl,B3 _,hK _ _ (A0 c (A0 d (A0 l (A0 n o)))) V⟩
def Kb(i:RQ h w q)(hK:∀ w h',h.le h'->RQ h' w q⁻¹->K w.v h'):aM prog Hs #[w.v] h K:=by
 have r:=q.den_nz
 refine A4d _ _ _ _ _ _ _ _ ?_
 unfold A5w
 refine Hb i.num ⟨_,rfl,D9 (fun e=>?_) (fun e=>?_)⟩
 ·have c:q.num=0:=Int.sign_eq_zero_iff_zero.1 e
  have:q⁻¹=0:=by rw [Rat.num_eq_zero.1 c];exact Rat.inv_zero
  rw [this] at hK
  exact hK ⟨false,none,0,0,false,none,0,0⟩ _ (B3 _) RQ.zero
 ·have c:q.num≠0:=fun m=>e (by rw [m];rfl)
  refine D9 (fun j=>?_) (fun j=>?_)
  ·have l:q.num<0:=Int.sign_neg_iff.1 (by omega)
   refine Cv i ?_
   intro o A1 n c1 a b k
   refine ⟨_,_,_,_,rfl,b,Co k ?_⟩
   intro u p
   refine ⟨_,_,_,_,rfl,B3 _,Co (i.num.mono b) ?_⟩
   intro x s
   refine ⟨_,_,_,_,rfl,B3 _,T7 (q:=q⁻¹) p s ?_ ?_ ?_⟩
   ·rw [Rat.num_inv,j];omega
   ·rw [Rat.den_inv,iN c];omega
   ·intro w g
    exact ⟨_,_,_,_,_,_,_,_,rfl,B3 _,hK _ _ b g⟩
  ·have d:0<q.num:=by
    rcases Int.lt_trichotomy q.num 0 with a|a|a
    ·exact absurd (cN a) j
    ·exact absurd a c
    ·exact a
   refine Cv i ?_
   intro o A1 n c1 a b k
   refine ⟨_,_,_,_,rfl,b,T7 (q:=q⁻¹) k (i.num.mono b) ?_ ?_ ?_⟩
   ·rw [Rat.num_inv,bA d,Int.one_mul]
   ·rw [Rat.den_inv,iN c];omega
   ·intro w g
    exact ⟨_,_,_,_,_,_,_,_,rfl,B3 _,hK _ _ b g⟩
def A6e(gl:Gtz h)(i:RQ h a p)(j:RQ h b q)(hp:Sz m p)(hq:Sz m q)(hm1:1<=m)(hm:m<=6400000000)(hK:∀ w h',h.le h'->RQ h' w (p/q)->K w.v h'):aM prog A5f #[a.v,b.v] h K:=by
 refine B87 _ _ _ _ _ _ _ _ _ _ _ _ _ _ _ _ ?_
 unfold C3f
 refine Kb j ?_
 intro n o c g
 refine ⟨_,_,_,_,_,_,_,_,rfl,c,Vb (gl.mono c) (i.mono c) g hp (hq.inv hm1) hm ?_⟩
 intro l k e d
 rw [<- Rat.div_def] at d
 exact ⟨_,_,_,_,_,_,_,_,rfl,e,hK _ _ (A0 c e) d⟩
def Oe(i:RQ h w q)(hq:Sz m q)(hm:m+1<=6400000000)(hK:∀ s A n c h',h.le h'->ZI h' s A n c q.floor->K (.agg #[.bool s,.slice A n c]) h'):aM prog Qc #[w.v] h K:=by
 have b:=q.den_nz
 refine B1c _ _ _ _ _ _ _ _ ?_
 unfold B5y
 rw [Rat.floor_def] at hK
 refine I4 i ⟨_,rfl,B4 (fun e=>?_) (fun e=>?_)⟩
 ·rw [e] at hK
  exact hK _ _ _ _ _ (B3 _) (by simpa using i.num)
 ·have a:=i.den
  rw [iN e] at a
  refine Ty i.num a hq.num hq.den hm (by omega) ?_
  intro k A1 j c1 l d g
  exact ⟨_,_,_,_,rfl,hK _ _ _ _ _ d g⟩
def A6f(i:RQ h w q)(hq:Sz m q)(hm:m+1<=6400000000)(hK:∀ s A n c h',h.le h'->ZI h' s A n c q.ceil->K (.agg #[.bool s,.slice A n c]) h'):aM prog A3t #[w.v] h K:=by
 refine B4h _ _ _ _ _ _ _ _ ?_
 unfold C08
 refine A6c i ?_
 intro o b
 refine ⟨_,_,_,_,_,_,_,_,rfl,Oe b hq.neg hm ?_⟩
 intro j A2 k c2 g e d
 refine ⟨_,_,_,_,rfl,Co d ?_⟩
 intro l a
 rw [<- dT] at a
 exact ⟨_,_,_,_,rfl,hK _ _ _ _ _ e a⟩
def B3y(p q:Rat):Int:=Cj (p.num*q.den) (q.num*p.den)
def B09:B3y p q<0↔p<q:=by rw [dG];unfold B3y Cj;split<;>(try split)<;>omega
def A3x:0<B3y p q↔q<p:=by rw [dG];unfold B3y Cj;split<;>(try split)<;>omega
def Nq:B3y p q<=0↔p<=q:=by rw [<- Rat.not_lt,<- A3x];omega
def Xn(i:RQ h a p)(j:RQ h b q)(hp:Sz m p)(hq:Sz m q)(hm:2*m<=6400000000)(hK:K (I (B3y p q)) h):aM prog Nj #[a.v,b.v] h K:=by
 have z:=p.den_nz
 have r:=q.den_nz
 refine FCall.pure (A4e _ _ _ _ _ _ _ _ _ _ _ _ _ _ _ _ ?_)
 unfold A5x
 refine ⟨fun L hp=>L=[.bool (decide ((p.den=1/\q.den=1)\/p.num.sign≠q.num.sign))]/\hp=h,I4 i ⟨_,rfl,B3 _,B4 (fun e=>I4 j ⟨_,rfl,B3 _,B4 (fun l=>?_) (fun l=>?_)⟩) (fun e=>?_)⟩,?_⟩
 ·exact ⟨by simp [e,l],rfl⟩
 ·refine Du i ⟨_,rfl,B3 _,Du j ⟨_,rfl,B3 _,?_,rfl⟩⟩
  simp [l,bne]
  rw [cJ];simp
 ·refine Du i ⟨_,rfl,B3 _,Du j ⟨_,rfl,B3 _,?_,rfl⟩⟩
  simp [e,bne]
  rw [cJ];simp
 rintro k w ⟨u,rfl⟩
 obtain rfl:k=decide ((p.den=1/\q.den=1)\/p.num.sign≠q.num.sign):=by simpa using u
 refine B4 (fun e=>?_) (fun e=>?_)
 ·refine Jo i.num j.num hp.num hq.num (by omega) ⟨_,rfl,B3 _,?_⟩
  have:Cj p.num q.num=B3y p q:=by
   unfold B3y
   rcases e with e|e
   ·rw [e.1,e.2];simp
   ·exact (B6u (by omega) (by omega) e).symm
  rw [this];exact hK
 ·refine Cv j ?_
  intro J A1 H c1 D c y
  refine ⟨_,_,_,_,rfl,c,L9 (i.num.mono c) y hp.num hq.den (by omega) ?_⟩
  intro O A2 C c2 G d x
  refine ⟨_,_,_,_,rfl,d,Cv (i.mono (A0 c d)) ?_⟩
  intro M A3 N B R g s
  refine ⟨_,_,_,_,rfl,g,L9 (j.num.mono (A0 c (A0 d g))) s hq.num hp.den (by omega) ?_⟩
  intro A A4 F E Q n o
  refine ⟨_,_,_,_,rfl,n,Jo (m:=m+m) (x.mono (A0 g n)) o (hp.num.mul hq.den) (hq.num.mul hp.den) (by omega) ⟨_,rfl,B3 _,?_⟩⟩
  exact ⟨A0 c (A0 d (A0 g n)),hK⟩
def Nn{t:List UInt8}{k:Nat}(h:∀ c∈t,F8 c)(hk:t.length<=k):ZB (4*k) (H4 t:Int):=by
 unfold ZB
 rw [aK]
 exact aW (Bh h) (aN (by decide) (by omega))
def Form.lens{neg:Bool}{a b:List UInt8}(f:Form l neg a b):a.length<=l.length/\b.length<=l.length:=by
 have:=congrArg dC f.eq
 simp only [aD] at this
 by_cases c:b=[]
 ·rw [iP c] at this;subst c;simp at this ⊢;omega
 ·rw [iN c] at this;simp at this;omega
def Vd(gl:Gtz h)(hl:l.length<=100000000)(hK1:∀ q,l=E4 q->∀ w h',h.le h'->RQ h' w q->K (.tuple #[w.v,.bool true]) h')(hK0:¬ IsNum l->∀ (w:QV) h',h.le h'->RQ h' w 0->K (.tuple #[w.v,.bool false]) h'):aM prog Yd #[.string (bs l)] h K:=by
 refine B4d _ ?_
 unfold C04
 refine Ms (by omega) ?_ ?_
 ·intro neg a b f
  refine ⟨_,_,_,_,rfl,S7 ?_⟩
  have J:=f.lens
  refine Hm f.da (by omega) ?_
  intro A1 O c1 N u E
  refine ⟨_,_,_,_,rfl,?_⟩
  refine ⟨fun L hp=>∃ n:Bool,L=[.bool n,.slice A1 O c1,.bool false,.slice none 0 0]/\hp=N/\ZI N n A1 O c1 (Ox neg a),Br.of (fun e=>?_) (fun e=>?_),?_⟩
  ·refine Co E ?_
   intro n i
   exact ⟨_,_,_,_,rfl,n,rfl,rfl,by unfold Ox;rw [e];exact i⟩
  ·exact ⟨false,rfl,rfl,by unfold Ox;rw [e];exact E⟩
  rintro Q o m j x2 R aa V W ⟨n,M,rfl,i⟩
  simp only [aI,aS,Value.bool.injEq,and_true] at M
  obtain ⟨rfl,⟨rfl,rfl,rfl⟩,rfl,rfl,rfl,rfl⟩:=M
  have c:(Ox neg a).natAbs=H4 a:=by unfold Ox;split<;>simp
  rw [U4]
  refine B4 (fun s=>?_) (fun s=>?_)
  ·subst s
   obtain ⟨q,p⟩:=f.isNum.2 (by unfold Jn;simp)
   obtain ⟨z,C⟩:=f.of_txt p
   refine hK1 q p ⟨Q,o,m,j,false,none,0,0⟩ _ u ⟨by rw [z];exact i,?_⟩
   rw [C,show Jn []=1 from rfl,iP rfl];exact ZI.zero
  ·refine Hm f.db (by omega) ?_
   intro A4 Z X h4 g F
   have B:ZB (4*l.length) (Ox neg a):=(Nn f.da (k:=l.length) (by omega)).le (by rw [c,aK];exact bJ _)
   refine ⟨_,_,_,_,rfl,Fg (gl.mono (A0 u g)) (i.mono g) F B (Nn f.db (k:=l.length) (by omega)) (by omega) ?_⟩
   intro A5 n5 c5 h5 r S
   refine ⟨_,_,_,_,rfl,S8 S ⟨_,rfl,?_⟩⟩
   have d:Jn b=H4 b:=by unfold Jn;rw [iN s]
   have x:bI (Ox neg a) (H4 b:Int)=bH (H4 a) (Jn b):=by
    rw [d];show bH (Ox neg a).natAbs (H4 b)=_;rw [c]
   rw [x]
   refine S7 (B4 (fun D=>?_) (fun D=>?_))
   ·obtain ⟨q,p⟩:=f.isNum.2 (by omega)
    obtain ⟨z,C⟩:=f.of_txt p
    have y:Jn b≠1:=by
     intro T
     have H:=Lh f.db s (.inl f.hb)
     rw [<- d,T] at H
     apply f.b1
     rw [<- H];simp [J3,N5,F7,dch]
    refine hK1 q p ⟨Q,o,m,j,false,A4,Z,X⟩ _ (A0 u (A0 g r)) ⟨by rw [z];exact i.mono (A0 g r),?_⟩
    rw [C,iN y,d];exact F.mono r
   ·refine hK0 ?_ ⟨false,none,0,0,false,none,0,0⟩ _ (A0 u (A0 g r)) RQ.zero
    intro A
    exact D (by rw [f.isNum.1 A];rfl)
 ·intro hf neg a b
  refine ⟨_,_,_,_,rfl,S7 ?_⟩
  refine hK0 ?_ ⟨false,none,0,0,false,none,0,0⟩ _ (B3 _) RQ.zero
  intro A
  obtain ⟨G,a',b',f⟩:=A.form
  exact hf _ _ _ f
def J6(gl:Gtz h)(hl:l.length<=100000000)(hK:∀ w h',h.le h'->RQ h' w (rv l)->K w.v h'):aM prog L4 #[.string (bs l)] h K:=by
 refine B0w _ ?_
 unfold B5q
 refine Vd gl hl ?_ ?_
 ·intro q e w b c a
  exact ⟨_,_,_,_,_,_,_,_,_,rfl,hK w b c (by rw [e,C7];exact a)⟩
 ·intro d w b c a
  exact ⟨_,_,_,_,_,_,_,_,_,rfl,hK w b c (by rw [A8q d];exact a)⟩
def W6(gp:Gp h)(i:RQ h w q)(hq:Sz m q)(hm:m<=40000000)(hK:K (.string (bs (E4 q))) h):aM prog X4 #[w.v] h K:=by
 refine FCall.pure (A7e _ _ _ _ _ _ _ _ ?_)
 unfold B1a
 refine I4 i ⟨_,rfl,B4 (fun e=>?_) (fun e=>?_)⟩
 ·rw [A4r e] at hK
  refine A2o i.num (fun g o=>?_) (fun g=>?_)
  ·refine ⟨_,_,rfl,Br.of (fun _=>A4b _ ?_) (fun e=>by cases e)⟩
   unfold A5u
   exact Ig gp g o ⟨_,rfl,_,rfl,B3 _,hK⟩
  ·refine ⟨_,_,rfl,Br.of (fun e=>by cases e) (fun _=>?_)⟩
   exact Ff gp i.num hq.num (by omega) ⟨_,rfl,B3 _,hK⟩
 ·rw [A07 e] at hK
  have c:=i.den
  rw [iN e] at c
  refine Fi (l:=[]) (eT:=F1) gp (Priv.nil _ _ _ _) i.num hq.num (by omega) (by omega) ?_
  intro A1 D c1 u E g k
  refine ⟨_,_,_,rfl,?_⟩
  have r:(Dp q.num).length<=50000000:=by
   unfold Dp
   have:=Bi hq.num
   split<;>simp<;>omega
  have s:=k.len
  refine Dv (ch:=47) rfl k.priv (by omega) ?_
  intro A2 B c2 x y o n
  have b:=k.trans n
  have d:=b.len
  rw [aD,cZ] at d
  refine Fi (gp.mono b.le) n.priv (c.mono b.le) hq.den (by omega) (by omega) ?_
  intro A3 F z C A G p
  refine ⟨_,_,_,rfl,?_⟩
  rw [aO] at p
  have a:=b.trans p
  have j:=a.len
  refine Hj Ct.und Av Q3 a.priv.slV (by simpa using j) ⟨_,rfl,?_⟩
  refine ⟨A0 a.le a.priv.le,?_⟩
  simpa using hK
end
structure Tx (m:Nat) (l:List UInt8):Prop where
 len:l.length<=100000000
 sz:Sz m (rv l)
def B2r{m:Nat}{z:Int}(h:ZB m z):(Dp z).length<=m+2:=by
 have:=Bi h
 unfold Dp;split
 ·rw [dJ];omega
 ·omega
def Xc{m:Nat}{q:Rat}(h:Sz m q):(E4 q).length<=2*m+4:=by
 have b:=B2r h.num
 have a:=Bi (n:=q.den) (m:=m) (by have:=h.den;unfold ZB at this;simpa using this)
 unfold E4
 split
 ·simp;omega
 ·simp;omega
def Tx.of{m:Nat}{q:Rat}(h:Sz m q)(hm:m<=40000000):Tx m (E4 q):=⟨by have:=Xc h;omega,by rw [C7];exact h⟩
def Kd{x y:Int}(hx:x.natAbs<1000000000)(hy:y.natAbs<1000000000):(x*y).natAbs<1000000000000000000:=by
 rw [Int.natAbs_mul]
 exact Nat.mul_lt_mul'' hx hy
def A8d(q:Rat):∃ c r,E4 q=c::r/\(c=45↔q<0):=by
 have f:=Cs q
 have a:E4 q≠[]:=by
  intro e
  have:=f.eq
  rw [e] at this
  have d:=f.ne
  have:=congrArg dC this
  simp only [aD,dP] at this
  exact d (aF (by omega))
 obtain ⟨c,r,e⟩:=bW a
 refine ⟨c,r,e,?_⟩
 have b:=f.head
 rw [e,cY,cJ,decide_eq_true_iff,beq_iff_eq,bG] at b
 rw [<- b,dG];simp
def C3q:rv [48]=0:=by
 have:[48]=E4 0:=by simp [E4,Dp,J3]
 rw [this,C7]
def B2q:E4 0=[48]:=by simp [E4,Dp,J3]
def Qb{m:Nat}{q:Rat}(h:Sz m q):ZB m q.floor:=by
 rw [Rat.floor_def]
 exact h.num.le (Int.natAbs_ediv_le_natAbs _ _)
section
variable {h:aV} {K:VP} {m:Nat} {a b:List UInt8}
def Cr(gl:Gl h)(hl:a.length<=100000000)(hK1:IsNum a->K (.bool true) h)(hK0:¬ IsNum a->K (.bool false) h):aM prog Ed #[.string (bs a)] h K:=by
 refine FCall.pure (B0x _ ?_)
 unfold B5r
 refine Ch ?_ ?_
 ·intro q e _ _
  exact ⟨_,_,_,rfl,Br.of (fun _=>⟨B3 _,hK1 ⟨q,e⟩⟩) (fun e=>by cases e)⟩
 ·refine ⟨_,_,_,rfl,Br.of (fun e=>by cases e) (fun _=>?_)⟩
  refine Ms (by omega) ?_ ?_
  ·intro neg x y f
   refine ⟨_,_,_,_,rfl,Br.of (fun e=>by cases e) (fun _=>?_)⟩
   have l:=f.lens
   rw [U4]
   refine B4 (fun e=>?_) (fun e=>?_)
   ·subst e
    exact ⟨B3 _,hK1 (f.isNum.2 (by unfold Jn;simp))⟩
   ·refine Hm f.da (by omega) ?_
    intro A1 B c1 z g n
    refine ⟨_,_,_,_,rfl,g,Hm f.db (by omega) ?_⟩
    intro A2 u c2 A c r
    refine ⟨_,_,_,_,rfl,c,Fg (gl.tz.mono (A0 g c)) (n.mono c) r (Nn f.da (k:=a.length) (by omega)) (Nn f.db (k:=a.length) (by omega)) (by omega) ?_⟩
    intro A3 C s E m o
    refine ⟨_,_,_,_,rfl,m,S8 o ⟨_,rfl,B3 _,A0 g (A0 c m),?_⟩⟩
    rw [eD]
    have b:Jn y=H4 y:=by unfold Jn;rw [iN e]
    by_cases d:bH (H4 x) (H4 y)=1
    ·rw [decide_eq_true (by rw [d];rfl)]
     exact hK1 (f.isNum.2 (by rw [b];exact d))
    ·rw [decide_eq_false (by omega)]
     exact hK0 (fun i=>d (by rw [<- b];exact f.isNum.1 i))
  ·intro p neg x y
   refine ⟨_,_,_,_,rfl,Br.of (fun _=>⟨B3 _,hK0 ?_⟩) (fun e=>by cases e)⟩
   intro i
   obtain ⟨j,w,D,f⟩:=i.form
   exact p _ _ _ f
def B6w{q:Rat}(hq:q≠0)(hneg:¬ q<0):q.num.sign=1:=by
 have b:¬ q.num<0:=fun e=>hneg (by rw [dG];simpa using e)
 have a:q.num≠0:=fun e=>hq (Rat.num_eq_zero.1 e)
 exact bA (by omega)
def Uv(gl:Gl h)(hl:a.length<=100000000)(hK:K (I (rv a).num.sign) h):aM prog Yc #[.string (bs a)] h K:=by
 refine B4c _ ?_
 unfold C03
 have d:((bs a).toList==({ data:=#[48] }:ByteArray).toList)=decide (a=[48]):=Ew a [48]
 rw [d]
 refine B4 (fun e=>?_) (fun e=>?_)
 ·subst e;rw [C3q] at hK;exact hK
 ·refine Cr gl hl ?_ ?_
  ·rintro ⟨q,rfl⟩
   rw [C7] at hK
   have b:q≠0:=by rintro rfl;exact e B2q
   obtain ⟨c,r,k,i⟩:=A8d q
   refine ⟨_,rfl,S7 ?_⟩
   refine ⟨c,⟨by omega,by rw [Ij,k];rfl⟩,D9 (fun j=>?_) (fun j=>?_)⟩
   ·have g:c=45:=by apply UInt8.toNat_inj.1;show c.toNat=45;omega
    have:=(dG q 0).1 (i.1 g)
    rw [cN (by simpa using this)] at hK
    exact hK
   ·have g:¬ q<0:=fun l=>j (by rw [i.2 l];rfl)
    rw [B6w b g] at hK
    exact hK
  ·intro m
   rw [A8q m] at hK
   exact ⟨_,rfl,S7 hK⟩
def R5(gl:Gl h)(ta:Tx m a)(tb:Tx m b)(hm:2*m<=6400000000)(hK:K (I (B3y (rv a) (rv b))) h):aM prog U3 #[.string (bs a),.string (bs b)] h K:=by
 refine FCall.pure (A4c _ _ ?_)
 unfold A5v
 refine Bo ?_ ?_
 ·intro p q l j i d k o
  rw [l,j,C7,C7] at hK
  refine ⟨_,_,_,_,_,rfl,Br.of (fun _=>Tp _ _ ?_) (fun e=>by cases e)⟩
  unfold Pf
  have s:=Kd i (show ((q.den:Nat):Int).natAbs<1000000000 by simpa using o)
  have w:=Kd k (show ((p.den:Nat):Int).natAbs<1000000000 by simpa using d)
  rw [B6 (by omega) (by omega),B6 (by omega) (by omega)]
  exact B0a ⟨_,rfl,_,rfl,B3 _,hK⟩
 ·refine ⟨_,_,_,_,_,rfl,Br.of (fun e=>by cases e) (fun _=>?_)⟩
  refine J6 gl.tz ta.len ?_
  intro x i c n
  refine ⟨_,_,_,_,_,_,_,_,rfl,J6 (gl.tz.mono c) tb.len ?_⟩
  intro u d g r
  refine ⟨_,_,_,_,_,_,_,_,rfl,Xn (n.mono g) r ta.sz tb.sz hm ⟨_,rfl,A0 c g,hK⟩⟩
def A0f(gl:Gl h)(ta:Tx m a)(tb:Tx m b)(hm:2*m+1<=40000000)(hK:K (.string (bs (E4 (rv a+rv b)))) h):aM prog A5c #[.string (bs a),.string (bs b)] h K:=by
 refine FCall.pure (B82 _ _ ?_)
 unfold C3b
 refine Bo ?_ ?_
 ·intro p q o u j g l k
  rw [o,u,C7,C7,Hx] at hK
  refine ⟨_,_,_,_,_,rfl,Br.of (fun _=>?_) (fun e=>by cases e)⟩
  have z:=Kd j (show ((q.den:Nat):Int).natAbs<1000000000 by simpa using k)
  have y:=Kd l (show ((p.den:Nat):Int).natAbs<1000000000 by simpa using g)
  have A:=Kd (show ((p.den:Nat):Int).natAbs<1000000000 by simpa using g) (show ((q.den:Nat):Int).natAbs<1000000000 by simpa using k)
  rw [B6 (n:=p.num*q.den) (by omega) (by omega),B6 (n:=q.num*p.den) (by omega) (by omega),B6 (n:=(p.den:Int)*q.den) (by omega) (by omega),B6 (by omega) (by omega)]
  exact Y5 gl.p10 (dR (den_ne p) (den_ne q)) (by omega) (by omega) ⟨_,rfl,B3 _,hK⟩
 ·refine ⟨_,_,_,_,_,rfl,Br.of (fun e=>by cases e) (fun _=>?_)⟩
  refine J6 gl.tz ta.len ?_
  intro D j i r
  refine ⟨_,_,_,_,_,_,_,_,rfl,J6 (gl.tz.mono i) tb.len ?_⟩
  intro C g d x
  refine ⟨_,_,_,_,_,_,_,_,rfl,A6g (gl.tz.mono (A0 i d)) (r.mono d) x ta.sz tb.sz (by omega) ?_⟩
  intro B l w s
  have c:=A0 i (A0 d w)
  exact ⟨_,_,_,_,_,_,_,_,rfl,W6 (gl.p10.mono c) s (ta.sz.add tb.sz) (by omega) ⟨_,rfl,c,hK⟩⟩
def Ay(gl:Gl h)(ta:Tx m a)(tb:Tx m b)(hm:2*m<=40000000)(hK:K (.string (bs (E4 (rv a*rv b)))) h):aM prog Kq #[.string (bs a),.string (bs b)] h K:=by
 refine FCall.pure (B7z _ _ ?_)
 unfold C38
 refine Bo ?_ ?_
 ·intro p q o l k j i u
  rw [o,l,C7,C7,Ho] at hK
  refine ⟨_,_,_,_,_,rfl,Br.of (fun _=>?_) (fun e=>by cases e)⟩
  have y:=Kd k i
  have z:=Kd (show ((p.den:Nat):Int).natAbs<1000000000 by simpa using j) (show ((q.den:Nat):Int).natAbs<1000000000 by simpa using u)
  rw [B6 (n:=p.num*q.num) (by omega) (by omega),B6 (n:=(p.den:Int)*q.den) (by omega) (by omega)]
  exact Y5 gl.p10 (dR (den_ne p) (den_ne q)) (by omega) (by omega) ⟨_,rfl,B3 _,hK⟩
 ·refine ⟨_,_,_,_,_,rfl,Br.of (fun e=>by cases e) (fun _=>?_)⟩
  refine J6 gl.tz ta.len ?_
  intro C k d r
  refine ⟨_,_,_,_,_,_,_,_,rfl,J6 (gl.tz.mono d) tb.len ?_⟩
  intro B j g w
  refine ⟨_,_,_,_,_,_,_,_,rfl,Vb (gl.tz.mono (A0 d g)) (r.mono g) w ta.sz tb.sz (by omega) ?_⟩
  intro A i s x
  have c:=A0 d (A0 g s)
  exact ⟨_,_,_,_,_,_,_,_,rfl,W6 (gl.p10.mono c) x (ta.sz.mul tb.sz) (by omega) ⟨_,rfl,c,hK⟩⟩
def A0e(gl:Gl h)(ta:Tx m a)(tb:Tx m b)(hm1:1<=m)(hm:2*m<=40000000)(hK1:rv b≠0->K (.tuple #[.string (bs (E4 (rv a/rv b))),.bool true]) h)(hK0:rv b=0->K (.tuple #[.string (bs []),.bool false]) h):aM prog A5b #[.string (bs a),.string (bs b)] h K:=by
 refine FCall.pure (B81 _ _ ?_)
 unfold C3a
 have c:∀ i,i=h->aM prog L4 #[.string (bs b)] i (fun R z=>∃ (t350:Bool) (t351A:Option aQ) (t351n:Nat) (t351c:Nat) (t352:Bool) (t353A:Option aQ) (t353n:Nat) (t353c:Nat),R= .agg #[.bool t350,.slice t351A t351n t351c,.bool t352,.slice t353A t353n t353c]/\aM prog Db #[.agg #[.bool t350,.slice t351A t351n t351c,.bool t352,.slice t353A t353n t353c]] z (fun r3 j=>∃ (t37:Bool),r3= .bool t37/\Br t37 (h.le j/\K (.tuple #[.string ({ data:=#[] }:ByteArray),.bool false]) h)
  (aM prog L4 #[.string (bs a)] j (fun O d=>∃ (t390:Bool) (t391A:Option aQ) (t391n:Nat) (t391c:Nat) (t392:Bool) (t393A:Option aQ) (t393n:Nat) (t393c:Nat),O= .agg #[.bool t390,.slice t391A t391n t391c,.bool t392,.slice t393A t393n t393c]/\Heap.le j d/\aM prog A5f #[.agg #[.bool t390,.slice t391A t391n t391c,.bool t392,.slice t393A t393n t393c],.agg #[.bool t350,.slice t351A t351n t351c,.bool t352,.slice t353A t353n t353c]] d (fun J g=>∃ (t410:Bool) (t411A:Option aQ) (t411n:Nat) (t411c:Nat) (t412:Bool) (t413A:Option aQ) (t413n:Nat) (t413c:Nat),J= .agg #[.bool t410,.slice t411A t411n t411c,.bool t412,.slice t413A t413n t413c]/\Heap.le d g/\aM prog X4 #[.agg #[.bool t410,.slice t411A t411n t411c,.bool t412,.slice t413A t413n t413c]] g (fun N s=>∃ (t42:ByteArray),N= .string t42/\Heap.le g s/\(h.le s/\K (.tuple #[.string t42,.bool true]) h))))))):=by
  rintro i rfl
  refine J6 gl.tz tb.len ?_
  intro Z D w A
  refine ⟨_,_,_,_,_,_,_,_,rfl,Fs A ⟨_,rfl,B4 (fun e=>⟨w,hK0 e⟩) (fun e=>?_)⟩⟩
  refine J6 (gl.tz.mono w) ta.len ?_
  intro X E u Q
  refine ⟨_,_,_,_,_,_,_,_,rfl,u,A6e (gl.tz.mono (A0 w u)) Q (A.mono u) ta.sz tb.sz hm1 (by omega) ?_⟩
  intro W G F M
  have r:=A0 w (A0 u F)
  exact ⟨_,_,_,_,_,_,_,_,rfl,F,W6 (gl.p10.mono r) M (ta.sz.div tb.sz hm1) (by omega) ⟨_,rfl,B3 _,r,hK1 e⟩⟩
 refine Bo ?_ ?_
 ·intro p q H B D E G S
  refine ⟨_,_,_,_,_,rfl,fun L i=>L=[.bool (decide (q.num≠0))]/\i=h,Br.of (fun _=>⟨?_,rfl⟩) (fun e=>by cases e),?_⟩
  ·by_cases o:q.num=0<;>simp [o,bne]
  rintro k l ⟨y,rfl⟩
  obtain rfl:k=decide (q.num≠0):=by simpa using y
  refine B4 (fun o=>?_) (fun o=>c l rfl)
  have x:rv b≠0:=by rw [B,C7];exact fun e=>o (Rat.num_eq_zero.2 e)
  have C:=hK1 x
  rw [H,B,C7,C7,A6r] at C
  have T:=Kd D (show ((q.den:Nat):Int).natAbs<1000000000 by simpa using S)
  have V:=Kd (show ((p.den:Nat):Int).natAbs<1000000000 by simpa using E) G
  rw [B6 (n:=p.num*q.den) (by omega) (by omega),B6 (n:=(p.den:Int)*q.num) (by omega) (by omega)]
  exact Y5 gl.p10 (dR (den_ne p) o) (by omega) (by omega) ⟨_,rfl,B3 _,C⟩
 ·refine ⟨_,_,_,_,_,rfl,fun L i=>L=[.bool false]/\i=h,Br.of (fun e=>by cases e) (fun _=>⟨rfl,rfl⟩),?_⟩
  rintro k l ⟨y,rfl⟩
  obtain rfl:k=false:=by simpa using y
  exact Br.of (fun e=>by cases e) (fun _=>c l rfl)
def A2y(gl:Gl h)(ta:Tx m a)(hm:m+1<=40000000)(hK:K (.string (bs (Dp (rv a).floor))) h):aM prog Ye #[.string (bs a)] h K:=by
 refine FCall.pure (B10 _ ?_)
 unfold B5t
 refine J6 gl.tz ta.len ?_
 intro k l b d
 refine ⟨_,_,_,_,_,_,_,_,rfl,Oe d ta.sz (by omega) ?_⟩
 intro i A2 j c2 g c e
 exact ⟨_,_,_,_,rfl,Ff (m:=m) (gl.p10.mono (A0 b c)) e (Qb ta.sz) (by omega) ⟨_,rfl,A0 b c,hK⟩⟩
def A68(gl:Gl h)(ta:Tx m a)(hm:m+1<=40000000)(hK:K (.string (bs (Dp (rv a).ceil))) h):aM prog A3s #[.string (bs a)] h K:=by
 refine FCall.pure (B4e _ ?_)
 unfold C05
 refine J6 gl.tz ta.len ?_
 intro k l b d
 refine ⟨_,_,_,_,_,_,_,_,rfl,A6f d ta.sz (by omega) ?_⟩
 intro i A2 j c2 g c e
 refine ⟨_,_,_,_,rfl,Ff (m:=m) (gl.p10.mono (A0 b c)) e ?_ (by omega) ⟨_,rfl,A0 b c,hK⟩⟩
 rw [dT]
 exact (Qb ta.sz.neg).neg
end
def B3h(n j:Nat):n/2^j=2*(n/2^(j+1))+n/2^j%2:=by
 rw [cA,<- Nat.div_div_eq_div_mul]
 omega
def A8e{h:aV}{A:Option aQ}{n:Nat}{v:Int}{b:Nat}(m:Mw h A n v)(hv:v<2^b)(hb:b<=6400000000):n<=100000000:=by
 obtain ⟨k,hk⟩:∃ k,k=100000000:=⟨_,rfl⟩
 rw [<- hk]
 refine m.len_le (by decide) ?_
 rw [Fw]
 exact Int.lt_of_lt_of_le hv (D5 (B:=2) (by decide) (by omega))
def Vf{x:Nat}{m:Nat}(hx:x<2^m)(hm:1<=m)(k:Nat):x^k<2^(m*k+1):=by
 have a:x^k<=(2^m)^k:=cK (Nat.le_of_lt hx) k
 rw [<- dM] at a
 have b:2^(m*k)<2^(m*k+1):=Nat.pow_lt_pow_right (by decide) (by omega)
 omega
section
variable {h g:aV} {K:VP} {A B:Option aQ} {s s':Bool} {an ac bn bc m:Nat} {x y:Int}
def B7o{n:Nat}(hx:n<18446744073709551616)(hK:K (I (I9 n)) h):aM prog A9v #[U n] h K:=by
 refine B8f _ ?_
 unfold C3n
 exact Xv hx ⟨_,rfl,hK⟩
def Fu{x n xn xc:Nat}(M:Mw h A xn (x:Int))(hc:xn<=xc)(hx:x<2^m)(hm1:1<=m)(hm:m*n+1<=6400000000)(hn:n<9223372036854775808)(hmm:m<=6400000000)
 (hK:∀ A' n' c' h',h.le h'->n'<=c'->Mw h' A' n' ((x^n:Nat):Int)->K (.slice A' n' c') h'):aM prog Ae #[.slice A xn xc,U (n:Int)] h K:=by
 refine Uh _ _ _ _ ?_
 unfold Te
 have u:xn<=100000000:=A8e (b:=m) M (by
  have:((x:Nat):Int)<((2^m:Nat):Int):=Int.ofNat_lt.2 hx
  rw [aR] at this;exact this) hmm
 refine Y4 O8 rfl ?_
 intro b X
 refine ⟨_,_,_,rfl,B7o (by omega) ⟨_,rfl,?_⟩⟩
 have C:I9 n<=63:=Ep (by
  have:(2:Nat)^63=9223372036854775808:=by decide
  omega)
 have M1:Mw (h.put b (.cells #[U 1] C0)) (some ⟨b,0,none⟩) 1 ((x^(n/2^I9 n):Nat):Int):=by
  have r:n/2^I9 n=0:=by
   apply Nat.div_eq_of_lt
   by_cases l:n=0
   ·subst l;exact dA (by decide)
   ·exact (Bj l).2
  rw [r,Nat.pow_zero]
  refine ⟨[1],rfl,SlI.new _ _ _ _ _,?_,?_,?_⟩
  ·intro x hx;simp at hx;subst hx;decide
  ·unfold Norm;simp
  ·simp [val]
 refine ⟨fun L w=>∃ (RA:Option aQ) (g rc j:Nat),L=[.slice RA g rc,I ((j:Int)-1)]/\j<=I9 n/\h.le w/\g<=rc/\Mw w RA g ((x^(n/2^j):Nat):Int),fun L _=>(iAt L 1+1).toNat,⟨_,1,1,I9 n,by rw [B6 (by omega) (by omega)],bJ _,Heap.le_put _ X,bJ _,M1⟩,?_⟩
 rintro RA g rc i w ⟨RA',F,R,j,B,hj,o,c,MR⟩
 simp only [aI,aS,aP,and_true,true_and] at B
 obtain ⟨⟨rfl,rfl,rfl⟩,rfl⟩:=B
 have a:∀ {h':aV} {A':Option aQ} {n' k:Nat},k<=n->Mw h' A' n' ((x^k:Nat):Int)->n'<=100000000:=by
  intro h' A' n' k N M'
  refine A8e (b:=m*n+1) M' ?_ hm
  have h1:=Vf hx hm1 k
  have T:2^(m*k+1)<=2^(m*n+1):=aN (by decide) (by have:=Nat.mul_le_mul_left m N;omega)
  have y:((x^k:Nat):Int)<((2^(m*n+1):Nat):Int):=Int.ofNat_lt.2 (by omega)
  rw [aR (n:=m*n+1)] at y
  exact y
 refine B4 (fun l=>?_) (fun l=>?_)
 ·obtain ⟨j,rfl⟩:∃ i,j=i+1:=⟨j-1,by omega⟩
  have r:((j+1:Nat):Int)-1=(j:Int):=by omega
  simp only [r]
  have aa:=a (bF _ _) MR
  have s:=B3h n j
  have H:=bF n (2^j)
  refine G1 MR MR c c (by omega) (by omega) ?_
  intro A2 Q c2 T p D M2
  refine ⟨_,_,_,rfl,?_⟩
  have G:B8 (j:Int)=(j:Int):=B9 (by omega) (by omega)
  rw [G]
  refine B4 (fun e=>absurd e (by omega)) (fun _=>?_)
  rw [aC,B2f (by omega)]
  have J:(n:Int)/2^j=((n/2^j:Nat):Int):=by rw [dL,aR];rfl
  rw [J,Hw (by omega)]
  rw [<- aU,<- dN] at M2
  have V:B5 ((j:Int)-1)=(j:Int)-1:=B6 (by omega) (by omega)
  rw [V]
  have d:∀ (q:cO),(iAt [q,I ((j:Int)-1)] 1+1).toNat<(iAt [.slice RA g rc,I (j:Int)] 1+1).toNat:=by
   intro q
   simp only [iAt,aH,aJ]
   omega
  refine D9 (fun z=>?_) (fun S=>?_)
  ·have E:=a (by omega) M2
   refine G1 M2 (M.mono (A0 o p)) D hc (by omega) (by omega) ?_
   intro A3 Z O y W k3 M3
   refine ⟨_,_,_,rfl,⟨A3,Z,O,j,rfl,by omega,A0 o (A0 p W),k3,?_⟩,d _⟩
   rw [<- aU,<- cA] at M3
   rw [show n/2^j=n/2^(j+1)+n/2^(j+1)+1 by omega]
   exact M3
  ·refine ⟨⟨A2,Q,c2,j,rfl,by omega,A0 o p,D,?_⟩,d _⟩
   rw [show n/2^j=n/2^(j+1)+n/2^(j+1) by omega]
   exact M2
 ·obtain rfl:j=0:=by omega
  rw [Nat.pow_zero,dB] at MR
  exact hK _ _ _ _ o c MR
def B73(x:Int)(n:Nat):(-x)^n=if n%2=1 then -(x^n) else x^n:=by
 induction n with
 | zero=>simp
 | succ n ih=>
  rw [bM,bM,ih]
  by_cases h:n%2=1
  ·rw [iP h,iN (by omega),Int.neg_mul_neg]
  ·rw [iN h,iP (by omega),Int.mul_neg]
def Qk{n:Nat}(i:ZI h s A an ac x)(hx:ZB m x)(hm1:1<=m)(hm:m*n+1<=6400000000)(hmm:m<=6400000000)(hn:n<9223372036854775808)(hK:∀ s1 A' n' c' h',h.le h'->ZI h' s1 A' n' c' (x^n)->K (.agg #[.bool s1,.slice A' n' c']) h'):aM prog A1h #[.agg #[.bool s,.slice A an ac],U (n:Int)] h K:=by
 have j:=Fp i.sgn
 refine B7s _ _ _ _ _ ?_
 unfold C31
 refine Br.of (fun e=>?_) (fun e=>?_)
 ·refine Fu i.mag i.cap hx hm1 hm hn hmm ?_
  intro A1 l c1 o c g M1
  refine ⟨_,_,_,rfl,?_⟩
  rw [Hw (by omega)]
  refine K9 M1 g ?_
  intro s1 d
  refine ⟨_,_,_,_,rfl,hK _ _ _ _ _ c ?_⟩
  have b:x= -(x.natAbs:Int):=by
   rcases j with ⟨_,a⟩|⟨a,_⟩
   ·exact a
   ·rw [e] at a;cases a
  have:x^n=if ((n:Int)%2==1)=true then -((x.natAbs^n:Nat):Int) else ((x.natAbs^n:Nat):Int):=by
   conv=>lhs;rw [b,B73]
   rw [aR]
   by_cases k:n%2=1
   ·rw [iP k,iP (by simp;omega)]
   ·rw [iN k,iN (by simp;omega)]
  rw [this];exact d
 ·refine Fu i.mag i.cap hx hm1 hm hn hmm ?_
  intro A1 l c1 o c g M1
  refine ⟨_,_,_,rfl,?_⟩
  refine K9 M1 g ?_
  intro s1 d
  refine ⟨_,_,_,_,rfl,hK _ _ _ _ _ c ?_⟩
  have b:x=(x.natAbs:Int):=by
   rcases j with ⟨a,_⟩|⟨_,a⟩
   ·rw [e] at a;cases a
   ·exact a
  have:x^n=((x.natAbs^n:Nat):Int):=by rw [aR,<- b]
  rw [this];exact d
end
def Of(q:Rat)(n:Nat):(q^n).num=q.num^n/\(q^n).den=q.den^n:=⟨Rat.num_pow q n,Rat.den_pow q n⟩
def ZB.pow{m:Nat}{x:Int}(h:ZB m x)(hm:1<=m)(n:Nat):ZB (m*n+1) (x^n):=by
 unfold ZB
 rw [Int.natAbs_pow]
 exact Vf h hm n
def Sz.pow{m:Nat}{q:Rat}(h:Sz m q)(hm:1<=m)(n:Nat):Sz (m*n+1) (q^n):=by
 obtain ⟨b,a⟩:=Of q n
 refine ⟨by rw [b];exact h.num.pow hm n,?_⟩
 rw [a,aR];exact h.den.pow hm n
section
variable {h:aV} {K:VP} {m:Nat} {a b:List UInt8} {w:QV} {q:Rat}
def A0m{n:Nat}(i:RQ h w q)(hq:Sz m q)(hm1:1<=m)(hm:m*n+1<=6400000000)(hmm:m<=6400000000)(hn:n<9223372036854775808)(hK:∀ w h',h.le h'->RQ h' w (q^n)->K w.v h'):aM prog A5d #[w.v,U (n:Int)] h K:=by
 obtain ⟨l,g⟩:=Of q n
 refine B84 _ _ _ _ _ _ _ _ _ ?_
 unfold C3c
 refine I4 i ⟨_,rfl,B4 (fun e=>?_) (fun e=>?_)⟩
 ·refine Qk i.num hq.num hm1 hm hmm hn ?_
  intro k A1 j c1 r a c
  refine ⟨_,_,_,_,rfl,hK ⟨k,A1,j,c1,false,none,0,0⟩ _ a ⟨by rw [l];exact c,?_⟩⟩
  rw [g,e,Nat.one_pow,iP rfl];exact ZI.zero
 ·have b:=i.den
  rw [iN e] at b
  refine Qk i.num hq.num hm1 hm hmm hn ?_
  intro k A1 j c1 r a c
  refine ⟨_,_,_,_,rfl,a,Qk (b.mono a) hq.den hm1 hm hmm hn ?_⟩
  intro x A2 y c2 u d p
  refine ⟨_,_,_,_,rfl,d,T7 (q:=q^n) (c.mono d) p l (by rw [g,aR]) ?_⟩
  intro o s
  exact ⟨_,_,_,_,_,_,_,_,rfl,B3 _,hK o _ (A0 a d) s⟩
def Qo{n:Int}(gl:Gl h)(ta:Tx m a)(hm1:1<=m)(hm:m*n.natAbs+1<=40000000)(hmm:m<=40000000)
 (hK1: -1000<=n->n<=1000->0<=n->K (.tuple #[.string (bs (E4 (rv a^n.natAbs))),.bool true]) h)
 (hK2: -1000<=n->n<0->rv a≠0->K (.tuple #[.string (bs (E4 ((rv a)⁻¹^n.natAbs))),.bool true]) h)
 (hK0:¬ (-1000<=n/\n<=1000)\/(n<0/\rv a=0)->K (.tuple #[.string (bs []),.bool false]) h):aM prog A1i #[.string (bs a),I n] h K:=by
 refine FCall.pure (B7y _ _ ?_)
 unfold C37
 refine B4 (fun e=>⟨B3 _,hK0 (.inl (by omega))⟩) (fun s=>B4 (fun e=>⟨B3 _,hK0 (.inl (by omega))⟩) (fun r=>?_))
 refine J6 gl.tz ta.len ?_
 intro x y c d
 refine ⟨_,_,_,_,_,_,_,_,rfl,B4 (fun i=>?_) (fun i=>?_)⟩
 ·refine Fs d ⟨_,rfl,B4 (fun e=>⟨c,hK0 (.inr ⟨i,e⟩)⟩) (fun e=>?_)⟩
  refine Kb d ?_
  intro w u o p
  have j:B8 (B5 (0-n))=(n.natAbs:Int):=by rw [B6 (by omega) (by omega),B9 (by omega) (by omega)];omega
  rw [j]
  refine ⟨_,_,_,_,_,_,_,_,rfl,A0m p (ta.sz.inv hm1) hm1 (by omega) (by omega) (by omega) ?_⟩
  intro l q g k
  have b:=A0 c (A0 o g)
  exact ⟨_,_,_,_,_,_,_,_,rfl,W6 (gl.p10.mono b) k ((ta.sz.inv hm1).pow hm1 _) (by omega) ⟨_,rfl,b,hK2 (by omega) i e⟩⟩
 ·have j:B8 n=(n.natAbs:Int):=by rw [B9 (by omega) (by omega)];omega
  rw [j]
  refine A0m d ta.sz hm1 (by omega) (by omega) (by omega) ?_
  intro l q g k
  have b:=A0 c g
  exact ⟨_,_,_,_,_,_,_,_,rfl,W6 (gl.p10.mono b) k (ta.sz.pow hm1 _) (by omega) ⟨_,rfl,b,hK1 (by omega) (by omega) (by omega)⟩⟩
end
