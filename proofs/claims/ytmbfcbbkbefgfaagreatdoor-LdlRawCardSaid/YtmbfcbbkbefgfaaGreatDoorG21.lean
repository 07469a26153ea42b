/- A part. -/
import Derived.Test.YtmbfcbbkbefgfaaGreatDoorG20
import Derived.Test.YtmbfcbbkbefgfaaGreatDoorG09
import Derived.Test.YtmbfcbbkbefgfaaGreatDoorRows
import Derived.Lib.LaidTab
open Go.Proofs.Tryz
set_option linter.all false
open Bool renaming eq_iff_iff->cC
open Int renaming natAbs_natCast->aC,toNat_natCast->aD,natCast_mul->aG,gcd->aL,natCast_pow->aQ,pow_succ->aY,ofNat_tdiv->bI,le_of_lt->bM,mul_le_mul_of_nonneg_right->bO,pow_pos->bW
open List renaming getElem?_eq_getElem->aE,exists_cons_of_ne_nil->aJ,length_append->aM,takeWhile_append_dropWhile->aO,length_take->aV,take_of_length_le->aX,length_map->bB,head?_cons->bC,take_append_drop->bF,drop_zero->bH,getElem_map->bN,eq_nil_of_length_eq_zero->bV,map_append->bY,append_nil->bZ,getLast?_singleton->cI,getElem?_cons_zero->cJ,append_cancel_left->cK,takeWhile_sublist->cL
open List.cons renaming injEq->bD
open Nat renaming pow_le_pow_right->aI,div_le_self->aK,gcd->aR,mul_one->aT,gcd_dvd_right->aU,sub_zero->aW,le_refl->bG,pow_le_pow_left->bJ,lt_of_lt_of_le->bK,pow_succ->bL,div_one->bU,min_eq_left->bX,le_of_dvd->cG
open Option.some renaming injEq->aH
open Rat renaming num_eq_zero->aZ,add->cD
open _root_.Go.Value renaming int->cH
open _root_.Go.Value.slice renaming injEq->aS
open _root_.Go renaming Addr->aN,TypeId->cF
open _root_.Go.Proofs.YtmbfcbbkbefgfaaGreatDoor renaming FCall->aF,Heap->aP
namespace Go.Proofs.YtmbfcbbkbefgfaaGreatDoor
set_option maxRecDepth 20000
open Go
def B8h:(prog.info? B1y).map (fun i=>i.zero)=some (some (.agg (Array.replicate 20 (.int .u8 0)))):=by kernel_rfl
def C1v(ns:List Nat)(c:Nat):nz (ns++[c])=nz ns++[(c:Int)]:=by simp [nz]
section
variable {h g:aP} {K:VP} {A XA:Option aN} {n c:Nat} {eT:cF} {l:List UInt8}
def Fs{xn xc v W:Nat}(gp:Gp g)(p:Priv h g eT 1 A n c (yv l))(M:Mw g XA xn (v:Int))(hx:xn<=10000000)(hW:W<=1000000000)(hn:n<=1000000000)
 (hK:∀ A' n' c' e3 g' h',Ext g eT A n c l (pad W v) A' n' c' e3 g' h'->K (.slice A' n' c') h'):aF prog Y5 #[.slice A n c,.slice XA xn xc,I (W:Int)] h K:=by
 obtain ⟨xs,J,sx,dx,nx,N⟩:=M
 refine Tc _ _ _ _ _ _ _ ?_
 unfold Pv
 refine p.call ?_
 refine Fn sx J (by omega) ?_
 intro WA T h0 g0 l0 pw h1 V
 obtain ⟨D,ad,ai⟩:=V.swap pw
 refine ⟨_,_,_,rfl,?_⟩
 unfold Js
 have aq:(v:Int)<2^(64*xn):=by
  have:=N3 (B:=b64) (by decide) dx
  rw [N,<- J,Ln] at this;exact this
 refine ⟨fun s hp=>∃ (a:List Int) (ns:List Nat) (WA CA:Option aN) (wn T cn cc:Nat) (D g2 g3:aP),s=[.slice WA wn T,.slice CA cn cc]/\Pw hp D WA wn T a/\Pw D g2 CA cn cc (nz ns)/\Priv g2 g3 eT 1 A n c (yv l)/\g.le g3/\wn=a.length/\cn=ns.length/\wn<=xn/\Dig b64 a/\Norm a/\(∀ c∈ns,c<10^19)/\(v:Int)=val b64 a*cB^ns.length+(nv ns:Int)/\(a=[]->ns.getLast? ≠ some 0),fun s hp=>match s with|[.slice A n _,_]=>B35 b64 hp A n|_=>0,⟨xs,[],WA,none,xs.length,T,0,0,D,D,g0,rfl,ad,Priv.nil _ _ _ _,ai,l0,rfl,rfl,by omega,dx,nx,by simp,by simp [nv,N],by simp⟩,?_⟩
 rintro WA1 O ac CA1 aa av S ⟨a,ns,WA2,CA2,aw,a1,au,ar,D,g2,g3,hs,pw,pc,V,lg,w,ap,az,du,nu,hb,hv,u⟩
 simp only [bD,aS,and_true] at hs
 obtain ⟨⟨rfl,rfl,rfl⟩,rfl,rfl,rfl⟩:=hs
 have a0:=C9 (B:=b64) (by decide) du
 have Mu:Mw S WA1 O (val b64 a):=⟨a,w,pw.slV,du,nu,rfl⟩
 refine B8 (fun h2=>?_) (fun h2=>?_)
 ·have am:a≠[]:=by rintro rfl;simp at w;omega
  have H:0<val b64 a:=by
   have:=Mu.len_zero (by decide)
   omega
  have t:ns.length<=64*xn:=by
   by_cases X:ns.length<=64*xn
   ·exact X
   ·exfalso
    have h3:(2:Int)^(64*xn)<=2^ns.length:=D4 (by decide) (by omega)
    have h4:(2:Int)^ns.length<=cB^ns.length:=by
     have:∀ k:Nat,(2:Int)^k<=cB^k:=by
      intro k
      induction k with
      | zero=>simp
      | succ k ih=>
       rw [aY,aY]
       exact Int.mul_le_mul ih (by decide) (by decide) (bM (bW (by decide)))
     exact this _
    have h5:1*cB^ns.length<=val b64 a*cB^ns.length:=bO H (bM (bW (by decide)))
    omega
  refine C4j pw am w du (by omega) ?_
  intro C m r ay ao hm ax nw Z d hr
  obtain ⟨q,al,ae⟩:=ao.swap pc
  refine Eh R5 al rfl rfl (by omega) (by omega) ?_
  intro CA' ab h' g' ag j
  obtain ⟨z,l2,i⟩:=ae.after ag
  obtain ⟨g4,E,af⟩:=j.swap i
  obtain ⟨g5,l5,ah⟩:=V.after l2
  obtain ⟨c0,e⟩:∃ c0:Nat,r=(c0:Int):=⟨r.toNat,by omega⟩
  have G:c0<10^19:=by
   have R:r<10000000000000000000:=hr.2
   show c0<10000000000000000000
   omega
  have an:=C9 (B:=b64) (by decide) Z
  refine ⟨⟨C.take m,ns++[c0],WA1,CA',m,ac,aa+1,ab,g4,z,g5,rfl,E,?_,ah,B0 lg l5,hm,by simp;omega,by omega,Z,nw,?_,?_,?_⟩,?_⟩
  ·have h9:=af
   rw [<- List.map_singleton (f:=cH .u64),<- bY,e,<- C1v] at h9
   exact h9
  ·intro c X
   rcases List.mem_append.1 X with R|R
   ·exact hb c R
   ·rw [List.mem_singleton.1 R];exact G
  ·rw [B31,hv,d,aM,List.length_singleton,aY,e];grind
  ·intro he
   rw [List.getLast?_append]
   simp only [cI,Option.some_or,ne_eq,aH]
   intro e0
   rw [he] at d
   simp [val] at d
   omega
  ·show B35 b64 h' WA1 m<B35 b64 S WA1 O
   have Mw2:Mw h' WA1 m (val b64 (C.take m)):=⟨C.take m,hm,E.slV,Z,nw,rfl⟩
   rw [Bm Mw2,Bm Mu]
   have R:1*val b64 (C.take m)<=cB*val b64 (C.take m):=bO (by decide) an
   have h7:val b64 a=10000000000000000000*val b64 (C.take m)+r:=by rw [d,Int.mul_comm]
   omega
 ·have L:a=[]:=bV (by omega)
  subst L
  obtain ⟨z,ak,j⟩:=pc.swap V
  obtain ⟨q,Q,i⟩:=pw.swap ak
  have aj:v=nv ns:=by
   simp [val] at hv;omega
  have t:ns.length<=1000000000:=by
   by_cases e:ns=[]
   ·subst e;simp
   ·have h7:=u rfl
    obtain ⟨ms,c0,rfl⟩:∃ ms c0,ns=ms++[c0]:=⟨ns.dropLast,ns.getLast e,(List.dropLast_concat_getLast e).symm⟩
    rw [List.getLast?_append] at h7
    simp only [cI,Option.some_or,ne_eq,aH] at h7
    have h8:=B31 ms c0
    by_cases X:ms.length<=64*xn
    ·simp;omega
    ·exfalso
     have h3:(2:Int)^(64*xn)<=2^ms.length:=D4 (by decide) (by omega)
     have h4:(2:Int)^ms.length<=cB^ms.length:=by
      have:∀ k:Nat,(2:Int)^k<=cB^k:=by
       intro k
       induction k with
       | zero=>simp
       | succ k ih=>
        rw [aY,aY]
        exact Int.mul_le_mul ih (by decide) (by decide) (bM (bW (by decide)))
      exact this _
     have h5:cB^ms.length*1<=cB^ms.length*(c0:Int):=Int.mul_le_mul_of_nonneg_left (by omega) (bM (bW (by decide)))
     omega
  refine Hl B8h ?_
  intro b y
  refine ⟨_,rfl,?_⟩
  have hz:(Value.agg (Array.replicate 20 (.int .u8 0))).cells=(List.replicate 20 (cH .u8 0)).toArray:=by rfl
  rw [hz]
  have F:q b=none:=by
   cases hx1:q b with
   | none=>rfl
   | some o=>rw [Q.le b o hx1] at y;cases y
  refine B8d (ns:=ns) gp rfl ⟨eT,_,q,⟨?_,?_,by simp,fun _=>⟨rfl,rfl,rfl⟩,id⟩,⟨by simp [yv],by simp,.inr ⟨b,List.replicate 20 (cH .u8 0),rfl,F,rfl,by simp,by simp [yv]⟩⟩,?_,?_⟩ ap hb (u rfl) hW hn t (by rw [<- aj];exact hK)
  ·exact B0 lg (B0 j.le (B0 i.le (Heap.le_put _ F)))
  ·rw [bZ];exact Q.put y _
  ·exact B0 lg (B0 j.le i.le)
  ·exact (show SlI .u64 z CA1 (nz ns) from j.slV).mono i.le
end
def Ih(i:Nat):Nat:=10^(19*2^i)
def B26(i:Nat):Ih i=(10^19)^(2^i):=Nat.pow_mul _ _ _
def B75(i:Nat):0<Ih i:=Nat.pow_pos (by decide)
def B25:Ih 0=10000000000000000000:=by decide
def A3c(i:Nat):Ih (i+1)=Ih i*Ih i:=by
 unfold Ih
 rw [<- Nat.pow_add]
 congr 1
 rw [bL];omega
def C1d(i:Nat):(Ih i:Int)<b64^(2^i):=by
 have h:(10^19)^(2^i)<(18446744073709551616:Nat)^(2^i):=Nat.pow_lt_pow_left (by decide) (Nat.pos_iff_ne_zero.1 (Nat.pow_pos (by decide)))
 rw [<- B26] at h
 have a:((Ih i:Nat):Int)<((18446744073709551616^(2^i):Nat):Int):=Int.ofNat_lt.2 h
 rw [aQ] at a
 exact a
def C1e(i:Nat):(2:Int)^(63*2^i)<=(Ih i:Int):=by
 have h:(2^63)^(2^i)<=(10^19)^(2^i):=bJ (by decide) _
 rw [<- B26,<- Nat.pow_mul] at h
 have a:((2^(63*2^i):Nat):Int)<=((Ih i:Nat):Int):=Int.ofNat_le.2 h
 rw [aQ] at a
 exact a
def C3m{k m:Nat}(h:(2:Int)^k<2^m):k<m:=by
 by_cases a:k<m
 ·exact a
 ·have:=D4 (B:=2) (by decide) (show m<=k by omega)
  omega
abbrev slT(s:Option aN × Nat × Nat):Value:=.slice s.1 s.2.1 s.2.2
def Pws(h:aP)(PA:Option aN)(k:Nat):Prop:=∃ ss:List (Option aN × Nat × Nat),ss.length=k/\SlV h PA (ss.map slT)/\∀ i s,ss[i]? = some s->s.2.1<=s.2.2/\Mw h s.1 s.2.1 (Ih i:Int)
def Pws.mono{h h':aP}(l:h.le h'){PA:Option aN}{k:Nat}(p:Pws h PA k):Pws h' PA k:=by
 obtain ⟨c,d,b,a⟩:=p
 exact ⟨c,d,b.mono l,fun i s e=>⟨(a i s e).1,(a i s e).2.mono l⟩⟩
def Pws.take{h:aP}{PA:Option aN}{k j:Nat}(p:Pws h PA k)(hj:j<=k):Pws h PA j:=by
 obtain ⟨a,f,d,b⟩:=p
 refine ⟨a.take j,by rw [aV];omega,?_,fun i s e=>?_⟩
 ·have:=SlV.cut (c:=(a.map slT).length) d (Nat.zero_le j) (by rw [bB];omega) (bG _)
  rw [J0,bH,aW,<- List.map_take] at this
  exact this
 ·rw [List.getElem?_take] at e
  split at e
  ·exact b i s e
  ·cases e
def Pws.at{h:aP}{PA:Option aN}{k i:Nat}(p:Pws h PA k)(hi:i<k):∃ (a:aN) (A:Option aN) (n c:Nat),PA=some a/\h.cell? (a.add i)=some (.slice A n c)/\n<=c/\Mw h A n (Ih i:Int):=by
 obtain ⟨d,m,j,e⟩:=p
 obtain ⟨a,f,b⟩:=j.at (i:=i) (by rw [bB];omega)
 rw [bN] at b
 obtain ⟨g,l⟩:=e i d[i] (aE (by omega))
 exact ⟨a,_,_,_,f,b,g,l⟩
def Mw.tenP_le{h:aP}{A:Option aN}{n i:Nat}(m:Mw h A n (Ih i:Int)):n<=2^i:=m.len_le (by decide) (C1d i)
def Mw.tenP_ge{h:aP}{A:Option aN}{n i:Nat}(m:Mw h A n (Ih i:Int)):2^i<2*n:=by
 have a:=m.lt (by decide)
 rw [Ln] at a
 have b:=C3m (Int.lt_of_le_of_lt (C1e i) a)
 omega
def Ext.weak{g g0 g' h':aP}{eT e2:cF}{A A':Option aN}{n c n' c':Nat}{l t:List UInt8}(l0:g0.le g)(x:Ext g eT A n c l t A' n' c' e2 g' h'):Ext g0 eT A n c l t A' n' c' e2 g' h':=⟨B0 l0 x.le,x.priv,x.len,x.fit,x.tag⟩
def B9m(w n:Nat):w<=(pad w n).length:=by simp [pad];omega
def C1k{j:Nat}(hj:j<=30):B7 (19*2^(min j 64))=((19*2^j:Nat):Int):=by
 rw [bX (by omega)]
 have b:2^j<=2^30:=aI (by decide) hj
 have a:(19*2^j:Int)=((19*2^j:Nat):Int):=by rw [aG,aQ];rfl
 rw [a,C1 (by omega) (by have:(2:Nat)^30=1073741824:=by decide
                         omega)]
def A24{l:List UInt8}(hd:∀ c∈l,J2 c):(N8 l:Int)<b64^l.length:=by
 have d:=Qz hd
 have b:10^l.length<=(18446744073709551616:Nat)^l.length:=bJ (by decide) _
 have a:((N8 l:Nat):Int)<((18446744073709551616^l.length:Nat):Int):=Int.ofNat_lt.2 (bK d b)
 rw [aQ] at a
 exact a
def Sr:∀ (k:Nat) {h g:aP} {K:VP} {A XA PA:Option aN} {n c xn xc pc v W:Nat} {eT:cF} {l:List UInt8},Gp g->Priv h g eT 1 A n c (yv l)->Mw g XA xn (v:Int)->xn<=xc->xn<=10000000->Pws g PA k->k<=pc->k<=26->(W=0\/W=19*2^k)->n+(pad W v).length<=1000000000->
 (∀ A' n' c' e3 g' h',Ext g eT A n c l (pad W v) A' n' c' e3 g' h'->K (.slice A' n' c') h')->aF prog I6 #[.slice A n c,.slice XA xn xc,I (W:Int),.slice PA k pc] h K:=by
 intro k
 induction k with
 | zero=>
  intro h g K A XA PA n c xn xc pc v W eT l f p M t H u C V hW J o
  have:=B9m W v
  refine Jq _ _ _ _ _ _ _ _ _ _ ?_
  unfold Jr
  refine B8 (fun _=>?_) (fun e=>absurd (by decide) e)
  refine Fs f p M H (by omega) (by omega) ?_
  intro A' n' c' F g' h' x
  exact ⟨_,_,_,rfl,o _ _ _ F g' _ x⟩
 | succ j ih=>
  intro h g K A XA PA n c xn xc pc v W eT l f p M t H u C V hW J o
  have ah:=B9m W v
  have T:B7 (((j+1:Nat):Int)-1)=(j:Int):=by rw [C1 (by omega) (by omega)];omega
  refine Jq _ _ _ _ _ _ _ _ _ _ ?_
  unfold Jr
  simp only [T,aD,aW,J0,C1k (show j<=30 by omega)]
  refine B8 (fun e=>absurd e (by omega)) (fun _=>B8 (fun _=>?_) (fun _=>?_))
  ·refine Fs f p M H (by omega) (by omega) ?_
   intro A' n' c' F g' h' x
   exact ⟨_,_,_,rfl,o _ _ _ F g' _ x⟩
  ·obtain ⟨a,PA',pn,ad,ha,hc,m,Mp⟩:=u.at (i:=j) (by omega)
   refine ⟨a,ha,by omega,by omega,_,_,_,by rw [aT];exact B9 p.le hc,?_⟩
   have af:=Mp.tenP_le
   have aj:2^j<=2^26:=aI (by decide) (by omega)
   have ae:(2:Nat)^26=67108864:=by decide
   have B:=B75 j
   refine p.call ?_
   refine V1 M Mp t m (by omega) (by omega) (by omega) ?_
   intro A1 m1 c1 A2 m2 c2 g1 b k1 L M1 M2 h1 N
   refine ⟨_,_,_,_,_,_,rfl,?_⟩
   rw [<- Int.natCast_ediv] at M1
   rw [<- Int.natCast_emod] at M2
   have X:=Nat.div_add_mod v (Ih j)
   have s:=Nat.mod_lt v B
   have ab:=aK v (Ih j)
   generalize v/Ih j=q at *
   generalize v%Ih j=r at *
   have hz:=M1.len_zero (by decide)
   have S:=M.lt (by decide)
   have ak:m1<=xn:=M1.len_le (by decide) (by omega)
   have ac:m2<=xn:=M2.len_le (by decide) (by
    have h0:0<=Ih j*q:=Nat.zero_le _
    generalize Ih j*q=z at *
    omega)
   have G:v=q*10^(19*2^j)+r:=by rw [<- X,Nat.mul_comm];rfl
   have ai:2^(j+1)=2*2^j:=by rw [bL];omega
   refine B8 (fun e=>absurd e (by omega)) (fun _=>?_)
   refine D8 (fun Z=>D8 (fun eW=>?_) (fun eW=>?_)) (fun Z=>?_)
   ·obtain rfl:W=0:=by omega
    obtain rfl:q=0:=by omega
    obtain rfl:v=r:=by omega
    refine ⟨⟨by omega,by omega⟩,?_⟩
    refine ih (W:=0) (f.mono b) N M2 L (by omega) ((u.mono b).take (by omega)) (by omega) (by omega) (.inl rfl) J ?_
    intro A4 n4 c4 R O h4 D
    exact ⟨_,_,_,rfl,o _ _ _ _ _ _ (D.weak b)⟩
   all_goals
    have hw:q≠0\/19*2^j<=W:=by omega
    have d:=A3v (w:=W) (h:=q) (l:=r) (k:=19*2^j) s hw
    rw [<- G] at d
    have E:(pad (19*2^j) r).length=19*2^j:=Yx s
    have aa:(pad W v).length=(pad (W-19*2^j) q).length+19*2^j:=by rw [d,aM,E]
    refine ⟨⟨by omega,by omega⟩,?_⟩
    have e3:(if (0:Int)>B7 ((W:Int)-((19*2^j:Nat):Int)) then (0:Int) else B7 ((W:Int)-((19*2^j:Nat):Int)))=((W-19*2^j:Nat):Int):=by
     rw [C1 (by omega) (by omega)]
     split<;>omega
    rw [e3]
    refine ih (f.mono b) N M1 k1 (by omega) ((u.mono b).take (by omega)) (by omega) (by omega) (by omega) (by omega) ?_
    intro A3 n3 c3 e3 g3 h3 y
    have ag:=y.len
    have Q:=B0 b y.le
    refine ⟨_,_,_,rfl,⟨by omega,by omega⟩,?_⟩
    refine ih (f.mono Q) y.priv (M2.mono y.le) L (by omega) ((u.mono Q).take (by omega)) (by omega) (by omega) (.inr rfl) (by omega) ?_
    intro A4 n4 c4 R O h4 D
    refine ⟨_,_,_,rfl,o _ _ _ R O _ ?_⟩
    rw [d]
    exact (y.trans D).weak b
def Ir:∀ (k:Nat) {h:aP} {K:VP} {PA:Option aN} {pc:Nat} {l:List UInt8},(∀ c∈l,J2 c)->l.length<=100000000->Pws h PA k->k<=pc->k<=30->(∀ A n c h',h.le h'->n<=c->Mw h' A n (N8 l:Int)->K (.slice A n c) h')->aF prog N6 #[.string (bs l),.slice PA k pc] h K:=by
 intro k
 induction k using Nat.strongRecOn with
 | _ k ih=>
  intro h K PA pc l z L D Q hk F
  refine Xz _ _ _ _ ?_
  unfold Wr
  rw [L5]
  have b:aF prog O1 #[.string (bs l)] h (fun r y=>∃ (A:Option aN) (n c:Nat),r= .slice A n c/\K (.slice A n c) y):=by
   refine Sq z L ?_
   intro A n c h' m g M
   exact ⟨_,_,_,rfl,F _ _ _ _ m g M⟩
  refine ⟨fun s y=>y=h/\∃ j:Nat,s=[I ((j:Int)-1)]/\j<=k,fun s _=>(iAt s 0+1).toNat,⟨rfl,k,by rw [C1 (by omega) (by omega)],bG _⟩,?_⟩
  rintro q y ⟨rfl,j,hs,hj⟩
  obtain rfl:q=(j:Int)-1:=by simpa using hs
  refine B8 (fun N=>?_) (fun N=>B8 (fun _=>b) (fun e=>absurd (show (j:Int)-1<0 by omega) e))
  obtain ⟨i,rfl⟩:∃ i,j=i+1:=⟨j-1,by omega⟩
  have O:((i+1:Nat):Int)-1=(i:Int):=by omega
  have ac:0<2^i:=Nat.pow_pos (by decide)
  simp only [O,aD,aW,J0,C1k (show i<=30 by omega)]
  refine B8 (fun e=>absurd e (by omega)) (fun _=>B8 (fun H=>?_) (fun H=>?_))
  ·refine ⟨⟨trivial,i,by rw [C1 (by omega) (by omega)],by omega⟩,?_⟩
   simp only [iAt,cJ]
   rw [C1 (by omega) (by omega)]
   omega
  refine B8 (fun e=>absurd e (by omega)) (fun _=>B8 (fun _=>b) (fun G=>B8 (fun e=>absurd e (by omega)) (fun _=>?_)))
  have Z:B7 ((l.length:Int)-((19*2^i:Nat):Int))=((l.length-19*2^i:Nat):Int):=by rw [C1 (by omega) (by omega)];omega
  simp only [Z,aD,O8,bH,aW]
  obtain ⟨a,PA',pn,S,V,g,o,Mp⟩:=D.at (i:=i) (by omega)
  refine ⟨⟨by omega,by omega⟩,⟨by omega,by omega⟩,a,V,by omega,by omega,_,_,_,by rw [aT];exact g,?_⟩
  have X:=Mp.tenP_le
  have ad:19*2^i<l.length:=by omega
  have w:∀ c∈l.take (l.length-19*2^i),J2 c:=fun c g=>z c (List.mem_of_mem_take g)
  have u:∀ c∈l.drop (l.length-19*2^i),J2 c:=fun c g=>z c (List.mem_of_mem_drop g)
  have C:(l.take (l.length-19*2^i)).length=l.length-19*2^i:=by rw [aV];omega
  have f:(l.drop (l.length-19*2^i)).length=19*2^i:=by rw [List.length_drop];omega
  have d:N8 l=N8 (l.take (l.length-19*2^i))*Ih i+N8 (l.drop (l.length-19*2^i)):=by
   have:=Hj (l.take (l.length-19*2^i)) (l.drop (l.length-19*2^i))
   rw [bF,f] at this
   exact this
  have hb:=A24 z
  have p:=A24 w
  have t:=A24 u
  rw [C] at p
  rw [f] at t
  refine ih i (by omega) w (by omega) (D.take (by omega)) (by omega) (by omega) ?_
  intro A1 n1 c1 H m k1 M1
  refine ⟨_,_,_,rfl,m,?_⟩
  have T:=M1.len_le (by decide) p
  refine I8 M1 (Mp.mono m) k1 o (by omega) (by omega) ?_
  intro A2 n2 c2 h2 B R M2
  refine ⟨_,_,_,rfl,B,⟨by omega,by omega⟩,⟨by omega,by omega⟩,?_⟩
  rw [<- aG] at M2
  have ab:=M2.len_le (by decide) (Int.lt_of_le_of_lt (Int.ofNat_le.2 (by rw [d];exact Nat.le_add_right _ _)) hb)
  rw [aX (by rw [f];omega)]
  refine ih i (by omega) u (by omega) ((D.mono (B0 m B)).take (by omega)) (by omega) (by omega) ?_
  intro A3 n3 c3 h3 E k3 M3
  refine ⟨_,_,_,rfl,E,?_⟩
  have aa:=M3.len_le (by decide) t
  refine T8 (M2.mono E) M3 R k3 (by omega) (by omega) ?_
  intro A4 n4 c4 h4 J W M4
  refine ⟨_,_,_,rfl,J,F _ _ _ _ (B0 m (B0 B (B0 E J))) W ?_⟩
  rw [<- Int.natCast_add,<- d] at M4
  exact M4
section
variable {h g:aP} {K:VP} {A XA:Option aN} {n c:Nat} {eT:cF} {l:List UInt8}
def A3d{hs:aP}{ss:List (Option aN × Nat × Nat)}{s:Option aN × Nat × Nat}(h3:∀ i s,ss[i]? = some s->s.2.1<=s.2.2/\Mw hs s.1 s.2.1 (Ih i:Int))(h4:s.2.1<=s.2.2/\Mw hs s.1 s.2.1 (Ih ss.length:Int)):∀ i t,(ss++[s])[i]? = some t->t.2.1<=t.2.2/\Mw hs t.1 t.2.1 (Ih i:Int):=by
 intro i t e
 by_cases b:i<ss.length
 ·rw [List.getElem?_append_left b] at e;exact h3 i t e
 ·rw [List.getElem?_append_right (by omega)] at e
  by_cases a:i=ss.length
  ·subst a
   simp at e
   subst e;exact h4
  ·rw [List.getElem?_eq_none (by simp;omega)] at e;cases e
def A0i{hs:aP}{b:Nat}{e:cF}: ∀ i (t:Option aN × Nat × Nat),[((some ⟨b,0,none⟩:Option aN),1,1)][i]? = some t->t.2.1<=t.2.2/\Mw (hs.put b (.cells #[U 10000000000000000000] e)) t.1 t.2.1 (Ih i:Int):=by
 intro i t a
 rcases i with _|i
 ·simp at a
  subst a
  refine ⟨bG _,[10000000000000000000],rfl,SlI.new _ _ _ _ _,?_,?_,?_⟩
  ·intro x c;simp at c;subst c;decide
  ·unfold Norm;simp
  ·rw [B25];simp [val]
 ·simp at a
def Us(hd:∀ c∈l,J2 c)(hl:l.length<=100000000)(hK:∀ A n c h',h.le h'->n<=c->Mw h' A n (N8 l:Int)->K (.slice A n c) h'):aF prog Gu #[.string (bs l)] h K:=by
 refine Xy _ ?_
 unfold Wq
 rw [L5]
 refine B8 (fun h5=>?_) (fun _=>?_)
 ·refine Bn R5 rfl ?_
  intro q o
  refine ⟨_,_,_,rfl,?_⟩
  refine Eh A82 (Priv.nil _ _ _ none) rfl rfl (by omega) (by omega) ?_
  intro A1 c1 h1 L m R
  refine ⟨fun s r=>∃ (d:List (Option aN × Nat × Nat)) (PA:Option aN) (k w:Nat) (g:aP),s=[.slice PA k w]/\Priv r g Ga 1 PA k w (d.map slT)/\d.length=k/\0<k/\h.le g/\(∀ i s,d[i]? = some s->s.2.1<=s.2.2/\Mw g s.1 s.2.1 (Ih i:Int))/\2^(k-1)<=l.length,fun s _=>match s with|[.slice _ n _]=>l.length-n|_=>0,⟨[(some ⟨q,0,none⟩,1,1)],A1,1,c1,L,rfl,R,rfl,by omega,B0 (Heap.le_put _ o) m,fun i s e=>⟨(A0i (hs:=h) (b:=q) (e:=C4) i s e).1,(A0i (hs:=h) (b:=q) (e:=C4) i s e).2.mono m⟩,by simp;omega⟩,?_⟩
  rintro PA k w r ⟨d,PA',k',X,g,hs,p,z,T,F,j,N⟩
  simp only [bD,aS,and_true] at hs
  obtain ⟨rfl,rfl,rfl⟩:=hs
  have D:k-1<27:=by
   by_cases f:k-1<27
   ·exact f
   ·have:2^27<=2^(k-1):=aI (by decide) (by omega)
    have:(2:Nat)^27=134217728:=by decide
    omega
  rw [aD,C1k (show k<=30 by omega)]
  have H:B7 ((k:Int)-1)=((k-1:Nat):Int):=by rw [C1 (by omega) (by omega)];omega
  have y:Pws r PA k:=⟨d,z,p.slV,fun i s e=>⟨(j i s e).1,(j i s e).2.mono p.le⟩⟩
  refine B8 (fun e=>absurd e (by omega)) (fun _=>B8 (fun G=>?_) (fun G=>?_))
  ·obtain ⟨a,V,f⟩:=p.slV.at (i:=k-1) (by rw [bB];omega)
   rw [bN] at f
   obtain ⟨B,M⟩:=j (k-1) (d[k-1]'(by omega)) (aE (by omega))
   generalize d[k-1]'(by omega)=s at *
   rw [H,aD,aT]
   refine ⟨a,V,by omega,by omega,_,_,_,f,?_⟩
   have E:=M.tenP_le
   refine p.call ?_
   refine I8 M M B B (by omega) (by omega) ?_
   intro A2 S c2 g2 C Q M2 h2 W
   refine ⟨_,_,_,rfl,?_⟩
   refine Eh A82 W rfl rfl (by omega) (by omega) ?_
   intro A3 c3 h3 O u Z
   have hm:2^k=2*2^(k-1):=by
    obtain ⟨i,rfl⟩:∃ i,k=i+1:=⟨k-1,by omega⟩
    rw [bL];simp;omega
   have J:k<2^k:=Nat.lt_two_pow_self
   refine ⟨⟨d++[(A2,S,c2)],A3,k+1,c3,O,rfl,?_,by simp;omega,by omega,B0 F (B0 C u),?_,?_⟩,?_⟩
   ·rw [bY];exact Z
   ·refine A3d (fun i s e=>⟨(j i s e).1,(j i s e).2.mono (B0 C u)⟩) ⟨Q,?_⟩
    rw [z,show Ih k=Ih (k-1)*Ih (k-1) by rw [<- A3c];congr 1;omega,aG]
    exact M2.mono u
   ·rw [Nat.add_sub_cancel];omega
   ·show l.length-(k+1)<l.length-k
    omega
  ·refine Ir k hd hl y p.2.1 (by omega) ?_
   intro A n c h' t f M
   exact ⟨_,_,_,rfl,hK _ _ _ _ (B0 F (B0 p.le t)) f M⟩
 ·refine Ir 0 hd hl ⟨[],rfl,SlV.nil,by simp⟩ (by omega) (by omega) ?_
  intro A n c h' t f M
  exact ⟨_,_,_,rfl,hK _ _ _ _ t f M⟩
def Yw(hd:∀ c∈l,J2 c)(hl:l.length<=100000000)(hK:∀ A n c h',h.le h'->ZI h' false A n c (N8 l:Int)->K (.agg #[.bool false,.slice A n c]) h'):aF prog Th #[.string (bs l)] h K:=by
 refine B56 _ ?_
 unfold C0e
 refine Us hd hl ?_
 intro A n c h' b a M
 refine ⟨_,_,_,rfl,hK _ _ _ _ b ⟨a,?_,?_⟩⟩
 ·rw [aC];exact M
 ·symm;rw [decide_eq_false_iff_not];omega
end
def Priv.le_put'{h g:aP}{e:cF}{s:Nat}{A:Option aN}{n c:Nat}{xs:List Value}(p:Priv h g e s A n c xs){b:Nat}(hb:h b=none)(o:Obj):g.le (g.put b o):=by
 intro k f d
 have a:k≠b:=by
  rintro rfl
  rw [p.le k f d] at hb;cases hb
 rw [C0 _ _ a];exact d
def B1s{n:Int}(h0:9223372036854775808<=n)(h1:n<18446744073709551616):B7 n=n-18446744073709551616:=by
 unfold B7 IntKind.wrap
 simp only [IntKind.signed,IntKind.bits]
 have e:n%18446744073709551616=n:=by omega
 simp only [show (2^64:Int)=18446744073709551616 from rfl,show (2^(64-1):Int)=9223372036854775808 from rfl,e]
 rw [iP (by simp;omega)]
section
variable {h g:aP} {K:VP} {A XA:Option aN} {n c:Nat} {eT:cF} {l:List UInt8}
def C4d{v xn:Nat}(hv:(v:Int)<b64^xn):(dd v).length<=20*xn:=by
 refine S6.2 ?_
 rw [Nat.pow_mul]
 have a:((v:Nat):Int)<((18446744073709551616^xn:Nat):Int):=by rw [aQ];exact hv
 exact bK (Int.ofNat_lt.1 a) (bJ (by decide) _)
def Ht{xn xc v:Nat}(gp:Gp g)(p:Priv h g eT 1 A n c (yv l))(M:Mw g XA xn (v:Int))(hxc:xn<=xc)(hx:xn<=10000000)(hn:n<=200000000)
 (hK:∀ A' n' c' e3 g' h',Ext g eT A n c l (P0 v) A' n' c' e3 g' h'->K (.slice A' n' c') h'):aF prog Au #[.slice A n c,.slice XA xn xc] h K:=by
 have h0:=M.len_zero (by decide)
 refine Wx _ _ _ _ _ _ ?_
 unfold Sh
 refine D8 (fun e=>?_) (fun e=>?_)
 ·obtain rfl:v=0:=by omega
  refine Oa (ch:=48) rfl p (by omega) ?_
  intro A' n' c' G g' h' x
  exact hK _ _ _ _ _ _ x
 ·have S:v≠0:=by omega
  refine D8 (fun O=>?_) (fun O=>?_)
  ·obtain ⟨xs,t,sx,dx,nx,E⟩:=M
   obtain ⟨w,rfl⟩:∃ w,xs=[w]:=by
    rcases xs with _|⟨w,_|⟨w',r⟩⟩
    ·simp at t;omega
    ·exact ⟨w,rfl⟩
    ·simp at t;omega
   rw [Z6] at E
   subst E
   refine (SlI.mono p.le sx).load t (by omega) (by omega) ?_
   have o:=dx v (by simp)
   refine Hs (gp.mono p.le) p (by have:(v:Int)<18446744073709551616:=o.2;omega) (by omega) ?_
   intro A' n' c' G g' h' x
   exact ⟨_,_,_,rfl,hK _ _ _ _ _ _ x⟩
  ·have ab:=C4d (M.lt (by decide))
   have ah:(pad 0 v).length<=200000000:=by rw [A8a];omega
   refine Bn R5 rfl ?_
   intro D C
   refine ⟨_,_,_,rfl,?_⟩
   have p1:=p.put C (.cells #[U 10000000000000000000] C4)
   have l1:=p.le_put' C (.cells #[U 10000000000000000000] C4)
   have w1:=fun i s e=>A0i (hs:=g) (b:=D) (e:=C4) i s e
   generalize h.put D (Obj.cells #[U 10000000000000000000] C4)=h1 at *
   generalize g.put D (Obj.cells #[U 10000000000000000000] C4)=g1 at *
   refine Bn A82 rfl ?_
   intro b2 Q
   refine ⟨_,_,_,rfl,?_⟩
   have split:∀ {z:aP} {m:List (Option aN × Nat × Nat)} {PA:Option aN} {k u:Nat} {f d:aP},Priv z f Ga 1 PA k u (m.map slT)->Priv f d eT 1 A n c (yv l)->m.length=k->g.le d->(∀ i s,m[i]? = some s->s.2.1<=s.2.2/\Mw d s.1 s.2.1 (Ih i:Int))->k<=26->
    aF prog I6 #[.slice A n c,.slice XA xn xc,I (0:Int),.slice PA k u] z (fun r X=>∃ (A1:Option aN) (n1 c1:Nat),r= .slice A1 n1 c1/\K (.slice A1 n1 c1) X):=by
    intro z m PA k u f d y F B L o j
    obtain ⟨g3,Z,q⟩:=y.swap F
    have H:=B0 L q.le
    refine Sr k (W:=0) (gp.mono H) Z (M.mono H) hxc hx ⟨m,B,q.slV,fun i s e=>⟨(o i s e).1,(o i s e).2.mono q.le⟩⟩ q.2.1 j (.inl rfl) (by omega) ?_
    intro A' n' c' G g' h' x
    refine ⟨_,_,_,rfl,hK _ _ _ G g' _ ?_⟩
    rw [A8a,<- Aw S] at x
    exact x.weak H
   refine ⟨fun s z=>∃ (m:List (Option aN × Nat × Nat)) (PA:Option aN) (k u:Nat) (f d:aP),s=[.slice PA k u]/\Priv z f Ga 1 PA k u (m.map slT)/\Priv f d eT 1 A n c (yv l)/\m.length=k/\0<k/\g.le d/\(∀ i s,m[i]? = some s->s.2.1<=s.2.2/\Mw d s.1 s.2.1 (Ih i:Int))/\2^(k-1)<=2*xn,fun s _=>match s with|[.slice _ n _]=>xn-n|_=>0,⟨[(some ⟨D,0,none⟩,1,1)],_,1,1,h1,g1,rfl,⟨by simp,by simp,.inr ⟨b2,[.slice (some ⟨D,0,none⟩) 1 1],rfl,Q,rfl,by simp,by simp⟩⟩,p1,rfl,by omega,l1,w1,by simp;omega⟩,?_⟩
   rintro PA k u z ⟨m,PA',k',ak,f,d,hs,y,F,B,ag,L,o,af⟩
   simp only [bD,aS,and_true] at hs
   obtain ⟨rfl,rfl,rfl⟩:=hs
   have j:k<=26:=by
    by_cases J:k<=26
    ·exact J
    ·have h1:2^26<=2^(k-1):=aI (by decide) (by omega)
     have h2:(2:Nat)^26=67108864:=by decide
     omega
   refine B8 (fun ai=>?_) (fun _=>split y F B L o j)
   have O:B7 ((k:Int)-1)=((k-1:Nat):Int):=by rw [C1 (by omega) (by omega)];omega
   obtain ⟨a,ha,J⟩:=y.slV.at (i:=k-1) (by rw [bB];omega)
   rw [bN] at J
   obtain ⟨h4,Mk⟩:=o (k-1) (m[k-1]'(by omega)) (aE (by omega))
   generalize m[k-1]'(by omega)=s at *
   simp only [O,aD,aT]
   refine ⟨a,ha,by omega,by omega,_,_,_,J,?_⟩
   have aj:=Mk.tenP_ge
   have ae:=Mk.tenP_le
   have G:B7 (2*(s.2.1:Int))=2*(s.2.1:Int):=C1 (by omega) (by omega)
   rw [G]
   refine B8 (fun h5=>?_) (fun _=>split y F B L o j)
   refine ⟨a,ha,by omega,by omega,_,_,_,J,?_⟩
   refine y.call (F.call ?_)
   refine I8 Mk Mk h4 h4 (by omega) (by omega) ?_
   intro A2 m2 c2 g2 l2 k2 M2 aa N ac T
   refine ⟨_,_,_,rfl,?_⟩
   refine Eh A82 T rfl rfl (by omega) (by omega) ?_
   intro A3 c3 h3 g3 H p3
   obtain ⟨g4,V,R⟩:=N.after H
   have hm:2^k=2*2^(k-1):=by
    obtain ⟨i,rfl⟩:∃ i,k=i+1:=⟨k-1,by omega⟩
    rw [bL];simp;omega
   have ad:k<2^k:=Nat.lt_two_pow_self
   refine ⟨⟨m++[(A2,m2,c2)],A3,k+1,c3,g3,g4,rfl,?_,R,by simp;omega,by omega,B0 L (B0 l2 V),?_,?_⟩,?_⟩
   ·rw [bY];exact p3
   ·refine A3d (fun i s e=>⟨(o i s e).1,(o i s e).2.mono (B0 l2 V)⟩) ⟨k2,?_⟩
    rw [B,show Ih k=Ih (k-1)*Ih (k-1) by rw [<- A3c];congr 1;omega,aG]
    exact M2.mono V
   ·rw [Nat.add_sub_cancel];omega
   ·show xn-(k+1)<xn-k
    omega
def B6t{z:Int}{s:Bool}{xn xc m:Nat}(i:ZI h s XA xn xc z)(hz:ZB m z)(hm:m<=100000000):xn<=10000000:=by
 obtain ⟨k,hk⟩:∃ k,k=10000000:=⟨_,rfl⟩
 rw [<- hk]
 refine i.mag.len_le (by decide) ?_
 rw [Ln]
 have b:(z.natAbs:Int)<2^m:=by
  have:((z.natAbs:Nat):Int)<((2^m:Nat):Int):=Int.ofNat_lt.2 hz
  simpa using this
 have a:=D4 (B:=2) (by decide) (show m<=64*k by omega)
 exact Int.lt_of_lt_of_le b a
def Ib{s:Bool}{xn xc:Nat}{z:Int}(gp:Gp g)(p:Priv h g eT 1 A n c (yv l))(i:ZI g s XA xn xc z){m:Nat}(hz:ZB m z)(hm:m<=100000000)(hn:n<=100000000)
 (hK:∀ A' n' c' e3 g' h',Ext g eT A n c l (Nl z) A' n' c' e3 g' h'->K (.slice A' n' c') h'):aF prog Iv #[.agg #[.bool s,.slice XA xn xc],.slice A n c] h K:=by
 have j:=B6t i hz hm
 refine B0z _ _ _ _ _ _ _ ?_
 unfold B53
 refine Br.of (fun e=>?_) (fun e=>?_)
 ·have a:z<0:=by have:=i.sgn;rw [e] at this;simpa using this.symm
  rw [A80 a] at hK
  refine Oa (ch:=45) rfl p (by omega) ?_
  intro A1 u c1 t w o b
  have:=b.len
  refine Ht (gp.mono b.le) b.priv (i.mag.mono b.le) i.cap j (by simp at this;omega) ?_
  intro A2 r c2 k q d f
  exact ⟨_,_,_,rfl,hK _ _ _ _ _ _ (b.trans f)⟩
 ·have a:¬ z<0:=by have:=i.sgn;rw [e] at this;simpa using this.symm
  rw [Te a] at hK
  refine Ht gp p i.mag i.cap j (by omega) ?_
  intro A2 r c2 k q d f
  exact ⟨_,_,_,rfl,hK _ _ _ _ _ _ f⟩
def A2y{s:Bool}{xn xc:Nat}{z:Int}(gp:Gp h)(i:ZI h s XA xn xc z){m:Nat}(hz:ZB m z)(hm:m<=100000000)(hK:K (.string (bs (Nl z))) h):aF prog Vj #[.agg #[.bool s,.slice XA xn xc]] h K:=by
 refine FCall.pure (B0w _ _ _ _ ?_)
 unfold B4x
 refine Ib (l:=[]) (eT:=H2) gp (Priv.nil _ _ _ _) i hz hm (by omega) ?_
 intro A' e c d b f x
 refine ⟨_,_,_,rfl,?_⟩
 have a:=x.len
 refine Nn Hr.und Ev Z7 x.priv.slV (by simpa using a) ⟨_,rfl,?_⟩
 exact ⟨B0 x.le x.priv.le,hK⟩
def A5s{s:Bool}{xn xc:Nat}{z:Int}(i:ZI h s XA xn xc z)(hK1: -9223372036854775808<=z->z<9223372036854775808->K (.tuple #[I z,.bool true]) h)(hK0:¬ (-9223372036854775808<=z/\z<9223372036854775808)->K (.tuple #[I 0,.bool false]) h):aF prog A1g #[.agg #[.bool s,.slice XA xn xc]] h K:=by
 have A:=i.zeroIff
 have j:=Bb i.sgn
 refine B51 _ _ _ _ ?_
 unfold C0c
 refine D8 (fun e=>?_) (fun e=>?_)
 ·obtain rfl:z=0:=by omega
  exact hK1 (by omega) (by omega)
 ·obtain ⟨g,a,m,q,B,b⟩:=i.mag
  have l:=O7 q 0
  refine m.load a (by omega) (by omega) ?_
  rw [show ((0:Int)).toNat=0 from rfl]
  refine B8 (fun k=>?_) (fun k=>?_)
  ·refine hK0 ?_
   have o:=i.mag.ge (by decide) (by omega)
   have u:b64^1<=b64^(xn-1):=D4 (by decide) (by omega)
   have t:b64^1=18446744073709551616:=by decide
   omega
  ·obtain ⟨w,rfl⟩:∃ w,g=[w]:=by
    rcases g with _|⟨w,_|⟨y,r⟩⟩
    ·simp at a;omega
    ·exact ⟨w,rfl⟩
    ·simp at a;omega
   rw [Z6] at b
   have n:[w].getD 0 0=w:=rfl
   rw [n] at l ⊢
   rcases j with ⟨rfl,p⟩|⟨rfl,p⟩
   ·refine Br.of (fun _=>?_) (fun d=>by cases d)
    refine B8 (fun c=>?_) (fun c=>?_)
    ·have:B7 (C3 (0-w))=z:=by rw [F6,B1s (by omega) (by omega)];omega
     rw [this];exact hK1 (by omega) (by omega)
    ·refine Br.of (fun f=>by cases f) (fun _=>?_)
     exact hK0 (by omega)
   ·refine Br.of (fun d=>by cases d) (fun _=>?_)
    refine Br.of (fun _=>?_) (fun f=>by cases f)
    refine B8 (fun c=>?_) (fun c=>?_)
    ·have:B7 w=z:=by rw [C1 (by omega) (by omega)];omega
     rw [this];exact hK1 (by omega) (by omega)
    ·exact hK0 (by omega)
end
def C1g(q:Rat)(f:Int):(q-f).num=q.num-f*q.den/\(q-f).den=q.den:=by
 have b:aR (q.num-f*q.den).natAbs q.den=1:=by
  have a:aL (q.num-f*q.den) q.den=aL q.num q.den:=Int.gcd_sub_mul_right_left _ _ _
  have c:aL q.num q.den=1:=by
   have:=q.reduced
   unfold Nat.Coprime at this
   unfold aL
   simpa using this
  rw [c] at a
  unfold aL at a
  simpa using a
 have e:q-f=⟨q.num-f*q.den,q.den,q.den_nz,b⟩:=by
  rw [Rat.sub_def',Rat.mk_eq_mkRat];simp
 rw [e];exact ⟨rfl,rfl⟩
def B36(a b:Rat):(a*b).num=a.num.tdiv (aR a.num.natAbs b.den:Nat)*b.num.tdiv (aR b.num.natAbs a.den:Nat)/\(a*b).den=a.den/(aR b.num.natAbs a.den)*(b.den/(aR a.num.natAbs b.den)):=by
 show (Rat.mul a b).num=_/\(Rat.mul a b).den=_
 delta Rat.mul
 simp only [Int.divExact_eq_tdiv,Nat.divExact_eq_div,and_self]
def Zr(a b:Rat)(h:a.den.gcd b.den=1):(a+b).num=a.num*b.den+b.num*a.den/\(a+b).den=a.den*b.den:=by
 show (cD a b).num=_/\(cD a b).den=_
 delta cD
 simp only [h,dif_pos,and_self]
def Zq(a b:Rat)(h:a.den.gcd b.den≠1){g r:Nat}{z:Int}(hg:g=a.den.gcd b.den)(hz:z=a.num*(b.den/g:Nat)+b.num*(a.den/g:Nat))(hr:r=z.natAbs.gcd g):(a+b).num=z.tdiv r/\(a+b).den=a.den/g*(b.den/r):=by
 subst hg hz
 have c:r∣b.den:=by rw [hr];exact Nat.dvd_trans (aU ..) (aU ..)
 show (cD a b).num=_/\(cD a b).den=_
 delta cD
 simp only [h,dif_neg,not_false_eq_true]
 rw [Rat.maybeNormalize_eq]
 subst hr
 refine ⟨?_,Nat.mul_div_assoc _ c⟩
 simp only [Int.divExact_eq_tdiv]
def Pk(a:Rat)(z:Int):(a+z).num=z*a.den+a.num/\(a+z).den=a.den:=by
 have:=C1g a (-z)
 rw [Rat.intCast_neg] at this
 have e:a - -(z:Rat)=a+z:=by grind
 rw [e] at this
 refine ⟨by rw [this.1,Int.neg_mul];omega,this.2⟩
def Zi{q:Rat}(h:q.den=1):q=(q.num:Rat):=by
 apply Rat.ext
 ·simp
 ·simpa using h
abbrev dgt(c:UInt8):Bool:=decide (J2 c)
def No(l:List UInt8):∀ c∈l.takeWhile dgt,J2 c:=by
 induction l with
 | nil=>simp
 | cons d r ih=>
  intro c a
  by_cases b:J2 d
  ·simp [b] at a
   rcases a with rfl|a
   ·exact b
   ·exact ih c a
  ·simp [b] at a
def B7n(l:List UInt8):Bool:=decide ([45] <+: l)
def Fc(l:List UInt8):List UInt8:=if [45] <+: l then l.drop 1 else l
def A87(l:List UInt8):l=(if B7n l then [45] else [])++Fc l:=by
 unfold B7n Fc
 by_cases h:[45] <+: l
 ·obtain ⟨t,rfl⟩:=h;simp
 ·simp [h]
def B2q(l:List UInt8):B7n l=(l.head? == some 45):=by
 unfold B7n
 cases l with
 | nil=>simp
 | cons c r=>
  rw [bC,cC,decide_eq_true_iff,beq_iff_eq,aH]
  constructor
  ·rintro ⟨t,e⟩;simp at e;exact e.1.symm
  ·rintro rfl;exact ⟨r,rfl⟩
def Form.parts{l:List UInt8}{neg:Bool}{a b:List UInt8}(f:Form l neg a b):neg=B7n l/\a=(Fc l).takeWhile dgt/\(if b=[] then [] else 47::b)=(Fc l).dropWhile dgt:=by
 have i:neg=B7n l:=by rw [B2q];exact f.head
 have e:=A87 l
 rw [<- i] at e
 have g:=e.symm.trans f.eq
 rw [List.append_assoc] at g
 have j:=cK g
 have k:∀ c,(if b=[] then [] else 47::b:List UInt8).head? = some c->¬ J2 c:=by
  intro c d
  split at d
  ·simp at d
  ·simp at d;subst d;decide
 have:=Gg f.da k
 rw [<- j] at this
 exact ⟨i,this.1.symm,this.2.symm⟩
section
variable {h g:aP} {K:VP} {l:List UInt8}
def La(hl:l.length<=1000000000)(hK:K (.tuple #[.string (bs (l.takeWhile dgt)),.string (bs (l.dropWhile dgt))]) h):aF prog Be #[.string (bs l)] h K:=by
 refine A2f _ ?_
 unfold Zu
 simp only [L5]
 refine ⟨fun L e=>L=[I (((l.takeWhile dgt).length:Nat):Int)]/\e=h,?_,?_⟩
 ·refine ⟨fun L e=>∃ k:Nat,L=[I k]/\e=h/\k<=l.length/\(∀ c∈l.take k,J2 c),fun L _=>l.length-(iAt L 0).toNat,⟨0,rfl,rfl,by omega,by simp⟩,?_⟩
  rintro n e ⟨k,j,rfl,w,g⟩
  obtain rfl:=sI1 j
  have a:(∀ c,(l.drop k).head? = some c->¬ J2 c)->[I (k:Int)]=[I (((l.takeWhile dgt).length:Nat):Int)]/\e=e:=by
   intro y
   have:=Gg g y
   rw [bF] at this
   refine ⟨?_,rfl⟩
   rw [this.1,aV,bX w]
  refine B8 (fun u=>?_) (fun u=>?_)
  ·have f:k<l.length:=by omega
   have d:(bs l)[(k:Int).toNat]? = some l[k]:=by rw [aD,Sb,aE f]
   have r:(l.drop k).head? = some l[k]:=by rw [List.head?_drop,aE f]
   refine ⟨l[k],⟨by omega,d⟩,B8 (fun t=>?_) (fun t=>?_)⟩
   ·refine ⟨l[k],⟨by omega,d⟩,B8 (fun s=>?_) (fun s=>?_)⟩
    ·rw [C1 (by omega) (by omega)]
     refine ⟨⟨k+1,rfl,rfl,by omega,?_⟩,by simp only [iAt,cJ];omega⟩
     rw [List.take_succ_eq_append_getElem f]
     intro c b
     rcases List.mem_append.1 b with i|i
     ·exact g c i
     ·rw [List.mem_singleton.1 i];exact ⟨by omega,by omega⟩
    ·exact a (fun c b=>by rw [r] at b;cases b;intro g;exact s (by have:=g.2;omega))
   ·exact a (fun c b=>by rw [r] at b;cases b;intro g;exact t (by have:=g.1;omega))
  ·exact a (fun c b=>by rw [List.drop_of_length_le (by omega)] at b;cases b)
 ·rintro n e ⟨j,rfl⟩
  obtain rfl:n=(((l.takeWhile dgt).length:Nat):Int):=by simpa using j
  have m:(l.takeWhile dgt).length<=l.length:=(cL _).length_le
  have o:l.take (l.takeWhile dgt).length=l.takeWhile dgt:=by
   conv=>lhs;rw [<- aO (p:=dgt) (l:=l)]
   rw [aO,List.prefix_iff_eq_take.1 (List.takeWhile_prefix _)]
   rw [aV,bX m]
  have q:l.drop (l.takeWhile dgt).length=l.dropWhile dgt:=by
   have z:l.takeWhile dgt++l.drop (l.takeWhile dgt).length=l.takeWhile dgt++l.dropWhile dgt:=by
    rw [aO]
    conv=>lhs;lhs;rw [<- o]
    exact bF _ _
   exact cK z
  refine ⟨⟨by omega,by omega⟩,⟨by omega,by omega⟩,?_⟩
  rw [aD,O8,O8,bH,aW,o,q,aX (by rw [<- q,List.length_drop];omega)]
  exact hK
def Fo(a:List UInt8):((bs a).toList==({ data:=#[] }:ByteArray).toList)=decide (a=[]):=Lb a []
def A9y(hl:l.length<=1000000000)(hK1:∀ neg a b,Form l neg a b->K (.tuple #[.agg #[.bool neg,.string (bs a),.string (bs b)],.bool true]) h)(hK0:(∀ neg a b,¬ Form l neg a b)->∀ neg a b,K (.tuple #[.agg #[.bool neg,.string (bs a),.string (bs b)],.bool false]) h):aF prog A1j #[.string (bs l)] h K:=by
 refine B59 _ ?_
 unfold C0h
 refine Xw (q:=[45]) ⟨_,_,rfl,?_⟩
 have B:(Fc l).length<=l.length:=by unfold Fc;split<;>simp
 show aF prog Be #[.string (bs (Fc l))] h _
 refine La (by omega) ⟨_,_,rfl,?_⟩
 show Br _ _ _
 have E:Fc l=(Fc l).takeWhile dgt++(Fc l).dropWhile dgt:=List.takeWhile_append_dropWhile.symm
 have w:∀ c∈(Fc l).takeWhile dgt,J2 c:=No _
 have k:∀ neg a b,Form l neg a b->neg=B7n l/\a=(Fc l).takeWhile dgt/\(if b=[] then [] else 47::b)=(Fc l).dropWhile dgt:=fun neg a b f=>f.parts
 have g:=A87 l
 have aa:((Fc l).takeWhile dgt).length<=l.length:=Nat.le_trans (cL _).length_le B
 have M:((Fc l).dropWhile dgt).length<=l.length:=Nat.le_trans (List.dropWhile_sublist _).length_le B
 have ab:∀ c,((Fc l).dropWhile dgt).head? = some c->¬ J2 c:=fun c V=>by
  have:=List.head?_dropWhile_not dgt (Fc l)
  rw [V] at this
  simpa using this
 show Br _ _ _
 have A:decide ([45] <+: l)=B7n l:=rfl
 rw [A]
 generalize B7n l=neg at *
 generalize (Fc l).takeWhile dgt=a at *
 generalize (Fc l).dropWhile dgt=r at *
 generalize Fc l=t at *
 subst E
 have Q:((bs a).toList==({ data:=#[48] }:ByteArray).toList)=decide (a=[48]):=Lb a [48]
 rw [Q,Fo,Fo]
 refine B8 (fun O=>?_) (fun O=>?_)
 ·subst O
  refine Br.not (Br.of (fun X=>?_) (fun X=>?_))
  ·subst X
   refine hK0 ?_ _ _ []
   intro G y i f
   obtain ⟨rfl,rfl,_⟩:=k _ _ _ f
   rcases f.ha with d|d
   ·exact d rfl
   ·cases d.2.1
  ·subst X
   by_cases H:r=[]
   ·rw [decide_eq_true H]
    subst H
    refine hK1 false [48] [] ⟨by simpa using g,by simpa using w,by simp,by simp,.inr ⟨rfl,rfl,rfl⟩,by simp,by simp⟩
   ·rw [decide_eq_false H]
    refine hK0 ?_ _ _ []
    intro G y i f
    obtain ⟨rfl,rfl,n⟩:=k _ _ _ f
    rcases f.ha with d|d
    ·exact d rfl
    ·rw [d.2.2] at n;exact H (by simpa using n.symm)
 ·refine ⟨fun L Z=>L=[.bool (decide (a=[]\/a.head? = some 48))]/\Z=h,?_,?_⟩
  ·refine B8 (fun d=>⟨by simp [d],rfl⟩) (fun d=>?_)
   obtain ⟨c,m,rfl⟩:=aJ d
   refine ⟨c,⟨by omega,by rw [Sb];rfl⟩,?_,rfl⟩
   congr 2
   rw [cC,beq_iff_eq,decide_eq_true_iff]
   simp only [reduceCtorEq,false_or,bC,aH]
   constructor
   ·intro e;apply UInt8.toNat_inj.1;show c.toNat=48;omega
   ·rintro rfl;rfl
  rintro J Z ⟨hL,rfl⟩
  obtain rfl:J=decide (a=[]\/a.head? = some 48):=by simpa using hL
  refine B8 (fun d=>?_) (fun d=>?_)
  ·refine hK0 ?_ _ _ []
   intro G y i f
   obtain ⟨rfl,rfl,_⟩:=k _ _ _ f
   rcases d with d|d
   ·exact f.ne d
   ·rcases f.ha with n|n
    ·exact n d
    ·exact O n.1
  ·have p:a≠[]:=fun e=>d (.inl e)
   have C:a.head? ≠ some 48:=fun e=>d (.inr e)
   refine B8 (fun n=>?_) (fun n=>?_)
   ·subst n
    exact hK1 neg a [] ⟨by simpa using g,w,by simp,p,.inl C,by simp,by simp⟩
   ·obtain ⟨c,m,rfl⟩:=aJ n
    refine ⟨c,⟨by omega,by rw [Sb];rfl⟩,F8 (fun h4=>?_) (fun h4=>?_)⟩
    ·refine hK0 ?_ _ _ []
     intro G y i f
     obtain ⟨rfl,rfl,o⟩:=k _ _ _ f
     by_cases z:i=[]
     ·simp [z] at o
     ·rw [iN z] at o
      simp at o
      exact h4 (by rw [<- o.1];rfl)
    ·have V:c=47:=by apply UInt8.toNat_inj.1;show c.toNat=47;omega
     subst V
     refine ⟨⟨by omega,by rw [L5];simp;omega⟩,?_⟩
     rw [O8,show ((1:Int)).toNat=1 from rfl,L5,aX (by simp),List.drop_succ_cons,bH]
     refine La (by simp at M;omega) ⟨_,_,rfl,?_⟩
     have u:m=m.takeWhile dgt++m.dropWhile dgt:=List.takeWhile_append_dropWhile.symm
     have S:∀ c∈m.takeWhile dgt,J2 c:=No _
     have N:∀ i:List UInt8,(∀ c∈i,J2 c)->i=m->m.takeWhile dgt=i/\m.dropWhile dgt=[]:=by
      intro i hd e
      subst e
      have:=Gg (r:=[]) hd (by simp)
      simpa using this
     generalize m.takeWhile dgt=b at *
     generalize m.dropWhile dgt=s at *
     have no:(s≠[]\/b=[]\/b.head? = some 48\/b=[49])->∀ neg' y i,¬ Form (((if neg=true then [45] else [])++(a++47::m))) neg' y i:=by
      rintro D G y i f
      rw [<- g] at f
      obtain ⟨rfl,rfl,o⟩:=k _ _ _ f
      by_cases z:i=[]
      ·simp [z] at o
      ·rw [iN z] at o
       simp at o
       obtain ⟨e6,e7⟩:=N i f.db o
       subst e6
       rcases D with j|j|j|j
       ·exact j e7
       ·exact z j
       ·exact f.hb j
       ·exact f.b1 j
     rw [Fo,Fo]
     have W:((bs b).toList==({ data:=#[49] }:ByteArray).toList)=decide (b=[49]):=Lb b [49]
     rw [W]
     refine B8 (fun j=>?_) (fun j=>hK0 (by rw [g];exact no (.inl j)) _ _ _)
     subst j
     rw [bZ] at u
     subst u
     refine Br.not (B8 (fun T=>hK0 (by rw [g];exact no (.inr (.inl T))) _ _ _) (fun T=>?_))
     obtain ⟨c,R,rfl⟩:=aJ T
     refine ⟨c,⟨by omega,by rw [Sb];rfl⟩,F8 (fun h8=>?_) (fun h8=>?_)⟩
     ·by_cases F:c::R=[49]
      ·rw [decide_eq_true F]
       exact hK0 (by rw [g];exact no (.inr (.inr (.inr F)))) _ _ _
      ·rw [decide_eq_false F]
       refine hK1 neg a (c::R) ⟨by simpa using g,w,S,p,.inl C,?_,F⟩
       intro e;simp at e;exact h8 (by rw [e];rfl)
     ·have hh:(c::R).head? = some 48:=by
       simp only [bC,aH]
       apply UInt8.toNat_inj.1;show c.toNat=48;omega
      exact hK0 (by rw [g];exact no (.inr (.inr (.inl hh)))) _ _ _
end
def B6z{q:Rat}(h:q.den=1):K4 q=Nl q.num:=by unfold K4;rw [iP h,bZ]
def B22{q:Rat}(h:q.den≠1):K4 q=Nl q.num++[47]++Nl (q.den:Int):=by
 unfold K4;rw [iN h,Te (i:=(q.den:Int)) (by omega),aC];simp
section
variable {h g:aP} {K:VP} {l:List UInt8}
end
structure RQ (h:aP) (w:QV) (q:Rat):Prop where
 num:ZI h w.s w.A w.n w.c q.num
 den:ZI h w.s2 w.A2 w.n2 w.c2 (if q.den=1 then 0 else (q.den:Int))
def ZB.gcd{m:Nat}{x y:Int}(hy:y≠0)(h:ZB m y):ZB m (aL x y:Int):=by
 refine h.le ?_
 rw [aC]
 exact cG (by omega) (Int.natAbs_dvd_natAbs.2 (Int.gcd_dvd_right x y))
section
variable {h h':aP} {K:VP} {A B:Option aN} {n c n' c':Nat} {s s':Bool} {x y z:Int} {m:Nat} {p q:Rat} {a b w:QV} {l:List UInt8}
def RQ.mono(hl:h.le h')(i:RQ h w q):RQ h' w q:=⟨i.num.mono hl,i.den.mono hl⟩
def RQ.whole(i:ZI h s A n c z):RQ h ⟨s,A,n,c,false,none,0,0⟩ (z:Rat):=⟨by simpa using i,by simpa using ZI.zero⟩
def RQ.zero:RQ h ⟨false,none,0,0,false,none,0,0⟩ 0:=⟨ZI.zero,ZI.zero⟩
def V8(i:RQ h w q)(hK:K (.bool (decide (q.den=1))) h):aF prog F0 #[.agg #[.bool w.s2,.slice w.A2 w.n2 w.c2]] h K:=by
 refine F5 i.den ?_
 have:=q.den_nz
 have e:decide ((if q.den=1 then (0:Int) else (q.den:Int))=0)=decide (q.den=1):=by
  rw [decide_eq_decide];split<;>omega
 rw [e];exact hK
def V4(i:ZI h s A n c z)(j:ZI h s' B n' c' y)(h1:q.num=z)(h2:(q.den:Int)=y)(hK:∀ w,RQ h w q->K w.v h):aF prog Y6 #[.agg #[.bool s,.slice A n c],.agg #[.bool s',.slice B n' c']] h K:=by
 subst h1 h2
 refine B12 _ _ _ _ _ _ _ _ ?_
 unfold B5b
 refine V3 j ⟨_,rfl,B8 (fun e=>?_) (fun e=>?_)⟩
 ·exact hK ⟨s,A,n,c,false,none,0,0⟩ ⟨i,by rw [iP (by omega)];exact ZI.zero⟩
 ·exact hK ⟨s,A,n,c,s',B,n',c'⟩ ⟨i,by rw [iN (by omega)];exact j⟩
def Fb(i:RQ h w q)(hK:∀ s A n c h',h.le h'->ZI h' s A n c (q.den:Int)->K (.agg #[.bool s,.slice A n c]) h'):aF prog Rx #[w.v] h K:=by
 refine C2x _ _ _ _ _ _ _ _ ?_
 unfold C7o
 refine V8 i ⟨_,rfl,B8 (fun e=>?_) (fun e=>?_)⟩
 ·refine Db (by decide) (by decide) ?_
  intro s A n c d a b
  exact ⟨_,_,_,_,rfl,hK _ _ _ _ _ a (by rw [e];exact b)⟩
 ·have:=i.den
  rw [iN e] at this
  exact hK _ _ _ _ _ (B5 _) this
def Wf(gl:Gtz h)(i:ZI h s A n c x)(j:ZI h s' B n' c' y)(hx:ZB m x)(hy:ZB m y)(hm:m<=6400000000)(hy0:0<y)(hK:∀ s1 A1 n1 c1 s2 A2 n2 c2 h',h.le h'->ZI h' s1 A1 n1 c1 (x.tdiv (aL x y))->ZI h' s2 A2 n2 c2 (y.tdiv (aL x y))->K (.tuple #[.agg #[.bool s1,.slice A1 n1 c1],.agg #[.bool s2,.slice A2 n2 c2]]) h'):aF prog On #[.agg #[.bool s,.slice A n c],.agg #[.bool s',.slice B n' c']] h K:=by
 refine B13 _ _ _ _ _ _ _ _ ?_
 unfold B5c
 refine V3 j ⟨_,rfl,B8 (fun e=>?_) (fun e=>?_)⟩
 ·subst e
  have k:aL x 1=1:=by simp
  rw [k] at hK
  exact hK _ _ _ _ _ _ _ _ _ (B5 _) (by simpa using i) (by simpa using j)
 ·refine Dd gl i j hx hy hm ?_
  intro A1 n1 c1 q d g
  have k:=Int.gcd_pos_of_ne_zero_right x (show y≠0 by omega)
  have a:ZB m (aL x y:Int):=ZB.gcd (by omega) hy
  refine ⟨_,_,_,_,rfl,R7 (i.mono d) g hx a hm (by omega) ?_⟩
  intro s2 A2 n2 c2 u b o
  refine ⟨_,_,_,_,rfl,b,R7 (j.mono (B0 d b)) (g.mono b) hy a hm (by omega) ?_⟩
  intro p A3 r c3 t f l
  exact ⟨_,_,_,_,rfl,f,hK _ _ _ _ _ _ _ _ _ (B0 d (B0 b f)) (o.mono f) l⟩
def B02(i:RQ h w q)(hK:∀ w',RQ h w' (-q)->K w'.v h):aF prog B3w #[w.v] h K:=by
 refine C2u _ _ _ _ _ _ _ _ ?_
 unfold C7l
 refine Dc i.num ?_
 intro a b
 exact ⟨_,_,_,_,rfl,B5 _,hK ⟨a,w.A,w.n,w.c,w.s2,w.A2,w.n2,w.c2⟩ ⟨by simpa using b,by simpa using i.den⟩⟩
def Uj(i:RQ h w q)(hK:K (I q.num.sign) h):aF prog A1k #[w.v] h K:=by
 refine B8n _ _ _ _ _ _ _ _ ?_
 unfold C4p
 exact Qa i.num ⟨_,rfl,hK⟩
def Rr(i:RQ h w q)(hK:K (.bool (decide (q=0))) h):aF prog Oo #[w.v] h K:=by
 refine B16 _ _ _ _ _ _ _ _ ?_
 unfold B5h
 refine F5 i.num ⟨_,rfl,?_⟩
 have e:decide (q.num=0)=decide (q=0):=by rw [decide_eq_decide];exact aZ
 rw [e];exact hK
def Yt(gl:Gtz h)(i:RQ h a p)(j:RQ h b q)(hp:Sz m p)(hq:Sz m q)(hm:2*m+1<=6400000000)(hK:∀ w h',h.le h'->RQ h' w (p+q)->K w.v h'):aF prog A8p #[a.v,b.v] h K:=by
 have aq:=p.den_nz
 have ap:=q.den_nz
 have M:∀ {z:Int},ZB m z->ZB (2*m+1) z:=fun s=>s.mono (by omega)
 refine C2y _ _ _ _ _ _ _ _ _ _ _ _ _ _ _ _ ?_
 unfold C7p
 refine ⟨fun L hp=>L=[.bool (decide (p.den=1/\q.den=1))]/\hp=h,V8 i ⟨_,rfl,B8 (fun e=>?_) (fun e=>?_)⟩,?_⟩
 ·exact V8 j ⟨_,rfl,by simp [e],rfl⟩
 ·exact ⟨by simp [e],rfl⟩
 rintro ah ag ⟨hL,rfl⟩
 obtain rfl:ah=decide (p.den=1/\q.den=1):=by simpa using hL
 refine B8 (fun e=>?_) (fun e=>?_)
 ·refine Es i.num j.num hp.num hq.num (by omega) ?_
  intro s1 A1 n1 c1 h1 f N
  refine ⟨_,_,_,_,rfl,hK ⟨s1,A1,n1,c1,false,none,0,0⟩ _ f ?_⟩
  have:=RQ.whole N
  rw [Rat.intCast_add,<- Zi e.1,<- Zi e.2] at this
  exact this
 ·refine ⟨fun L hp=>L=[.bool (decide (p.den=1))]/\hp=ag,V8 i ⟨_,rfl,rfl,rfl⟩,?_⟩
  rintro af am ⟨hL,rfl⟩
  obtain rfl:af=decide (p.den=1):=by simpa using hL
  refine B8 (fun J=>?_) (fun J=>?_)
  ·have ai:q.den≠1:=fun O=>e ⟨J,O⟩
   have jd:=j.den
   rw [iN ai] at jd
   refine N2 i.num jd hp.num hq.den (by omega) ?_
   intro s1 A1 n1 c1 h1 f N
   refine ⟨_,_,_,_,rfl,f,Es (m:=2*m+1) N (j.num.mono f) ((hp.num.mul hq.den).mono (by omega)) (M hq.num) hm ?_⟩
   intro s2 A2 n2 c2 h2 l i2
   have c:=Pk q p.num
   rw [<- Zi J,Rat.add_comm] at c
   refine ⟨_,_,_,_,rfl,l,hK ⟨s2,A2,n2,c2,b.s2,b.A2,b.n2,b.c2⟩ _ (B0 f l) ⟨by rw [c.1];exact i2,?_⟩⟩
   rw [c.2]
   exact j.den.mono (B0 f l)
  ·refine V8 j ⟨_,rfl,B8 (fun O=>?_) (fun O=>?_)⟩
   ·have d:=i.den
    rw [iN J] at d
    refine N2 j.num d hq.num hp.den (by omega) ?_
    intro s1 A1 n1 c1 h1 f N
    refine ⟨_,_,_,_,rfl,f,Es (m:=2*m+1) N (i.num.mono f) ((hq.num.mul hp.den).mono (by omega)) (M hp.num) hm ?_⟩
    intro s2 A2 n2 c2 h2 l i2
    have c:=Pk p q.num
    rw [<- Zi O] at c
    refine ⟨_,_,_,_,rfl,l,hK ⟨s2,A2,n2,c2,a.s2,a.A2,a.n2,a.c2⟩ _ (B0 f l) ⟨by rw [c.1];exact i2,?_⟩⟩
    rw [c.2]
    exact i.den.mono (B0 f l)
   ·have d:=i.den
    have o:=j.den
    rw [iN J] at d
    rw [iN O] at o
    refine Dd gl d o hp.den hq.den (by omega) ?_
    intro A1 n1 c1 h1 f G
    rw [Int.gcd_natCast_natCast] at G
    obtain ⟨g,hg⟩:∃ g,g=p.den.gcd q.den:=⟨_,rfl⟩
    rw [<- hg] at G
    have X:0<g:=by rw [hg];exact Nat.gcd_pos_of_pos_left _ (by omega)
    have aj:g∣q.den:=by rw [hg];exact aU ..
    have u:ZB m (g:Int):=hq.den.le (by simpa using cG (by omega) aj)
    refine ⟨_,_,_,_,rfl,R7 (o.mono f) G hq.den u (by omega) (by omega) ?_⟩
    intro s2 A2 n2 c2 h2 l il
    rw [<- bI] at il
    refine ⟨_,_,_,_,rfl,l,R7 (d.mono (B0 f l)) (G.mono l) hp.den u (by omega) (by omega) ?_⟩
    intro s3 A3 n3 c3 h3 S ir
    rw [<- bI] at ir
    have E:ZB m ((q.den/g:Nat):Int):=hq.den.le (by rw [aC,aC];exact aK _ _)
    have t:ZB m ((p.den/g:Nat):Int):=hp.den.le (by rw [aC,aC];exact aK _ _)
    have F:=B0 f (B0 l S)
    refine ⟨_,_,_,_,rfl,S,N2 (i.num.mono F) (il.mono S) hp.num E (by omega) ?_⟩
    intro s4 A4 n4 c4 h4 C i4
    refine ⟨_,_,_,_,rfl,C,N2 (j.num.mono (B0 F C)) (ir.mono C) hq.num t (by omega) ?_⟩
    intro s5 A5 n5 c5 h5 H i5
    refine ⟨_,_,_,_,rfl,H,Es (m:=2*m) (i4.mono H) i5 ((hp.num.mul E).mono (by omega)) ((hq.num.mul t).mono (by omega)) (by omega) ?_⟩
    intro s6 A6 n6 c6 h6 Q Z
    obtain ⟨z,s⟩:∃ z,z=p.num*((q.den/g:Nat):Int)+q.num*((p.den/g:Nat):Int):=⟨_,rfl⟩
    rw [<- s] at Z
    have V:ZB (2*m+1) z:=by
     rw [s]
     exact ((hp.num.mul E).mono (show m+m<=2*m by omega)).add ((hq.num.mul t).mono (show m+m<=2*m by omega))
    have k:=B0 F (B0 C (B0 H Q))
    refine ⟨_,_,_,_,rfl,Q,F5 Z ⟨_,rfl,B8 (fun D=>?_) (fun D=>?_)⟩⟩
    ·have:p+q=0:=by
      rw [<- aZ]
      by_cases y:p.den.gcd q.den=1
      ·have:=(Zr p q y).1
       rw [<- hg] at y
       rw [y,bU,bU] at s
       rw [this,<- s,D]
      ·have:=(Zq p q y hg s rfl).1
       rw [this,D];simp
     rw [this] at hK
     exact hK ⟨false,none,0,0,false,none,0,0⟩ _ k RQ.zero
    ·refine V3 (G.mono (B0 l (B0 S (B0 C (B0 H Q))))) ⟨_,rfl,B8 (fun ab=>?_) (fun ab=>?_)⟩
     ·have n:g=1:=by omega
      have c:=Zr p q (by rw [<- hg];exact n)
      rw [n,bU,bU] at s
      refine N2 (d.mono k) (o.mono k) hp.den hq.den (by omega) ?_
      intro s7 A7 n7 c7 h7 A R
      refine ⟨_,_,_,_,rfl,A,V4 (q:=p+q) (Z.mono A) R (by rw [c.1,s]) (by rw [c.2,aG]) ?_⟩
      intro w iw
      exact ⟨_,_,_,_,_,_,_,_,rfl,B5 _,hK _ _ (B0 k A) iw⟩
     ·have n:p.den.gcd q.den≠1:=by rw [<- hg];omega
      obtain ⟨r,hr⟩:∃ r,r=z.natAbs.gcd g:=⟨_,rfl⟩
      have c:=Zq p q n hg s hr
      have ak:0<r:=by rw [hr];exact Nat.gcd_pos_of_pos_right _ X
      have ae:r<=g:=by rw [hr];exact cG X (aU ..)
      have aa:=G.mono (B0 l (B0 S (B0 C (B0 H Q))))
      refine Dd (gl.mono k) Z aa V (M u) hm ?_
      intro A7 n7 c7 h7 A R
      have e7:aL z (g:Int)=r:=hr.symm
      rw [e7] at R
      have W:ZB m (r:Int):=u.le (by simpa using ae)
      refine ⟨_,_,_,_,rfl,R7 (Z.mono A) R V (M W) hm (by omega) ?_⟩
      intro s8 A8 n8 c8 h8 T i8
      refine ⟨_,_,_,_,rfl,T,R7 (o.mono (B0 k (B0 A T))) (R.mono T) hq.den W (by omega) (by omega) ?_⟩
      intro s9 A9 n9 c9 h9 l9 i9
      rw [<- bI] at i9
      have ad:ZB m ((q.den/r:Nat):Int):=hq.den.le (by rw [aC,aC];exact aK _ _)
      refine ⟨_,_,_,_,rfl,l9,N2 (ir.mono (B0 C (B0 H (B0 Q (B0 A (B0 T l9)))))) i9 t ad (by omega) ?_⟩
      intro ao A10 ar an al B ac
      refine ⟨_,_,_,_,rfl,B,V4 (q:=p+q) (i8.mono (B0 l9 B)) ac c.1 (by rw [c.2,aG]) ?_⟩
      intro w iw
      exact ⟨_,_,_,_,_,_,_,_,rfl,B5 _,hK _ _ (B0 k (B0 A (B0 T (B0 l9 B)))) iw⟩
def B00(gl:Gtz h)(i:RQ h a p)(j:RQ h b q)(hp:Sz m p)(hq:Sz m q)(hm:2*m+1<=6400000000)(hK:∀ w h',h.le h'->RQ h' w (p-q)->K w.v h'):aF prog A8n #[a.v,b.v] h K:=by
 refine C2s _ _ _ _ _ _ _ _ _ _ _ _ _ _ _ _ ?_
 unfold C7j
 refine B02 j ?_
 intro f e
 refine ⟨_,_,_,_,_,_,_,_,rfl,B5 _,Yt gl i e hp hq.neg hm ?_⟩
 intro g k c d
 rw [<- Rat.sub_eq_add_neg] at d
 exact ⟨_,_,_,_,_,_,_,_,rfl,c,hK _ _ c d⟩
end
structure Gl (h:aP):Prop where
 tz:Gtz h
 p10:Gp h
def Gl.mono{h h':aP}(g:Gl h)(l:h.le h'):Gl h':=⟨g.tz.mono l,g.p10.mono l⟩
section
variable {h h':aP} {K:VP} {A B:Option aN} {n c n' c':Nat} {s s':Bool} {x y z:Int} {m:Nat} {p q:Rat} {a b w:QV} {l:List UInt8}
def Ys(gl:Gtz h)(i:RQ h a p)(j:RQ h b q)(hp:Sz m p)(hq:Sz m q)(hm:m<=6400000000)(hK:∀ w h',h.le h'->RQ h' w (p*q)->K w.v h'):aF prog A8o #[a.v,b.v] h K:=by
 have H:=p.den_nz
 have W:=q.den_nz
 refine C2v _ _ _ _ _ _ _ _ _ _ _ _ _ _ _ _ ?_
 unfold C7m
 refine ⟨fun L hp=>L=[.bool (decide (p.num=0\/q.num=0))]/\hp=h,F5 i.num ⟨_,rfl,B8 (fun e=>?_) (fun e=>?_)⟩,?_⟩
 ·exact ⟨by simp [e],rfl⟩
 ·exact F5 j.num ⟨_,rfl,by simp [e],rfl⟩
 rintro s t ⟨u,rfl⟩
 obtain rfl:s=decide (p.num=0\/q.num=0):=by simpa using u
 refine B8 (fun e=>?_) (fun e=>?_)
 ·have:p*q=0:=by
   rw [aZ,aZ] at e
   exact Rat.mul_eq_zero.2 e
  rw [this] at hK
  exact hK ⟨false,none,0,0,false,none,0,0⟩ _ (B5 _) RQ.zero
 ·refine ⟨fun L hp=>L=[.bool (decide (p.den=1/\q.den=1))]/\hp=t,V8 i ⟨_,rfl,B8 (fun e=>?_) (fun e=>?_)⟩,?_⟩
  ·exact V8 j ⟨_,rfl,by simp [e],rfl⟩
  ·exact ⟨by simp [e],rfl⟩
  rintro r O ⟨u,rfl⟩
  obtain rfl:r=decide (p.den=1/\q.den=1):=by simpa using u
  refine B8 (fun e=>?_) (fun e=>?_)
  ·refine N2 i.num j.num hp.num hq.num hm ?_
   intro B A1 C c1 J f M
   refine ⟨_,_,_,_,rfl,hK ⟨B,A1,C,c1,false,none,0,0⟩ _ f ?_⟩
   have:=RQ.whole M
   rw [Rat.intCast_mul,<- Zi e.1,<- Zi e.2] at this
   exact this
  ·have g:=B36 p q
   refine Fb j ?_
   intro B A1 C c1 J f R
   refine ⟨_,_,_,_,rfl,f,Wf (gl.mono f) (i.num.mono f) R hp.num hq.den hm (by omega) ?_⟩
   intro X A2 n2 c2 s3 A3 Z c3 h2 D E z
   have c:=B0 f D
   refine ⟨_,_,_,_,_,_,_,_,rfl,D,Fb (i.mono c) ?_⟩
   intro s4 A4 n4 c4 h4 d n
   refine ⟨_,_,_,_,rfl,d,Wf (gl.mono (B0 c d)) (j.num.mono (B0 c d)) n hq.num hp.den hm (by omega) ?_⟩
   intro s5 A5 n5 c5 s6 A6 n6 c6 h5 l A y
   have F:aL p.num (q.den:Int)=aR p.num.natAbs q.den:=rfl
   have N:aL q.num (p.den:Int)=aR q.num.natAbs p.den:=rfl
   rw [F] at E z
   rw [N] at A y
   rw [<- bI] at z y
   refine ⟨_,_,_,_,_,_,_,_,rfl,l,N2 (E.mono (B0 d l)) A hp.num.tdiv hq.num.tdiv hm ?_⟩
   intro s7 A7 n7 c7 h7 k T
   have G:ZB m ((p.den/aR q.num.natAbs p.den:Nat):Int):=hp.den.le (by rw [aC,aC];exact aK _ _)
   have S:ZB m ((q.den/aR p.num.natAbs q.den:Nat):Int):=hq.den.le (by rw [aC,aC];exact aK _ _)
   refine ⟨_,_,_,_,rfl,k,N2 (y.mono k) (z.mono (B0 d (B0 l k))) G S hm ?_⟩
   intro s8 A8 n8 c8 h8 o V
   refine ⟨_,_,_,_,rfl,o,V4 (q:=p*q) (T.mono o) V g.1 (by rw [g.2,aG]) ?_⟩
   intro w Q
   exact ⟨_,_,_,_,_,_,_,_,rfl,B5 _,hK _ _ (B0 c (B0 d (B0 l (B0 k o)))) Q⟩
def A0r(i:RQ h w q)(hK:∀ w h',h.le h'->RQ h' w q⁻¹->K w.v h'):aF prog Qr #[w.v] h K:=by
 have p:=q.den_nz
 refine A7k _ _ _ _ _ _ _ _ ?_
 unfold A9d
 refine Qa i.num ⟨_,rfl,D8 (fun e=>?_) (fun e=>?_)⟩
 ·have c:q.num=0:=Int.sign_eq_zero_iff_zero.1 e
  have:q⁻¹=0:=by rw [Rat.num_eq_zero.1 c];exact Rat.inv_zero
  rw [this] at hK
  exact hK ⟨false,none,0,0,false,none,0,0⟩ _ (B5 _) RQ.zero
 ·have c:q.num≠0:=fun l=>e (by rw [l];rfl)
  refine D8 (fun f=>?_) (fun f=>?_)
  ·have k:q.num<0:=Int.sign_neg_iff.1 (by omega)
   refine Fb i ?_
   intro n A1 o c1 a b g
   refine ⟨_,_,_,_,rfl,b,Dc g ?_⟩
   intro s r
   refine ⟨_,_,_,_,rfl,B5 _,Dc (i.num.mono b) ?_⟩
   intro t m
   refine ⟨_,_,_,_,rfl,B5 _,V4 (q:=q⁻¹) r m ?_ ?_ ?_⟩
   ·rw [Rat.num_inv,f];omega
   ·rw [Rat.den_inv,iN c];omega
   ·intro w j
    exact ⟨_,_,_,_,_,_,_,_,rfl,B5 _,hK _ _ b j⟩
  ·have d:0<q.num:=by
    rcases Int.lt_trichotomy q.num 0 with a|a|a
    ·exact absurd (Int.sign_eq_neg_one_of_neg a) f
    ·exact absurd a c
    ·exact a
   refine Fb i ?_
   intro n A1 o c1 a b g
   refine ⟨_,_,_,_,rfl,b,V4 (q:=q⁻¹) g (i.num.mono b) ?_ ?_ ?_⟩
   ·rw [Rat.num_inv,Int.sign_eq_one_of_pos d,Int.one_mul]
   ·rw [Rat.den_inv,iN c];omega
   ·intro w j
    exact ⟨_,_,_,_,_,_,_,_,rfl,B5 _,hK _ _ b j⟩
def Ke(gl:Gtz h)(i:RQ h a p)(j:RQ h b q)(hp:Sz m p)(hq:Sz m q)(hm1:1<=m)(hm:m<=6400000000)(hK:∀ w h',h.le h'->RQ h' w (p/q)->K w.v h'):aF prog Zg #[a.v,b.v] h K:=by
 refine C2w _ _ _ _ _ _ _ _ _ _ _ _ _ _ _ _ ?_
 unfold C7n
 refine A0r j ?_
 intro k g c f
 refine ⟨_,_,_,_,_,_,_,_,rfl,c,Ys (gl.mono c) (i.mono c) f hp (hq.inv hm1) hm ?_⟩
 intro l n d e
 rw [<- Rat.div_def] at e
 exact ⟨_,_,_,_,_,_,_,_,rfl,d,hK _ _ (B0 c d) e⟩
def A23{t:List UInt8}{k:Nat}(h:∀ c∈t,J2 c)(hk:t.length<=k):ZB (4*k) (N8 t:Int):=by
 unfold ZB
 rw [aC]
 exact bK (Dm h) (aI (by decide) (by omega))
def Form.lens{neg:Bool}{a b:List UInt8}(f:Form l neg a b):a.length<=l.length/\b.length<=l.length:=by
 have:=congrArg List.length f.eq
 simp only [aM] at this
 by_cases c:b=[]
 ·rw [iP c] at this;subst c;simp at this ⊢;omega
 ·rw [iN c] at this;simp at this;omega
def B04(gl:Gtz h)(hl:l.length<=100000000)(hK1:∀ q,l=K4 q->∀ w h',h.le h'->RQ h' w q->K (.tuple #[w.v,.bool true]) h')(hK0:¬ IsNum l->∀ (w:QV) h',h.le h'->RQ h' w 0->K (.tuple #[w.v,.bool false]) h'):aF prog A6x #[.string (bs l)] h K:=by
 refine B8m _ ?_
 unfold C4o
 refine A9y (by omega) ?_ ?_
 ·intro neg a b f
  refine ⟨_,_,_,_,rfl,Br.not ?_⟩
  have Q:=f.lens
  refine Yw f.da (by omega) ?_
  intro A1 H c1 J r M
  refine ⟨_,_,_,_,rfl,?_⟩
  refine ⟨fun L V=>∃ g:Bool,L=[.bool g,.slice A1 H c1,.bool false,.slice none 0 0]/\V=J/\ZI J g A1 H c1 (Xk neg a),Br.of (fun e=>?_) (fun e=>?_),?_⟩
  ·refine Dc M ?_
   intro g p
   exact ⟨_,_,_,_,rfl,g,rfl,rfl,by unfold Xk;rw [e];exact p⟩
  ·exact ⟨false,rfl,rfl,by unfold Xk;rw [e];exact M⟩
  rintro F m o n x2 T W aa Z ⟨g,O,rfl,p⟩
  simp only [bD,aS,Value.bool.injEq,and_true] at O
  obtain ⟨rfl,⟨rfl,rfl,rfl⟩,rfl,rfl,rfl,rfl⟩:=O
  have c:(Xk neg a).natAbs=N8 a:=by unfold Xk;split<;>simp
  rw [Fo]
  refine B8 (fun t=>?_) (fun t=>?_)
  ·subst t
   obtain ⟨q,i⟩:=f.isNum.2 (by unfold Zh;simp)
   obtain ⟨z,u⟩:=f.of_txt i
   refine hK1 q i ⟨F,m,o,n,false,none,0,0⟩ _ r ⟨by rw [z];exact p,?_⟩
   rw [u,show Zh []=1 from rfl,iP rfl];exact ZI.zero
  ·refine Yw f.db (by omega) ?_
   intro A4 S c4 h4 j N
   have y:ZB (4*l.length) (Xk neg a):=(A23 f.da (k:=l.length) (by omega)).le (by rw [c,aC];exact bG _)
   refine ⟨_,_,_,_,rfl,Dd (gl.mono (B0 r j)) (p.mono j) N y (A23 f.db (k:=l.length) (by omega)) (by omega) ?_⟩
   intro A5 n5 c5 h5 s R
   refine ⟨_,_,_,_,rfl,V3 R ⟨_,rfl,?_⟩⟩
   have d:Zh b=N8 b:=by unfold Zh;rw [iN t]
   have A:aL (Xk neg a) (N8 b:Int)=aR (N8 a) (Zh b):=by
    rw [d];show aR (Xk neg a).natAbs (N8 b)=_;rw [c]
   rw [A]
   refine Br.not (B8 (fun E=>?_) (fun E=>?_))
   ·obtain ⟨q,i⟩:=f.isNum.2 (by omega)
    obtain ⟨z,u⟩:=f.of_txt i
    have B:Zh b≠1:=by
     intro X
     have D:=Pg f.db t (.inl f.hb)
     rw [<- d,X] at D
     apply f.b1
     rw [<- D];simp [P0,Cd,K7,dch]
    refine hK1 q i ⟨F,m,o,n,false,A4,S,c4⟩ _ (B0 r (B0 j s)) ⟨by rw [z];exact p.mono (B0 j s),?_⟩
    rw [u,iN B,d];exact N.mono s
   ·refine hK0 ?_ ⟨false,none,0,0,false,none,0,0⟩ _ (B0 r (B0 j s)) RQ.zero
    intro C
    exact E (by rw [f.isNum.1 C];rfl)
 ·intro hf neg a b
  refine ⟨_,_,_,_,rfl,Br.not ?_⟩
  refine hK0 ?_ ⟨false,none,0,0,false,none,0,0⟩ _ (B5 _) RQ.zero
  intro C
  obtain ⟨G,a',b',f⟩:=C.form
  exact hf _ _ _ f
def Io(gp:Gp h)(i:RQ h w q)(hq:Sz m q)(hm:m<=40000000)(hK:K (.string (bs (K4 q))) h):aF prog Iw #[w.v] h K:=by
 refine FCall.pure (B14 _ _ _ _ _ _ _ _ ?_)
 unfold B5f
 refine V8 i ⟨_,rfl,B8 (fun e=>?_) (fun e=>?_)⟩
 ·rw [B6z e] at hK
  refine A5s i.num (fun f k=>?_) (fun f=>?_)
  ·refine ⟨_,_,rfl,Br.of (fun _=>A7i _ ?_) (fun e=>by cases e)⟩
   unfold A9c
   exact Xs gp f k ⟨_,rfl,_,rfl,B5 _,hK⟩
  ·refine ⟨_,_,rfl,Br.of (fun e=>by cases e) (fun _=>?_)⟩
   exact A2y gp i.num hq.num (by omega) ⟨_,rfl,B5 _,hK⟩
 ·rw [B22 e] at hK
  have c:=i.den
  rw [iN e] at c
  refine Ib (l:=[]) (eT:=H2) gp (Priv.nil _ _ _ _) i.num hq.num (by omega) (by omega) ?_
  intro A1 z c1 s A f d
  refine ⟨_,_,_,rfl,?_⟩
  have r:(Nl q.num).length<=50000000:=by
   unfold Nl
   have:=Dn hq.num
   split<;>simp<;>omega
  have p:=d.len
  refine Oa (ch:=47) rfl d.priv (by omega) ?_
  intro A2 E c2 D u k o
  have b:=d.trans o
  have g:=b.len
  rw [aM,List.length_singleton] at g
  refine Ib (gp.mono b.le) o.priv (c.mono b.le) hq.den (by omega) (by omega) ?_
  intro A3 t c3 C B y n
  refine ⟨_,_,_,rfl,?_⟩
  rw [List.append_assoc] at n
  have a:=b.trans n
  have j:=a.len
  refine Nn Hr.und Ev Z7 a.priv.slV (by simpa using j) ⟨_,rfl,?_⟩
  refine ⟨B0 a.le a.priv.le,?_⟩
  simpa using hK
end
structure Tx (m:Nat) (l:List UInt8):Prop where
 len:l.length<=100000000
 sz:Sz m (rv l)
def B70{m:Nat}{z:Int}(h:ZB m z):(Nl z).length<=m+2:=by
 have:=Dn h
 unfold Nl;split
 ·rw [List.length_cons];omega
 ·omega
def A0g{m:Nat}{q:Rat}(h:Sz m q):(K4 q).length<=2*m+4:=by
 have b:=B70 h.num
 have a:=Dn (n:=q.den) (m:=m) (by have:=h.den;unfold ZB at this;simpa using this)
 unfold K4
 split
 ·simp;omega
 ·simp;omega
def B21(q:Rat):∃ c r,K4 q=c::r/\(c=45↔q<0):=by
 have f:=Ig q
 have a:K4 q≠[]:=by
  intro e
  have:=f.eq
  rw [e] at this
  have d:=f.ne
  have:=congrArg List.length this
  simp only [aM,List.length_nil] at this
  exact d (bV (by omega))
 obtain ⟨c,r,e⟩:=aJ a
 refine ⟨c,r,e,?_⟩
 have b:=f.head
 rw [e,bC,cC,decide_eq_true_iff,beq_iff_eq,aH] at b
 rw [<- b,Rat.lt_iff];simp
section
variable {h:aP} {K:VP} {m:Nat} {a b:List UInt8}
end
def C6s(h:aP)(r:Value)(h':aP):Prop:=r= .bool true/\h.le h'
def B7i{x:List UInt8}{k:Nat}(hl:x.length<=k)(hk:1<=k):Sz (4*k) (rv x):=by
 by_cases d:IsNum x
 ·obtain ⟨neg,a,b,f⟩:=d.form
  obtain ⟨g,i⟩:=f.rv_num d
  have e:=f.lens
  have c:(Xk neg a).natAbs=N8 a:=by unfold Xk;split<;>simp
  refine ⟨?_,?_⟩
  ·rw [g];exact (A23 f.da (k:=k) (by omega)).le (by rw [c,aC];exact bG _)
  ·rw [i]
   unfold Zh
   split
   ·exact ZB.one (by omega)
   ·exact A23 f.db (by omega)
 ·rw [B9l d];exact Sz.zero (by omega)
end Go.Proofs.YtmbfcbbkbefgfaaGreatDoor
namespace Go.Proofs.YtmbfcbbkbefgfaaGreatDoor
set_option maxRecDepth 20000
open Go Go.RowKit
def memOf(W:World):aP:=fun b=>W.heap[b]?
def frame_of{P:Program}{f:FuncId}{args:Array Value}{W:World}(x:aF P f args (memOf W) (C6s (memOf W))):Calls P f args W fun e w'=>e= .returned (.bool true)/\Below W.heap.size W w':=by
 refine (x W (fun b o e=>e)).mono ?_
 rintro e W' ⟨r,l,i,⟨j,c⟩,a⟩
 subst j
 refine ⟨i,a.os,a.tape,a.output,a.size,fun k g=>?_⟩
 have d:memOf W k=some W.heap[k]:=Array.getElem?_eq_getElem g
 have:=a.sim k _ (c k _ d)
 rw [this];exact d.symm
def Ql{W:World}{a:aN}{v:Value}(e:W.cell? a=some v):(memOf W).cell? a=some v:=by
 unfold World.cell? at e
 unfold Heap.cell? memOf
 exact e
def A8i{P:Program}{W:World}{x:String × DataW Unit}{rest:List (String × DataW Unit)}(h:laidMet P (x::rest) W):laidMet P rest W:=by
 obtain ⟨n,d⟩:=x
 obtain ⟨l,⟨g,t,j,a,p,q,k,r,m,o,i,rfl⟩,c,e⟩:=h
 exact ⟨q,i,(List.nodup_append.1 c).2.1,fun b off f=>e b off (List.mem_append_right _ f)⟩
def C5z:List Int:=[0,1,28,2,29,14,24,3,30,22,20,15,25,17,4,8,31,27,13,23,21,19,16,7,26,12,18,6,11,5,10,9]
def B77:List Int:=[0,1,56,2,57,49,28,3,61,58,42,50,38,29,17,4,62,47,59,36,45,43,51,22,53,39,33,30,24,18,12,5,63,55,48,27,60,41,37,16,46,35,44,21,52,32,23,11,54,26,40,15,34,20,31,10,25,14,19,9,13,8,7,6]
def C1f:List Int:=[1,10,100,1000,10000,100000,1000000,10000000,100000000,1000000000,10000000000,100000000000,1000000000000,10000000000000,100000000000000,1000000000000000,10000000000000000,100000000000000000,1000000000000000000,10000000000000000000]
def B9t:prog.globalNamed "math/bits.deBruijn64tab" = some 0:=by kernel_rfl
def B9u:prog.globalNamed "internal/strconv.uint64pow10" = some 3:=by kernel_rfl
def tabs_gl{W:World}(h:laidMet prog [("math/bits.deBruijn32tab",Rows.laid_math_bits_deBruijn32tab),("math/bits.deBruijn64tab",Rows.laid_math_bits_deBruijn64tab),("internal/strconv.uint64pow10",Rows.laid_internal_strconv_uint64pow10)] W):Gl (memOf W):=by
 have i:=A8i h
 have j:=A8i i
 have g:Lib.TabIs prog W "math/bits.deBruijn64tab" .u8 B77:=Lib.tabIs_of_head (rest:=[("internal/strconv.uint64pow10",Rows.laid_internal_strconv_uint64pow10)]) B9t (by kernel_rfl) underlying354 underlying5 (by kernel_rfl) (by kernel_rfl) i
 have e:Lib.TabIs prog W "internal/strconv.uint64pow10" .u64 C1f:=Lib.tabIs_of_head (rest:=[]) B9u (by kernel_rfl) underlying358 underlying270 (by kernel_rfl) (by kernel_rfl) j
 have f:∀ k,k<64->A38 k<B77.length/\B77.getD (A38 k) 0=(k:Int):=by decide +kernel
 have d:∀ k,k<20->C1f.getD k 0=((10^k:Nat):Int):=by decide +kernel
 refine ⟨fun k c=>?_,fun k c=>?_⟩
 ·obtain ⟨a,b⟩:=f k c
  have:=Ql (g.cell B9t (A38 k) a)
  rw [E6,aT,Nat.zero_add,this,b]
 ·have:=Ql (e.cell B9u k (by show k<20;exact c))
  rw [E6,aT,Nat.zero_add,this,d k c]
def B3i(zs:List Int)(k:IntKind):Obj->Obj
 | .cells _ t frozen=>.cells (zs.map (cH k)).toArray t frozen
 | o=>o
def layTabs(a:Array Obj):Array Obj:=((a.modify 4 (B3i C5z .u8)).modify 0 (B3i B77 .u8)).modify 3 (B3i C1f .u64)
