/- A part. -/
import Derived.Test.YtmbfcbbkbefgfaaGreatDoorG20
import Derived.Test.YtmbfcbbkbefgfaaGreatDoorG09
import Derived.Test.YtmbfcbbkbefgfaaGreatDoorRows
import Derived.Lib.LaidTab
open Go.Proofs.Tryz
set_option linter.all false
open Bool renaming eq_iff_iff->cC
open Int renaming natAbs_natCast->aC,toNat_natCast->aD,natCast_mul->aG,gcd->aL,natCast_pow->aQ,pow_succ->aY,ofNat_tdiv->bI,le_of_lt->bM,mul_le_mul_of_nonneg_right->bO,pow_pos->bW
open List renaming getElem?_eq_getElem->aE,exists_cons_of_ne_nil->aJ,length_append->aM,takeWhile_append_dropWhile->aO,length_take->aV,take_of_length_le->aX,length_map->bB,head?_cons->bC,take_append_drop->bF,drop_zero->bH,getElem_map->bN,eq_nil_of_length_eq_zero->bV,map_append->bY,append_nil->bZ,getLast?_singleton->cI,getElem?_cons_zero->cJ,append_cancel_left->cK,takeWhile_sublist->cL
open List.cons renaming injEq->bD
open Nat renaming pow_le_pow_right->aI,div_le_self->aK,gcd->aR,mul_one->aT,gcd_dvd_right->aU,sub_zero->aW,le_refl->bG,pow_le_pow_left->bJ,lt_of_lt_of_le->bK,pow_succ->bL,div_one->bU,min_eq_left->bX,le_of_dvd->cG
open Option.some renaming injEq->aH
open Rat renaming num_eq_zero->aZ,add->cD
open _root_.Go.Value renaming int->cH
open _root_.Go.Value.slice renaming injEq->aS
open _root_.Go renaming Addr->aN,TypeId->cF
open _root_.Go.Proofs.YtmbfcbbkbefgfaaGreatDoor renaming FCall->aF,Heap->aP
namespace Go.Proofs.YtmbfcbbkbefgfaaGreatDoor
set_option maxRecDepth 20000
open Go
def B85:(prog.info? B1l).map (fun i=>i.zero)=some (some (.agg (Array.replicate 20 (.int .u8 0)))):=by kernel_rfl
def C1e(ns:List Nat)(c:Nat):nz (ns++[c])=nz ns++[(c:Int)]:=by simp [nz]
section
variable {h g:aP} {K:VP} {A XA:Option aN} {n c:Nat} {eT:cF} {l:List UInt8}
def Fg{xn xc v W:Nat}(gp:Gp g)(p:Priv h g eT 1 A n c (yv l))(M:Mw g XA xn (v:Int))(hx:xn<=10000000)(hW:W<=1000000000)(hn:n<=1000000000)
 (hK:∀ A' n' c' e3 g' h',Ext g eT A n c l (pad W v) A' n' c' e3 g' h'->K (.slice A' n' c') h'):aF prog Y3 #[.slice A n c,.slice XA xn xc,I (W:Int)] h K:=by
 obtain ⟨xs,F,sx,dx,nx,J⟩:=M
 refine Sv _ _ _ _ _ _ _ ?_
 unfold Pk
 refine p.call ?_
 refine Fc sx F (by omega) ?_
 intro WA V h0 g0 l0 pw h1 X
 obtain ⟨C,aj,ae⟩:=X.swap pw
 refine ⟨_,_,_,rfl,?_⟩
 unfold Jf
 have aq:(v:Int)<2^(64*xn):=by
  have:=N4 (B:=b64) (by decide) dx
  rw [J,<- F,Kz] at this;exact this
 refine ⟨fun s hp=>∃ (a:List Int) (ns:List Nat) (WA CA:Option aN) (wn V cn cc:Nat) (C Z g3:aP),s=[.slice WA wn V,.slice CA cn cc]/\Pw hp C WA wn V a/\Pw C Z CA cn cc (nz ns)/\Priv Z g3 eT 1 A n c (yv l)/\g.le g3/\wn=a.length/\cn=ns.length/\wn<=xn/\Dig b64 a/\Norm a/\(∀ c∈ns,c<10^19)/\(v:Int)=val b64 a*cB^ns.length+(nv ns:Int)/\(a=[]->ns.getLast? ≠ some 0),fun s hp=>match s with|[.slice A n _,_]=>B2v b64 hp A n|_=>0,⟨xs,[],WA,none,xs.length,V,0,0,C,C,g0,rfl,aj,Priv.nil _ _ _ _,ae,l0,rfl,rfl,by omega,dx,nx,by simp,by simp [nv,J],by simp⟩,?_⟩
 rintro WA1 E an CA1 ad az Q ⟨a,ns,WA2,CA2,a0,aw,a1,av,C,Z,g3,hs,pw,pc,X,lg,z,ap,ay,du,nu,hb,hv,t⟩
 simp only [bD,aS,and_true] at hs
 obtain ⟨⟨rfl,rfl,rfl⟩,rfl,rfl,rfl⟩:=hs
 have ax:=C9 (B:=b64) (by decide) du
 have Mu:Mw Q WA1 E (val b64 a):=⟨a,z,pw.slV,du,nu,rfl⟩
 refine B8 (fun h2=>?_) (fun h2=>?_)
 ·have ai:a≠[]:=by rintro rfl;simp at z;omega
  have L:0<val b64 a:=by
   have:=Mu.len_zero (by decide)
   omega
  have u:ns.length<=64*xn:=by
   by_cases T:ns.length<=64*xn
   ·exact T
   ·exfalso
    have h3:(2:Int)^(64*xn)<=2^ns.length:=D4 (by decide) (by omega)
    have h4:(2:Int)^ns.length<=cB^ns.length:=by
     have:∀ k:Nat,(2:Int)^k<=cB^k:=by
      intro k
      induction k with
      | zero=>simp
      | succ k ih=>
       rw [aY,aY]
       exact Int.mul_le_mul ih (by decide) (by decide) (bM (bW (by decide)))
     exact this _
    have h5:1*cB^ns.length<=val b64 a*cB^ns.length:=bO L (bM (bW (by decide)))
    omega
  refine C44 pw ai z du (by omega) ?_
  intro D m r ar ak hm au nw dw d hr
  obtain ⟨q,ab,ao⟩:=ak.swap pc
  refine Ea R4 ab rfl rfl (by omega) (by omega) ?_
  intro CA' af h' g' am j
  obtain ⟨w,l2,i⟩:=ao.after am
  obtain ⟨g4,G,al⟩:=j.swap i
  obtain ⟨g5,l5,ah⟩:=X.after l2
  obtain ⟨c0,e⟩:∃ c0:Nat,r=(c0:Int):=⟨r.toNat,by omega⟩
  have O:c0<10^19:=by
   have N:r<10000000000000000000:=hr.2
   show c0<10000000000000000000
   omega
  have ag:=C9 (B:=b64) (by decide) dw
  refine ⟨⟨D.take m,ns++[c0],WA1,CA',m,an,ad+1,af,g4,w,g5,rfl,G,?_,ah,B0 lg l5,hm,by simp;omega,by omega,dw,nw,?_,?_,?_⟩,?_⟩
  ·have h9:=al
   rw [<- List.map_singleton (f:=cH .u64),<- bY,e,<- C1e] at h9
   exact h9
  ·intro c T
   rcases List.mem_append.1 T with N|N
   ·exact hb c N
   ·rw [List.mem_singleton.1 N];exact O
  ·rw [B2q,hv,d,aM,List.length_singleton,aY,e];grind
  ·intro he
   rw [List.getLast?_append]
   simp only [cI,Option.some_or,ne_eq,aH]
   intro e0
   rw [he] at d
   simp [val] at d
   omega
  ·show B2v b64 h' WA1 m<B2v b64 Q WA1 E
   have Mw2:Mw h' WA1 m (val b64 (D.take m)):=⟨D.take m,hm,G.slV,dw,nw,rfl⟩
   rw [Bh Mw2,Bh Mu]
   have N:1*val b64 (D.take m)<=cB*val b64 (D.take m):=bO (by decide) ag
   have h7:val b64 a=10000000000000000000*val b64 (D.take m)+r:=by rw [d,Int.mul_comm]
   omega
 ·have R:a=[]:=bV (by omega)
  subst R
  obtain ⟨w,ac,j⟩:=pc.swap X
  obtain ⟨q,S,i⟩:=pw.swap ac
  have aa:v=nv ns:=by
   simp [val] at hv;omega
  have u:ns.length<=1000000000:=by
   by_cases e:ns=[]
   ·subst e;simp
   ·have h7:=t rfl
    obtain ⟨ms,c0,rfl⟩:∃ ms c0,ns=ms++[c0]:=⟨ns.dropLast,ns.getLast e,(List.dropLast_concat_getLast e).symm⟩
    rw [List.getLast?_append] at h7
    simp only [cI,Option.some_or,ne_eq,aH] at h7
    have h8:=B2q ms c0
    by_cases T:ms.length<=64*xn
    ·simp;omega
    ·exfalso
     have h3:(2:Int)^(64*xn)<=2^ms.length:=D4 (by decide) (by omega)
     have h4:(2:Int)^ms.length<=cB^ms.length:=by
      have:∀ k:Nat,(2:Int)^k<=cB^k:=by
       intro k
       induction k with
       | zero=>simp
       | succ k ih=>
        rw [aY,aY]
        exact Int.mul_le_mul ih (by decide) (by decide) (bM (bW (by decide)))
      exact this _
     have h5:cB^ms.length*1<=cB^ms.length*(c0:Int):=Int.mul_le_mul_of_nonneg_left (by omega) (bM (bW (by decide)))
     omega
  refine Gv B85 ?_
  intro b y
  refine ⟨_,rfl,?_⟩
  have hz:(Value.agg (Array.replicate 20 (.int .u8 0))).cells=(List.replicate 20 (cH .u8 0)).toArray:=by rfl
  rw [hz]
  have H:q b=none:=by
   cases hx1:q b with
   | none=>rfl
   | some o=>rw [S.le b o hx1] at y;cases y
  refine B81 (ns:=ns) gp rfl ⟨eT,_,q,⟨?_,?_,by simp,fun _=>⟨rfl,rfl,rfl⟩,id⟩,⟨by simp [yv],by simp,.inr ⟨b,List.replicate 20 (cH .u8 0),rfl,H,rfl,by simp,by simp [yv]⟩⟩,?_,?_⟩ ap hb (t rfl) hW hn u (by rw [<- aa];exact hK)
  ·exact B0 lg (B0 j.le (B0 i.le (Heap.le_put _ H)))
  ·rw [bZ];exact S.put y _
  ·exact B0 lg (B0 j.le i.le)
  ·exact (show SlI .u64 w CA1 (nz ns) from j.slV).mono i.le
end
def Hr(i:Nat):Nat:=10^(19*2^i)
def B1t(i:Nat):Hr i=(10^19)^(2^i):=Nat.pow_mul _ _ _
def B6t(i:Nat):0<Hr i:=Nat.pow_pos (by decide)
def B1s:Hr 0=10000000000000000000:=by decide
def A2y(i:Nat):Hr (i+1)=Hr i*Hr i:=by
 unfold Hr
 rw [<- Nat.pow_add]
 congr 1
 rw [bL];omega
def C0v(i:Nat):(Hr i:Int)<b64^(2^i):=by
 have h:(10^19)^(2^i)<(18446744073709551616:Nat)^(2^i):=Nat.pow_lt_pow_left (by decide) (Nat.pos_iff_ne_zero.1 (Nat.pow_pos (by decide)))
 rw [<- B1t] at h
 have a:((Hr i:Nat):Int)<((18446744073709551616^(2^i):Nat):Int):=Int.ofNat_lt.2 h
 rw [aQ] at a
 exact a
def C0w(i:Nat):(2:Int)^(63*2^i)<=(Hr i:Int):=by
 have h:(2^63)^(2^i)<=(10^19)^(2^i):=bJ (by decide) _
 rw [<- B1t,<- Nat.pow_mul] at h
 have a:((2^(63*2^i):Nat):Int)<=((Hr i:Nat):Int):=Int.ofNat_le.2 h
 rw [aQ] at a
 exact a
def C36{k m:Nat}(h:(2:Int)^k<2^m):k<m:=by
 by_cases a:k<m
 ·exact a
 ·have:=D4 (B:=2) (by decide) (show m<=k by omega)
  omega
abbrev slT(s:Option aN × Nat × Nat):Value:=.slice s.1 s.2.1 s.2.2
def Pws(h:aP)(PA:Option aN)(k:Nat):Prop:=∃ ss:List (Option aN × Nat × Nat),ss.length=k/\SlV h PA (ss.map slT)/\∀ i s,ss[i]? = some s->s.2.1<=s.2.2/\Mw h s.1 s.2.1 (Hr i:Int)
def Pws.mono{h h':aP}(l:h.le h'){PA:Option aN}{k:Nat}(p:Pws h PA k):Pws h' PA k:=by
 obtain ⟨b,c,d,a⟩:=p
 exact ⟨b,c,d.mono l,fun i s e=>⟨(a i s e).1,(a i s e).2.mono l⟩⟩
def Pws.take{h:aP}{PA:Option aN}{k j:Nat}(p:Pws h PA k)(hj:j<=k):Pws h PA j:=by
 obtain ⟨a,f,d,b⟩:=p
 refine ⟨a.take j,by rw [aV];omega,?_,fun i s e=>?_⟩
 ·have:=SlV.cut (c:=(a.map slT).length) d (Nat.zero_le j) (by rw [bB];omega) (bG _)
  rw [J0,bH,aW,<- List.map_take] at this
  exact this
 ·rw [List.getElem?_take] at e
  split at e
  ·exact b i s e
  ·cases e
def Pws.at{h:aP}{PA:Option aN}{k i:Nat}(p:Pws h PA k)(hi:i<k):∃ (a:aN) (A:Option aN) (n c:Nat),PA=some a/\h.cell? (a.add i)=some (.slice A n c)/\n<=c/\Mw h A n (Hr i:Int):=by
 obtain ⟨d,m,l,j⟩:=p
 obtain ⟨a,g,b⟩:=l.at (i:=i) (by rw [bB];omega)
 rw [bN] at b
 obtain ⟨f,e⟩:=j i d[i] (aE (by omega))
 exact ⟨a,_,_,_,g,b,f,e⟩
def Mw.tenP_le{h:aP}{A:Option aN}{n i:Nat}(m:Mw h A n (Hr i:Int)):n<=2^i:=m.len_le (by decide) (C0v i)
def Mw.tenP_ge{h:aP}{A:Option aN}{n i:Nat}(m:Mw h A n (Hr i:Int)):2^i<2*n:=by
 have a:=m.lt (by decide)
 rw [Kz] at a
 have b:=C36 (Int.lt_of_le_of_lt (C0w i) a)
 omega
def Ext.weak{g g0 g' h':aP}{eT e2:cF}{A A':Option aN}{n c n' c':Nat}{l t:List UInt8}(l0:g0.le g)(x:Ext g eT A n c l t A' n' c' e2 g' h'):Ext g0 eT A n c l t A' n' c' e2 g' h':=⟨B0 l0 x.le,x.priv,x.len,x.fit,x.tag⟩
def B96(w n:Nat):w<=(pad w n).length:=by simp [pad];omega
def C13{j:Nat}(hj:j<=30):B7 (19*2^(min j 64))=((19*2^j:Nat):Int):=by
 rw [bX (by omega)]
 have b:2^j<=2^30:=aI (by decide) hj
 have a:(19*2^j:Int)=((19*2^j:Nat):Int):=by rw [aG,aQ];rfl
 rw [a,C0 (by omega) (by have:(2:Nat)^30=1073741824:=by decide
                         omega)]
def A1o{l:List UInt8}(hd:∀ c∈l,J2 c):(N8 l:Int)<b64^l.length:=by
 have b:=Qq hd
 have d:10^l.length<=(18446744073709551616:Nat)^l.length:=bJ (by decide) _
 have a:((N8 l:Nat):Int)<((18446744073709551616^l.length:Nat):Int):=Int.ofNat_lt.2 (bK b d)
 rw [aQ] at a
 exact a
def Sn:∀ (k:Nat) {h g:aP} {K:VP} {A XA PA:Option aN} {n c xn xc pc v W:Nat} {eT:cF} {l:List UInt8},Gp g->Priv h g eT 1 A n c (yv l)->Mw g XA xn (v:Int)->xn<=xc->xn<=10000000->Pws g PA k->k<=pc->k<=26->(W=0\/W=19*2^k)->n+(pad W v).length<=1000000000->
 (∀ A' n' c' e3 g' h',Ext g eT A n c l (pad W v) A' n' c' e3 g' h'->K (.slice A' n' c') h')->aF prog I5 #[.slice A n c,.slice XA xn xc,I (W:Int),.slice PA k pc] h K:=by
 intro k
 induction k with
 | zero=>
  intro h g K A XA PA n c xn xc pc v W eT l f p M t C y H hk X R u
  have:=B96 W v
  refine Jd _ _ _ _ _ _ _ _ _ _ ?_
  unfold Je
  refine B8 (fun _=>?_) (fun e=>absurd (by decide) e)
  refine Fg f p M C (by omega) (by omega) ?_
  intro A' n' c' D g' h' x
  exact ⟨_,_,_,rfl,u _ _ _ D g' _ x⟩
 | succ j ih=>
  intro h g K A XA PA n c xn xc pc v W eT l f p M t C y H hk X R u
  have aj:=B96 W v
  have e1:B7 (((j+1:Nat):Int)-1)=(j:Int):=by rw [C0 (by omega) (by omega)];omega
  refine Jd _ _ _ _ _ _ _ _ _ _ ?_
  unfold Je
  simp only [e1,aD,aW,J0,C13 (show j<=30 by omega)]
  refine B8 (fun e=>absurd e (by omega)) (fun _=>B8 (fun _=>?_) (fun _=>?_))
  ·refine Fg f p M C (by omega) (by omega) ?_
   intro A' n' c' D g' h' x
   exact ⟨_,_,_,rfl,u _ _ _ D g' _ x⟩
  ·obtain ⟨a,PA',pn,aa,ha,hc,m,Mp⟩:=y.at (i:=j) (by omega)
   refine ⟨a,ha,by omega,by omega,_,_,_,by rw [aT];exact C1 p.le hc,?_⟩
   have ag:=Mp.tenP_le
   have af:2^j<=2^26:=aI (by decide) (by omega)
   have V:(2:Nat)^26=67108864:=by decide
   have F:=B6t j
   refine p.call ?_
   refine U6 M Mp t m (by omega) (by omega) (by omega) ?_
   intro A1 m1 c1 A2 m2 c2 g1 b k1 N M1 M2 h1 L
   refine ⟨_,_,_,_,_,_,rfl,?_⟩
   rw [<- Int.natCast_ediv] at M1
   rw [<- Int.natCast_emod] at M2
   have hv:=Nat.div_add_mod v (Hr j)
   have s:=Nat.mod_lt v F
   have ai:=aK v (Hr j)
   generalize v/Hr j=q at *
   generalize v%Hr j=r at *
   have hz:=M1.len_zero (by decide)
   have O:=M.lt (by decide)
   have ad:m1<=xn:=M1.len_le (by decide) (by omega)
   have ac:m2<=xn:=M2.len_le (by decide) (by
    have h0:0<=Hr j*q:=Nat.zero_le _
    generalize Hr j*q=z at *
    omega)
   have G:v=q*10^(19*2^j)+r:=by rw [<- hv,Nat.mul_comm];rfl
   have ab:2^(j+1)=2*2^j:=by rw [bL];omega
   refine B8 (fun e=>absurd e (by omega)) (fun _=>?_)
   refine E5 (fun Z=>E5 (fun T=>?_) (fun T=>?_)) (fun Z=>?_)
   ·obtain rfl:W=0:=by omega
    obtain rfl:q=0:=by omega
    obtain rfl:v=r:=by omega
    refine ⟨⟨by omega,by omega⟩,?_⟩
    refine ih (W:=0) (f.mono b) L M2 N (by omega) ((y.mono b).take (by omega)) (by omega) (by omega) (.inl rfl) R ?_
    intro A4 n4 c4 J Q h4 B
    exact ⟨_,_,_,rfl,u _ _ _ _ _ _ (B.weak b)⟩
   all_goals
    have hw:q≠0\/19*2^j<=W:=by omega
    have d:=A3l (w:=W) (h:=q) (l:=r) (k:=19*2^j) s hw
    rw [<- G] at d
    have E:(pad (19*2^j) r).length=19*2^j:=Yl s
    have ae:(pad W v).length=(pad (W-19*2^j) q).length+19*2^j:=by rw [d,aM,E]
    refine ⟨⟨by omega,by omega⟩,?_⟩
    have e3:(if (0:Int)>B7 ((W:Int)-((19*2^j:Nat):Int)) then (0:Int) else B7 ((W:Int)-((19*2^j:Nat):Int)))=((W-19*2^j:Nat):Int):=by
     rw [C0 (by omega) (by omega)]
     split<;>omega
    rw [e3]
    refine ih (f.mono b) L M1 k1 (by omega) ((y.mono b).take (by omega)) (by omega) (by omega) (by omega) (by omega) ?_
    intro A3 n3 c3 e3 g3 h3 o
    have ah:=o.len
    have S:=B0 b o.le
    refine ⟨_,_,_,rfl,⟨by omega,by omega⟩,?_⟩
    refine ih (f.mono S) o.priv (M2.mono o.le) N (by omega) ((y.mono S).take (by omega)) (by omega) (by omega) (.inr rfl) (by omega) ?_
    intro A4 n4 c4 J Q h4 B
    refine ⟨_,_,_,rfl,u _ _ _ J Q _ ?_⟩
    rw [d]
    exact (o.trans B).weak b
def Ib:∀ (k:Nat) {h:aP} {K:VP} {PA:Option aN} {pc:Nat} {l:List UInt8},(∀ c∈l,J2 c)->l.length<=100000000->Pws h PA k->k<=pc->k<=30->(∀ A n c h',h.le h'->n<=c->Mw h' A n (N8 l:Int)->K (.slice A n c) h')->aF prog N6 #[.string (bs l),.slice PA k pc] h K:=by
 intro k
 induction k using Nat.strongRecOn with
 | _ k ih=>
  intro h K PA pc l z hl E ac hk G
  refine Xq _ _ _ _ ?_
  unfold Wl
  rw [L6]
  have b:aF prog O0 #[.string (bs l)] h (fun r y=>∃ (A:Option aN) (n c:Nat),r= .slice A n c/\K (.slice A n c) y):=by
   refine Sm z hl ?_
   intro A n c h' m g M
   exact ⟨_,_,_,rfl,G _ _ _ _ m g M⟩
  refine ⟨fun s y=>y=h/\∃ j:Nat,s=[I ((j:Int)-1)]/\j<=k,fun s _=>(iAt s 0+1).toNat,⟨rfl,k,by rw [C0 (by omega) (by omega)],bG _⟩,?_⟩
  rintro u y ⟨rfl,j,hs,hj⟩
  obtain rfl:u=(j:Int)-1:=by simpa using hs
  refine B8 (fun h0=>?_) (fun h0=>B8 (fun _=>b) (fun e=>absurd (show (j:Int)-1<0 by omega) e))
  obtain ⟨i,rfl⟩:∃ i,j=i+1:=⟨j-1,by omega⟩
  have N:((i+1:Nat):Int)-1=(i:Int):=by omega
  have ab:0<2^i:=Nat.pow_pos (by decide)
  simp only [N,aD,aW,J0,C13 (show i<=30 by omega)]
  refine B8 (fun e=>absurd e (by omega)) (fun _=>B8 (fun F=>?_) (fun F=>?_))
  ·refine ⟨⟨trivial,i,by rw [C0 (by omega) (by omega)],by omega⟩,?_⟩
   simp only [iAt,cJ]
   rw [C0 (by omega) (by omega)]
   omega
  refine B8 (fun e=>absurd e (by omega)) (fun _=>B8 (fun _=>b) (fun H=>B8 (fun e=>absurd e (by omega)) (fun _=>?_)))
  have V:B7 ((l.length:Int)-((19*2^i:Nat):Int))=((l.length-19*2^i:Nat):Int):=by rw [C0 (by omega) (by omega)];omega
  simp only [V,aD,O7,bH,aW]
  obtain ⟨a,PA',pn,R,ha,g,o,Mp⟩:=E.at (i:=i) (by omega)
  refine ⟨⟨by omega,by omega⟩,⟨by omega,by omega⟩,a,ha,by omega,by omega,_,_,_,by rw [aT];exact g,?_⟩
  have W:=Mp.tenP_le
  have aa:19*2^i<l.length:=by omega
  have p:∀ c∈l.take (l.length-19*2^i),J2 c:=fun c g=>z c (List.mem_of_mem_take g)
  have q:∀ c∈l.drop (l.length-19*2^i),J2 c:=fun c g=>z c (List.mem_of_mem_drop g)
  have B:(l.take (l.length-19*2^i)).length=l.length-19*2^i:=by rw [aV];omega
  have f:(l.drop (l.length-19*2^i)).length=19*2^i:=by rw [List.length_drop];omega
  have d:N8 l=N8 (l.take (l.length-19*2^i))*Hr i+N8 (l.drop (l.length-19*2^i)):=by
   have:=Gt (l.take (l.length-19*2^i)) (l.drop (l.length-19*2^i))
   rw [bF,f] at this
   exact this
  have Q:=A1o z
  have t:=A1o p
  have w:=A1o q
  rw [B] at t
  rw [f] at w
  refine ih i (by omega) p (by omega) (E.take (by omega)) (by omega) (by omega) ?_
  intro A1 n1 c1 F m Z M1
  refine ⟨_,_,_,rfl,m,?_⟩
  have O:=M1.len_le (by decide) t
  refine I7 M1 (Mp.mono m) Z o (by omega) (by omega) ?_
  intro A2 n2 c2 h2 C S M2
  refine ⟨_,_,_,rfl,C,⟨by omega,by omega⟩,⟨by omega,by omega⟩,?_⟩
  rw [<- aG] at M2
  have L:=M2.len_le (by decide) (Int.lt_of_le_of_lt (Int.ofNat_le.2 (by rw [d];exact Nat.le_add_right _ _)) Q)
  rw [aX (by rw [f];omega)]
  refine ih i (by omega) q (by omega) ((E.mono (B0 m C)).take (by omega)) (by omega) (by omega) ?_
  intro A3 n3 c3 h3 D k3 M3
  refine ⟨_,_,_,rfl,D,?_⟩
  have X:=M3.len_le (by decide) w
  refine T4 (M2.mono D) M3 S k3 (by omega) (by omega) ?_
  intro A4 n4 c4 h4 J T M4
  refine ⟨_,_,_,rfl,J,G _ _ _ _ (B0 m (B0 C (B0 D J))) T ?_⟩
  rw [<- Int.natCast_add,<- d] at M4
  exact M4
section
variable {h g:aP} {K:VP} {A XA:Option aN} {n c:Nat} {eT:cF} {l:List UInt8}
def A2z{hs:aP}{ss:List (Option aN × Nat × Nat)}{s:Option aN × Nat × Nat}(h3:∀ i s,ss[i]? = some s->s.2.1<=s.2.2/\Mw hs s.1 s.2.1 (Hr i:Int))(h4:s.2.1<=s.2.2/\Mw hs s.1 s.2.1 (Hr ss.length:Int)):∀ i t,(ss++[s])[i]? = some t->t.2.1<=t.2.2/\Mw hs t.1 t.2.1 (Hr i:Int):=by
 intro i t e
 by_cases a:i<ss.length
 ·rw [List.getElem?_append_left a] at e;exact h3 i t e
 ·rw [List.getElem?_append_right (by omega)] at e
  by_cases b:i=ss.length
  ·subst b
   simp at e
   subst e;exact h4
  ·rw [List.getElem?_eq_none (by simp;omega)] at e;cases e
def A06{hs:aP}{b:Nat}{e:cF}: ∀ i (t:Option aN × Nat × Nat),[((some ⟨b,0,none⟩:Option aN),1,1)][i]? = some t->t.2.1<=t.2.2/\Mw (hs.put b (.cells #[U 10000000000000000000] e)) t.1 t.2.1 (Hr i:Int):=by
 intro i t a
 rcases i with _|i
 ·simp at a
  subst a
  refine ⟨bG _,[10000000000000000000],rfl,SlI.new _ _ _ _ _,?_,?_,?_⟩
  ·intro x c;simp at c;subst c;decide
  ·unfold Norm;simp
  ·rw [B1s];simp [val]
 ·simp at a
def Ul(hd:∀ c∈l,J2 c)(hl:l.length<=100000000)(hK:∀ A n c h',h.le h'->n<=c->Mw h' A n (N8 l:Int)->K (.slice A n c) h'):aF prog Ge #[.string (bs l)] h K:=by
 refine Xp _ ?_
 unfold Wk
 rw [L6]
 refine B8 (fun h5=>?_) (fun _=>?_)
 ·refine Bi R4 rfl ?_
  intro q r
  refine ⟨_,_,_,rfl,?_⟩
  refine Ea A7o (Priv.nil _ _ _ none) rfl rfl (by omega) (by omega) ?_
  intro A1 c1 h1 G m O
  refine ⟨fun s w=>∃ (f:List (Option aN × Nat × Nat)) (PA:Option aN) (k t:Nat) (g:aP),s=[.slice PA k t]/\Priv w g Fo 1 PA k t (f.map slT)/\f.length=k/\0<k/\h.le g/\(∀ i s,f[i]? = some s->s.2.1<=s.2.2/\Mw g s.1 s.2.1 (Hr i:Int))/\2^(k-1)<=l.length,fun s _=>match s with|[.slice _ n _]=>l.length-n|_=>0,⟨[(some ⟨q,0,none⟩,1,1)],A1,1,c1,G,rfl,O,rfl,by omega,B0 (Heap.le_put _ r) m,fun i s e=>⟨(A06 (hs:=h) (b:=q) (e:=C4) i s e).1,(A06 (hs:=h) (b:=q) (e:=C4) i s e).2.mono m⟩,by simp;omega⟩,?_⟩
  rintro PA k t w ⟨f,PA',k',S,g,hs,p,B,T,z,j,H⟩
  simp only [bD,aS,and_true] at hs
  obtain ⟨rfl,rfl,rfl⟩:=hs
  have E:k-1<27:=by
   by_cases d:k-1<27
   ·exact d
   ·have:2^27<=2^(k-1):=aI (by decide) (by omega)
    have:(2:Nat)^27=134217728:=by decide
    omega
  rw [aD,C13 (show k<=30 by omega)]
  have L:B7 ((k:Int)-1)=((k-1:Nat):Int):=by rw [C0 (by omega) (by omega)];omega
  have o:Pws w PA k:=⟨f,B,p.slV,fun i s e=>⟨(j i s e).1,(j i s e).2.mono p.le⟩⟩
  refine B8 (fun e=>absurd e (by omega)) (fun _=>B8 (fun W=>?_) (fun W=>?_))
  ·obtain ⟨a,Z,d⟩:=p.slV.at (i:=k-1) (by rw [bB];omega)
   rw [bN] at d
   obtain ⟨F,M⟩:=j (k-1) (f[k-1]'(by omega)) (aE (by omega))
   generalize f[k-1]'(by omega)=s at *
   rw [L,aD,aT]
   refine ⟨a,Z,by omega,by omega,_,_,_,d,?_⟩
   have D:=M.tenP_le
   refine p.call ?_
   refine I7 M M F F (by omega) (by omega) ?_
   intro A2 V c2 g2 C Q M2 h2 X
   refine ⟨_,_,_,rfl,?_⟩
   refine Ea A7o X rfl rfl (by omega) (by omega) ?_
   intro A3 c3 h3 J y R
   have hm:2^k=2*2^(k-1):=by
    obtain ⟨i,rfl⟩:∃ i,k=i+1:=⟨k-1,by omega⟩
    rw [bL];simp;omega
   have N:k<2^k:=Nat.lt_two_pow_self
   refine ⟨⟨f++[(A2,V,c2)],A3,k+1,c3,J,rfl,?_,by simp;omega,by omega,B0 z (B0 C y),?_,?_⟩,?_⟩
   ·rw [bY];exact R
   ·refine A2z (fun i s e=>⟨(j i s e).1,(j i s e).2.mono (B0 C y)⟩) ⟨Q,?_⟩
    rw [B,show Hr k=Hr (k-1)*Hr (k-1) by rw [<- A2y];congr 1;omega,aG]
    exact M2.mono y
   ·rw [Nat.add_sub_cancel];omega
   ·show l.length-(k+1)<l.length-k
    omega
  ·refine Ib k hd hl o p.2.1 (by omega) ?_
   intro A n c h' u d M
   exact ⟨_,_,_,rfl,hK _ _ _ _ (B0 z (B0 p.le u)) d M⟩
 ·refine Ib 0 hd hl ⟨[],rfl,SlV.nil,by simp⟩ (by omega) (by omega) ?_
  intro A n c h' u d M
  exact ⟨_,_,_,rfl,hK _ _ _ _ u d M⟩
def Yk(hd:∀ c∈l,J2 c)(hl:l.length<=100000000)(hK:∀ A n c h',h.le h'->ZI h' false A n c (N8 l:Int)->K (.agg #[.bool false,.slice A n c]) h'):aF prog Te #[.string (bs l)] h K:=by
 refine B4x _ ?_
 unfold B9y
 refine Ul hd hl ?_
 intro A n c h' b a M
 refine ⟨_,_,_,rfl,hK _ _ _ _ b ⟨a,?_,?_⟩⟩
 ·rw [aC];exact M
 ·symm;rw [decide_eq_false_iff_not];omega
end
def Priv.le_put'{h g:aP}{e:cF}{s:Nat}{A:Option aN}{n c:Nat}{xs:List Value}(p:Priv h g e s A n c xs){b:Nat}(hb:h b=none)(o:Obj):g.le (g.put b o):=by
 intro k f d
 have a:k≠b:=by
  rintro rfl
  rw [p.le k f d] at hb;cases hb
 rw [B9 _ _ a];exact d
def B1f{n:Int}(h0:9223372036854775808<=n)(h1:n<18446744073709551616):B7 n=n-18446744073709551616:=by
 unfold B7 IntKind.wrap
 simp only [IntKind.signed,IntKind.bits]
 have e:n%18446744073709551616=n:=by omega
 simp only [show (2^64:Int)=18446744073709551616 from rfl,show (2^(64-1):Int)=9223372036854775808 from rfl,e]
 rw [iP (by simp;omega)]
section
variable {h g:aP} {K:VP} {A XA:Option aN} {n c:Nat} {eT:cF} {l:List UInt8}
def C3y{v xn:Nat}(hv:(v:Int)<b64^xn):(dd v).length<=20*xn:=by
 refine S4.2 ?_
 rw [Nat.pow_mul]
 have a:((v:Nat):Int)<((18446744073709551616^xn:Nat):Int):=by rw [aQ];exact hv
 exact bK (Int.ofNat_lt.1 a) (bJ (by decide) _)
def He{xn xc v:Nat}(gp:Gp g)(p:Priv h g eT 1 A n c (yv l))(M:Mw g XA xn (v:Int))(hxc:xn<=xc)(hx:xn<=10000000)(hn:n<=200000000)
 (hK:∀ A' n' c' e3 g' h',Ext g eT A n c l (O9 v) A' n' c' e3 g' h'->K (.slice A' n' c') h'):aF prog An #[.slice A n c,.slice XA xn xc] h K:=by
 have h0:=M.len_zero (by decide)
 refine Wq _ _ _ _ _ _ ?_
 unfold Se
 refine E5 (fun e=>?_) (fun e=>?_)
 ·obtain rfl:v=0:=by omega
  refine Np (ch:=48) rfl p (by omega) ?_
  intro A' n' c' F g' h' x
  exact hK _ _ _ _ _ _ x
 ·have O:v≠0:=by omega
  refine E5 (fun Q=>?_) (fun Q=>?_)
  ·obtain ⟨xs,u,sx,dx,nx,L⟩:=M
   obtain ⟨w,rfl⟩:∃ w,xs=[w]:=by
    rcases xs with _|⟨w,_|⟨w',r⟩⟩
    ·simp at u;omega
    ·exact ⟨w,rfl⟩
    ·simp at u;omega
   rw [Z1] at L
   subst L
   refine (SlI.mono p.le sx).load u (by omega) (by omega) ?_
   have o:=dx v (by simp)
   refine Hc (gp.mono p.le) p (by have:(v:Int)<18446744073709551616:=o.2;omega) (by omega) ?_
   intro A' n' c' F g' h' x
   exact ⟨_,_,_,rfl,hK _ _ _ _ _ _ x⟩
  ·have ai:=C3y (M.lt (by decide))
   have ag:(pad 0 v).length<=200000000:=by rw [A7w];omega
   refine Bi R4 rfl ?_
   intro C D
   refine ⟨_,_,_,rfl,?_⟩
   have p1:=p.put D (.cells #[U 10000000000000000000] C4)
   have l1:=p.le_put' D (.cells #[U 10000000000000000000] C4)
   have w1:=fun i s e=>A06 (hs:=g) (b:=C) (e:=C4) i s e
   generalize h.put C (Obj.cells #[U 10000000000000000000] C4)=h1 at *
   generalize g.put C (Obj.cells #[U 10000000000000000000] C4)=g1 at *
   refine Bi A7o rfl ?_
   intro b2 X
   refine ⟨_,_,_,rfl,?_⟩
   have split:∀ {z:aP} {m:List (Option aN × Nat × Nat)} {PA:Option aN} {k t:Nat} {f d:aP},Priv z f Fo 1 PA k t (m.map slT)->Priv f d eT 1 A n c (yv l)->m.length=k->g.le d->(∀ i s,m[i]? = some s->s.2.1<=s.2.2/\Mw d s.1 s.2.1 (Hr i:Int))->k<=26->
    aF prog I5 #[.slice A n c,.slice XA xn xc,I (0:Int),.slice PA k t] z (fun r R=>∃ (A1:Option aN) (n1 c1:Nat),r= .slice A1 n1 c1/\K (.slice A1 n1 c1) R):=by
    intro z m PA k t f d y B G E o j
    obtain ⟨g3,T,q⟩:=y.swap B
    have J:=B0 E q.le
    refine Sn k (W:=0) (gp.mono J) T (M.mono J) hxc hx ⟨m,G,q.slV,fun i s e=>⟨(o i s e).1,(o i s e).2.mono q.le⟩⟩ q.2.1 j (.inl rfl) (by omega) ?_
    intro A' n' c' F g' h' x
    refine ⟨_,_,_,rfl,hK _ _ _ F g' _ ?_⟩
    rw [A7w,<- Ao O] at x
    exact x.weak J
   refine ⟨fun s z=>∃ (m:List (Option aN × Nat × Nat)) (PA:Option aN) (k t:Nat) (f d:aP),s=[.slice PA k t]/\Priv z f Fo 1 PA k t (m.map slT)/\Priv f d eT 1 A n c (yv l)/\m.length=k/\0<k/\g.le d/\(∀ i s,m[i]? = some s->s.2.1<=s.2.2/\Mw d s.1 s.2.1 (Hr i:Int))/\2^(k-1)<=2*xn,fun s _=>match s with|[.slice _ n _]=>xn-n|_=>0,⟨[(some ⟨C,0,none⟩,1,1)],_,1,1,h1,g1,rfl,⟨by simp,by simp,.inr ⟨b2,[.slice (some ⟨C,0,none⟩) 1 1],rfl,X,rfl,by simp,by simp⟩⟩,p1,rfl,by omega,l1,w1,by simp;omega⟩,?_⟩
   rintro PA k t z ⟨m,PA',k',ad,f,d,hs,y,B,G,ae,E,o,aj⟩
   simp only [bD,aS,and_true] at hs
   obtain ⟨rfl,rfl,rfl⟩:=hs
   have j:k<=26:=by
    by_cases H:k<=26
    ·exact H
    ·have h1:2^26<=2^(k-1):=aI (by decide) (by omega)
     have h2:(2:Nat)^26=67108864:=by decide
     omega
   refine B8 (fun ah=>?_) (fun _=>split y B G E o j)
   have Q:B7 ((k:Int)-1)=((k-1:Nat):Int):=by rw [C0 (by omega) (by omega)];omega
   obtain ⟨a,ha,H⟩:=y.slV.at (i:=k-1) (by rw [bB];omega)
   rw [bN] at H
   obtain ⟨h4,Mk⟩:=o (k-1) (m[k-1]'(by omega)) (aE (by omega))
   generalize m[k-1]'(by omega)=s at *
   simp only [Q,aD,aT]
   refine ⟨a,ha,by omega,by omega,_,_,_,H,?_⟩
   have ak:=Mk.tenP_ge
   have af:=Mk.tenP_le
   have F:B7 (2*(s.2.1:Int))=2*(s.2.1:Int):=C0 (by omega) (by omega)
   rw [F]
   refine B8 (fun h5=>?_) (fun _=>split y B G E o j)
   refine ⟨a,ha,by omega,by omega,_,_,_,H,?_⟩
   refine y.call (B.call ?_)
   refine I7 Mk Mk h4 h4 (by omega) (by omega) ?_
   intro A2 m2 c2 g2 l2 k2 M2 aa N ab V
   refine ⟨_,_,_,rfl,?_⟩
   refine Ea A7o V rfl rfl (by omega) (by omega) ?_
   intro A3 c3 h3 g3 J p3
   obtain ⟨g4,Z,S⟩:=N.after J
   have hm:2^k=2*2^(k-1):=by
    obtain ⟨i,rfl⟩:∃ i,k=i+1:=⟨k-1,by omega⟩
    rw [bL];simp;omega
   have ac:k<2^k:=Nat.lt_two_pow_self
   refine ⟨⟨m++[(A2,m2,c2)],A3,k+1,c3,g3,g4,rfl,?_,S,by simp;omega,by omega,B0 E (B0 l2 Z),?_,?_⟩,?_⟩
   ·rw [bY];exact p3
   ·refine A2z (fun i s e=>⟨(o i s e).1,(o i s e).2.mono (B0 l2 Z)⟩) ⟨k2,?_⟩
    rw [G,show Hr k=Hr (k-1)*Hr (k-1) by rw [<- A2y];congr 1;omega,aG]
    exact M2.mono Z
   ·rw [Nat.add_sub_cancel];omega
   ·show xn-(k+1)<xn-k
    omega
def B6h{z:Int}{s:Bool}{xn xc m:Nat}(i:ZI h s XA xn xc z)(hz:ZB m z)(hm:m<=100000000):xn<=10000000:=by
 obtain ⟨k,hk⟩:∃ k,k=10000000:=⟨_,rfl⟩
 rw [<- hk]
 refine i.mag.len_le (by decide) ?_
 rw [Kz]
 have a:(z.natAbs:Int)<2^m:=by
  have:((z.natAbs:Nat):Int)<((2^m:Nat):Int):=Int.ofNat_lt.2 hz
  simpa using this
 have b:=D4 (B:=2) (by decide) (show m<=64*k by omega)
 exact Int.lt_of_lt_of_le a b
def Hm{s:Bool}{xn xc:Nat}{z:Int}(gp:Gp g)(p:Priv h g eT 1 A n c (yv l))(i:ZI g s XA xn xc z){m:Nat}(hz:ZB m z)(hm:m<=100000000)(hn:n<=100000000)
 (hK:∀ A' n' c' e3 g' h',Ext g eT A n c l (Mz z) A' n' c' e3 g' h'->K (.slice A' n' c') h'):aF prog Ig #[.agg #[.bool s,.slice XA xn xc],.slice A n c] h K:=by
 have j:=B6h i hz hm
 refine B0n _ _ _ _ _ _ _ ?_
 unfold B4u
 refine Br.of (fun e=>?_) (fun e=>?_)
 ·have a:z<0:=by have:=i.sgn;rw [e] at this;simpa using this.symm
  rw [A7m a] at hK
  refine Np (ch:=45) rfl p (by omega) ?_
  intro A1 u c1 w t r b
  have:=b.len
  refine He (gp.mono b.le) b.priv (i.mag.mono b.le) i.cap j (by simp at this;omega) ?_
  intro A2 o c2 k q f d
  exact ⟨_,_,_,rfl,hK _ _ _ _ _ _ (b.trans d)⟩
 ·have a:¬ z<0:=by have:=i.sgn;rw [e] at this;simpa using this.symm
  rw [Sy a] at hK
  refine He gp p i.mag i.cap j (by omega) ?_
  intro A2 o c2 k q f d
  exact ⟨_,_,_,rfl,hK _ _ _ _ _ _ d⟩
def A2j{s:Bool}{xn xc:Nat}{z:Int}(gp:Gp h)(i:ZI h s XA xn xc z){m:Nat}(hz:ZB m z)(hm:m<=100000000)(hK:K (.string (bs (Mz z))) h):aF prog Vb #[.agg #[.bool s,.slice XA xn xc]] h K:=by
 refine FCall.pure (B0k _ _ _ _ ?_)
 unfold B4o
 refine Hm (l:=[]) (eT:=H0) gp (Priv.nil _ _ _ _) i hz hm (by omega) ?_
 intro A' f e d b c x
 refine ⟨_,_,_,rfl,?_⟩
 have a:=x.len
 refine Nb Ha.und Em Z2 x.priv.slV (by simpa using a) ⟨_,rfl,?_⟩
 exact ⟨B0 x.le x.priv.le,hK⟩
def A5e{s:Bool}{xn xc:Nat}{z:Int}(i:ZI h s XA xn xc z)(hK1: -9223372036854775808<=z->z<9223372036854775808->K (.tuple #[I z,.bool true]) h)(hK0:¬ (-9223372036854775808<=z/\z<9223372036854775808)->K (.tuple #[I 0,.bool false]) h):aF prog A13 #[.agg #[.bool s,.slice XA xn xc]] h K:=by
 have B:=i.zeroIff
 have j:=Ay i.sgn
 refine B4s _ _ _ _ ?_
 unfold B9w
 refine E5 (fun e=>?_) (fun e=>?_)
 ·obtain rfl:z=0:=by omega
  exact hK1 (by omega) (by omega)
 ·obtain ⟨g,a,p,n,u,f⟩:=i.mag
  have l:=O6 n 0
  refine p.load a (by omega) (by omega) ?_
  rw [show ((0:Int)).toNat=0 from rfl]
  refine B8 (fun k=>?_) (fun k=>?_)
  ·refine hK0 ?_
   have q:=i.mag.ge (by decide) (by omega)
   have A:b64^1<=b64^(xn-1):=D4 (by decide) (by omega)
   have t:b64^1=18446744073709551616:=by decide
   omega
  ·obtain ⟨w,rfl⟩:∃ w,g=[w]:=by
    rcases g with _|⟨w,_|⟨y,r⟩⟩
    ·simp at a;omega
    ·exact ⟨w,rfl⟩
    ·simp at a;omega
   rw [Z1] at f
   have o:[w].getD 0 0=w:=rfl
   rw [o] at l ⊢
   rcases j with ⟨rfl,m⟩|⟨rfl,m⟩
   ·refine Br.of (fun _=>?_) (fun c=>by cases c)
    refine B8 (fun d=>?_) (fun d=>?_)
    ·have:B7 (C3 (0-w))=z:=by rw [F6,B1f (by omega) (by omega)];omega
     rw [this];exact hK1 (by omega) (by omega)
    ·refine Br.of (fun b=>by cases b) (fun _=>?_)
     exact hK0 (by omega)
   ·refine Br.of (fun c=>by cases c) (fun _=>?_)
    refine Br.of (fun _=>?_) (fun b=>by cases b)
    refine B8 (fun d=>?_) (fun d=>?_)
    ·have:B7 w=z:=by rw [C0 (by omega) (by omega)];omega
     rw [this];exact hK1 (by omega) (by omega)
    ·exact hK0 (by omega)
end
def C0z(q:Rat)(f:Int):(q-f).num=q.num-f*q.den/\(q-f).den=q.den:=by
 have b:aR (q.num-f*q.den).natAbs q.den=1:=by
  have a:aL (q.num-f*q.den) q.den=aL q.num q.den:=Int.gcd_sub_mul_right_left _ _ _
  have c:aL q.num q.den=1:=by
   have:=q.reduced
   unfold Nat.Coprime at this
   unfold aL
   simpa using this
  rw [c] at a
  unfold aL at a
  simpa using a
 have e:q-f=⟨q.num-f*q.den,q.den,q.den_nz,b⟩:=by
  rw [Rat.sub_def',Rat.mk_eq_mkRat];simp
 rw [e];exact ⟨rfl,rfl⟩
def B2w(a b:Rat):(a*b).num=a.num.tdiv (aR a.num.natAbs b.den:Nat)*b.num.tdiv (aR b.num.natAbs a.den:Nat)/\(a*b).den=a.den/(aR b.num.natAbs a.den)*(b.den/(aR a.num.natAbs b.den)):=by
 show (Rat.mul a b).num=_/\(Rat.mul a b).den=_
 delta Rat.mul
 simp only [Int.divExact_eq_tdiv,Nat.divExact_eq_div,and_self]
def Ze(a b:Rat)(h:a.den.gcd b.den=1):(a+b).num=a.num*b.den+b.num*a.den/\(a+b).den=a.den*b.den:=by
 show (cD a b).num=_/\(cD a b).den=_
 delta cD
 simp only [h,dif_pos,and_self]
def Zd(a b:Rat)(h:a.den.gcd b.den≠1){g r:Nat}{z:Int}(hg:g=a.den.gcd b.den)(hz:z=a.num*(b.den/g:Nat)+b.num*(a.den/g:Nat))(hr:r=z.natAbs.gcd g):(a+b).num=z.tdiv r/\(a+b).den=a.den/g*(b.den/r):=by
 subst hg hz
 have c:r∣b.den:=by rw [hr];exact Nat.dvd_trans (aU ..) (aU ..)
 show (cD a b).num=_/\(cD a b).den=_
 delta cD
 simp only [h,dif_neg,not_false_eq_true]
 rw [Rat.maybeNormalize_eq]
 subst hr
 refine ⟨?_,Nat.mul_div_assoc _ c⟩
 simp only [Int.divExact_eq_tdiv]
def Oz(a:Rat)(z:Int):(a+z).num=z*a.den+a.num/\(a+z).den=a.den:=by
 have:=C0z a (-z)
 rw [Rat.intCast_neg] at this
 have e:a - -(z:Rat)=a+z:=by grind
 rw [e] at this
 refine ⟨by rw [this.1,Int.neg_mul];omega,this.2⟩
def Yv{q:Rat}(h:q.den=1):q=(q.num:Rat):=by
 apply Rat.ext
 ·simp
 ·simpa using h
abbrev dgt(c:UInt8):Bool:=decide (J2 c)
def Nc(l:List UInt8):∀ c∈l.takeWhile dgt,J2 c:=by
 induction l with
 | nil=>simp
 | cons d r ih=>
  intro c a
  by_cases b:J2 d
  ·simp [b] at a
   rcases a with rfl|a
   ·exact b
   ·exact ih c a
  ·simp [b] at a
def B7b(l:List UInt8):Bool:=decide ([45] <+: l)
def Es(l:List UInt8):List UInt8:=if [45] <+: l then l.drop 1 else l
def A7t(l:List UInt8):l=(if B7b l then [45] else [])++Es l:=by
 unfold B7b Es
 by_cases h:[45] <+: l
 ·obtain ⟨t,rfl⟩:=h;simp
 ·simp [h]
def B2f(l:List UInt8):B7b l=(l.head? == some 45):=by
 unfold B7b
 cases l with
 | nil=>simp
 | cons c r=>
  rw [bC,cC,decide_eq_true_iff,beq_iff_eq,aH]
  constructor
  ·rintro ⟨t,e⟩;simp at e;exact e.1.symm
  ·rintro rfl;exact ⟨r,rfl⟩
def Form.parts{l:List UInt8}{neg:Bool}{a b:List UInt8}(f:Form l neg a b):neg=B7b l/\a=(Es l).takeWhile dgt/\(if b=[] then [] else 47::b)=(Es l).dropWhile dgt:=by
 have i:neg=B7b l:=by rw [B2f];exact f.head
 have e:=A7t l
 rw [<- i] at e
 have g:=e.symm.trans f.eq
 rw [List.append_assoc] at g
 have k:=cK g
 have j:∀ c,(if b=[] then [] else 47::b:List UInt8).head? = some c->¬ J2 c:=by
  intro c d
  split at d
  ·simp at d
  ·simp at d;subst d;decide
 have:=Ft f.da j
 rw [<- k] at this
 exact ⟨i,this.1.symm,this.2.symm⟩
section
variable {h g:aP} {K:VP} {l:List UInt8}
def Ko(hl:l.length<=1000000000)(hK:K (.tuple #[.string (bs (l.takeWhile dgt)),.string (bs (l.dropWhile dgt))]) h):aF prog Az #[.string (bs l)] h K:=by
 refine A1z _ ?_
 unfold Zh
 simp only [L6]
 refine ⟨fun L e=>L=[I (((l.takeWhile dgt).length:Nat):Int)]/\e=h,?_,?_⟩
 ·refine ⟨fun L e=>∃ k:Nat,L=[I k]/\e=h/\k<=l.length/\(∀ c∈l.take k,J2 c),fun L _=>l.length-(iAt L 0).toNat,⟨0,rfl,rfl,by omega,by simp⟩,?_⟩
  rintro n e ⟨k,i,rfl,u,g⟩
  obtain rfl:=sI1 i
  have a:(∀ c,(l.drop k).head? = some c->¬ J2 c)->[I (k:Int)]=[I (((l.takeWhile dgt).length:Nat):Int)]/\e=e:=by
   intro y
   have:=Ft g y
   rw [bF] at this
   refine ⟨?_,rfl⟩
   rw [this.1,aV,bX u]
  refine B8 (fun z=>?_) (fun z=>?_)
  ·have f:k<l.length:=by omega
   have d:(bs l)[(k:Int).toNat]? = some l[k]:=by rw [aD,Ry,aE f]
   have r:(l.drop k).head? = some l[k]:=by rw [List.head?_drop,aE f]
   refine ⟨l[k],⟨by omega,d⟩,B8 (fun q=>?_) (fun q=>?_)⟩
   ·refine ⟨l[k],⟨by omega,d⟩,B8 (fun s=>?_) (fun s=>?_)⟩
    ·rw [C0 (by omega) (by omega)]
     refine ⟨⟨k+1,rfl,rfl,by omega,?_⟩,by simp only [iAt,cJ];omega⟩
     rw [List.take_succ_eq_append_getElem f]
     intro c b
     rcases List.mem_append.1 b with j|j
     ·exact g c j
     ·rw [List.mem_singleton.1 j];exact ⟨by omega,by omega⟩
    ·exact a (fun c b=>by rw [r] at b;cases b;intro g;exact s (by have:=g.2;omega))
   ·exact a (fun c b=>by rw [r] at b;cases b;intro g;exact q (by have:=g.1;omega))
  ·exact a (fun c b=>by rw [List.drop_of_length_le (by omega)] at b;cases b)
 ·rintro n e ⟨i,rfl⟩
  obtain rfl:n=(((l.takeWhile dgt).length:Nat):Int):=by simpa using i
  have m:(l.takeWhile dgt).length<=l.length:=(cL _).length_le
  have t:l.take (l.takeWhile dgt).length=l.takeWhile dgt:=by
   conv=>lhs;rw [<- aO (p:=dgt) (l:=l)]
   rw [aO,List.prefix_iff_eq_take.1 (List.takeWhile_prefix _)]
   rw [aV,bX m]
  have o:l.drop (l.takeWhile dgt).length=l.dropWhile dgt:=by
   have w:l.takeWhile dgt++l.drop (l.takeWhile dgt).length=l.takeWhile dgt++l.dropWhile dgt:=by
    rw [aO]
    conv=>lhs;lhs;rw [<- t]
    exact bF _ _
   exact cK w
  refine ⟨⟨by omega,by omega⟩,⟨by omega,by omega⟩,?_⟩
  rw [aD,O7,O7,bH,aW,t,o,aX (by rw [<- o,List.length_drop];omega)]
  exact hK
def Fd(a:List UInt8):((bs a).toList==({ data:=#[] }:ByteArray).toList)=decide (a=[]):=Ow a []
def A9j(hl:l.length<=1000000000)(hK1:∀ neg a b,Form l neg a b->K (.tuple #[.agg #[.bool neg,.string (bs a),.string (bs b)],.bool true]) h)(hK0:(∀ neg a b,¬ Form l neg a b)->∀ neg a b,K (.tuple #[.agg #[.bool neg,.string (bs a),.string (bs b)],.bool false]) h):aF prog A16 #[.string (bs l)] h K:=by
 refine B50 _ ?_
 unfold C01
 refine Xn (q:=[45]) ⟨_,_,rfl,?_⟩
 have C:(Es l).length<=l.length:=by unfold Es;split<;>simp
 show aF prog Az #[.string (bs (Es l))] h _
 refine Ko (by omega) ⟨_,_,rfl,?_⟩
 show Br _ _ _
 have B:Es l=(Es l).takeWhile dgt++(Es l).dropWhile dgt:=List.takeWhile_append_dropWhile.symm
 have w:∀ c∈(Es l).takeWhile dgt,J2 c:=Nc _
 have j:∀ neg a b,Form l neg a b->neg=B7b l/\a=(Es l).takeWhile dgt/\(if b=[] then [] else 47::b)=(Es l).dropWhile dgt:=fun neg a b f=>f.parts
 have g:=A7t l
 have ab:((Es l).takeWhile dgt).length<=l.length:=Nat.le_trans (cL _).length_le C
 have R:((Es l).dropWhile dgt).length<=l.length:=Nat.le_trans (List.dropWhile_sublist _).length_le C
 have aa:∀ c,((Es l).dropWhile dgt).head? = some c->¬ J2 c:=fun c Q=>by
  have:=List.head?_dropWhile_not dgt (Es l)
  rw [Q] at this
  simpa using this
 show Br _ _ _
 have A:decide ([45] <+: l)=B7b l:=rfl
 rw [A]
 generalize B7b l=neg at *
 generalize (Es l).takeWhile dgt=a at *
 generalize (Es l).dropWhile dgt=r at *
 generalize Es l=t at *
 subst B
 have T:((bs a).toList==({ data:=#[48] }:ByteArray).toList)=decide (a=[48]):=Ow a [48]
 rw [T,Fd,Fd]
 refine B8 (fun N=>?_) (fun N=>?_)
 ·subst N
  refine Br.not (Br.of (fun V=>?_) (fun V=>?_))
  ·subst V
   refine hK0 ?_ _ _ []
   intro F z i f
   obtain ⟨rfl,rfl,_⟩:=j _ _ _ f
   rcases f.ha with d|d
   ·exact d rfl
   ·cases d.2.1
  ·subst V
   by_cases G:r=[]
   ·rw [decide_eq_true G]
    subst G
    refine hK1 false [48] [] ⟨by simpa using g,by simpa using w,by simp,by simp,.inr ⟨rfl,rfl,rfl⟩,by simp,by simp⟩
   ·rw [decide_eq_false G]
    refine hK0 ?_ _ _ []
    intro F z i f
    obtain ⟨rfl,rfl,n⟩:=j _ _ _ f
    rcases f.ha with d|d
    ·exact d rfl
    ·rw [d.2.2] at n;exact G (by simpa using n.symm)
 ·refine ⟨fun L Z=>L=[.bool (decide (a=[]\/a.head? = some 48))]/\Z=h,?_,?_⟩
  ·refine B8 (fun d=>⟨by simp [d],rfl⟩) (fun d=>?_)
   obtain ⟨c,k,rfl⟩:=aJ d
   refine ⟨c,⟨by omega,by rw [Ry];rfl⟩,?_,rfl⟩
   congr 2
   rw [cC,beq_iff_eq,decide_eq_true_iff]
   simp only [reduceCtorEq,false_or,bC,aH]
   constructor
   ·intro e;apply UInt8.toNat_inj.1;show c.toNat=48;omega
   ·rintro rfl;rfl
  rintro W Z ⟨hL,rfl⟩
  obtain rfl:W=decide (a=[]\/a.head? = some 48):=by simpa using hL
  refine B8 (fun d=>?_) (fun d=>?_)
  ·refine hK0 ?_ _ _ []
   intro F z i f
   obtain ⟨rfl,rfl,_⟩:=j _ _ _ f
   rcases d with d|d
   ·exact f.ne d
   ·rcases f.ha with n|n
    ·exact n d
    ·exact N n.1
  ·have p:a≠[]:=fun e=>d (.inl e)
   have E:a.head? ≠ some 48:=fun e=>d (.inr e)
   refine B8 (fun n=>?_) (fun n=>?_)
   ·subst n
    exact hK1 neg a [] ⟨by simpa using g,w,by simp,p,.inl E,by simp,by simp⟩
   ·obtain ⟨c,k,rfl⟩:=aJ n
    refine ⟨c,⟨by omega,by rw [Ry];rfl⟩,I4 (fun h4=>?_) (fun h4=>?_)⟩
    ·refine hK0 ?_ _ _ []
     intro F z i f
     obtain ⟨rfl,rfl,o⟩:=j _ _ _ f
     by_cases y:i=[]
     ·simp [y] at o
     ·rw [iN y] at o
      simp at o
      exact h4 (by rw [<- o.1];rfl)
    ·have Q:c=47:=by apply UInt8.toNat_inj.1;show c.toNat=47;omega
     subst Q
     refine ⟨⟨by omega,by rw [L6];simp;omega⟩,?_⟩
     rw [O7,show ((1:Int)).toNat=1 from rfl,L6,aX (by simp),List.drop_succ_cons,bH]
     refine Ko (by simp at R;omega) ⟨_,_,rfl,?_⟩
     have u:k=k.takeWhile dgt++k.dropWhile dgt:=List.takeWhile_append_dropWhile.symm
     have J:∀ c∈k.takeWhile dgt,J2 c:=Nc _
     have X:∀ i:List UInt8,(∀ c∈i,J2 c)->i=k->k.takeWhile dgt=i/\k.dropWhile dgt=[]:=by
      intro i hd e
      subst e
      have:=Ft (r:=[]) hd (by simp)
      simpa using this
     generalize k.takeWhile dgt=b at *
     generalize k.dropWhile dgt=s at *
     have no:(s≠[]\/b=[]\/b.head? = some 48\/b=[49])->∀ neg' z i,¬ Form (((if neg=true then [45] else [])++(a++47::k))) neg' z i:=by
      rintro D F z i f
      rw [<- g] at f
      obtain ⟨rfl,rfl,o⟩:=j _ _ _ f
      by_cases y:i=[]
      ·simp [y] at o
      ·rw [iN y] at o
       simp at o
       obtain ⟨e6,e7⟩:=X i f.db o
       subst e6
       rcases D with m|m|m|m
       ·exact m e7
       ·exact y m
       ·exact f.hb m
       ·exact f.b1 m
     rw [Fd,Fd]
     have O:((bs b).toList==({ data:=#[49] }:ByteArray).toList)=decide (b=[49]):=Ow b [49]
     rw [O]
     refine B8 (fun m=>?_) (fun m=>hK0 (by rw [g];exact no (.inl m)) _ _ _)
     subst m
     rw [bZ] at u
     subst u
     refine Br.not (B8 (fun S=>hK0 (by rw [g];exact no (.inr (.inl S))) _ _ _) (fun S=>?_))
     obtain ⟨c,M,rfl⟩:=aJ S
     refine ⟨c,⟨by omega,by rw [Ry];rfl⟩,I4 (fun h8=>?_) (fun h8=>?_)⟩
     ·by_cases H:c::M=[49]
      ·rw [decide_eq_true H]
       exact hK0 (by rw [g];exact no (.inr (.inr (.inr H)))) _ _ _
      ·rw [decide_eq_false H]
       refine hK1 neg a (c::M) ⟨by simpa using g,w,J,p,.inl E,?_,H⟩
       intro e;simp at e;exact h8 (by rw [e];rfl)
     ·have hh:(c::M).head? = some 48:=by
       simp only [bC,aH]
       apply UInt8.toNat_inj.1;show c.toNat=48;omega
      exact hK0 (by rw [g];exact no (.inr (.inr (.inl hh)))) _ _ _
end
def B6n{q:Rat}(h:q.den=1):K9 q=Mz q.num:=by unfold K9;rw [iP h,bZ]
def B1p{q:Rat}(h:q.den≠1):K9 q=Mz q.num++[47]++Mz (q.den:Int):=by
 unfold K9;rw [iN h,Sy (i:=(q.den:Int)) (by omega),aC];simp
section
variable {h g:aP} {K:VP} {l:List UInt8}
end
structure RQ (h:aP) (w:QV) (q:Rat):Prop where
 num:ZI h w.s w.A w.n w.c q.num
 den:ZI h w.s2 w.A2 w.n2 w.c2 (if q.den=1 then 0 else (q.den:Int))
def ZB.gcd{m:Nat}{x y:Int}(hy:y≠0)(h:ZB m y):ZB m (aL x y:Int):=by
 refine h.le ?_
 rw [aC]
 exact cG (by omega) (Int.natAbs_dvd_natAbs.2 (Int.gcd_dvd_right x y))
section
variable {h h':aP} {K:VP} {A B:Option aN} {n c n' c':Nat} {s s':Bool} {x y z:Int} {m:Nat} {p q:Rat} {a b w:QV} {l:List UInt8}
def RQ.mono(hl:h.le h')(i:RQ h w q):RQ h' w q:=⟨i.num.mono hl,i.den.mono hl⟩
def RQ.whole(i:ZI h s A n c z):RQ h ⟨s,A,n,c,false,none,0,0⟩ (z:Rat):=⟨by simpa using i,by simpa using ZI.zero⟩
def RQ.zero:RQ h ⟨false,none,0,0,false,none,0,0⟩ 0:=⟨ZI.zero,ZI.zero⟩
def V4(i:RQ h w q)(hK:K (.bool (decide (q.den=1))) h):aF prog F0 #[.agg #[.bool w.s2,.slice w.A2 w.n2 w.c2]] h K:=by
 refine F5 i.den ?_
 have:=q.den_nz
 have e:decide ((if q.den=1 then (0:Int) else (q.den:Int))=0)=decide (q.den=1):=by
  rw [decide_eq_decide];split<;>omega
 rw [e];exact hK
def U8(i:ZI h s A n c z)(j:ZI h s' B n' c' y)(h1:q.num=z)(h2:(q.den:Int)=y)(hK:∀ w,RQ h w q->K w.v h):aF prog Y4 #[.agg #[.bool s,.slice A n c],.agg #[.bool s',.slice B n' c']] h K:=by
 subst h1 h2
 refine B0q _ _ _ _ _ _ _ _ ?_
 unfold B52
 refine U7 j ⟨_,rfl,B8 (fun e=>?_) (fun e=>?_)⟩
 ·exact hK ⟨s,A,n,c,false,none,0,0⟩ ⟨i,by rw [iP (by omega)];exact ZI.zero⟩
 ·exact hK ⟨s,A,n,c,s',B,n',c'⟩ ⟨i,by rw [iN (by omega)];exact j⟩
def Er(i:RQ h w q)(hK:∀ s A n c h',h.le h'->ZI h' s A n c (q.den:Int)->K (.agg #[.bool s,.slice A n c]) h'):aF prog Rt #[w.v] h K:=by
 refine C2g _ _ _ _ _ _ _ _ ?_
 unfold C7b
 refine V4 i ⟨_,rfl,B8 (fun e=>?_) (fun e=>?_)⟩
 ·refine Cv (by decide) (by decide) ?_
  intro s A n c d a b
  exact ⟨_,_,_,_,rfl,hK _ _ _ _ _ a (by rw [e];exact b)⟩
 ·have:=i.den
  rw [iN e] at this
  exact hK _ _ _ _ _ (B5 _) this
def Vz(gl:Gtz h)(i:ZI h s A n c x)(j:ZI h s' B n' c' y)(hx:ZB m x)(hy:ZB m y)(hm:m<=6400000000)(hy0:0<y)(hK:∀ s1 A1 n1 c1 s2 A2 n2 c2 h',h.le h'->ZI h' s1 A1 n1 c1 (x.tdiv (aL x y))->ZI h' s2 A2 n2 c2 (y.tdiv (aL x y))->K (.tuple #[.agg #[.bool s1,.slice A1 n1 c1],.agg #[.bool s2,.slice A2 n2 c2]]) h'):aF prog Oc #[.agg #[.bool s,.slice A n c],.agg #[.bool s',.slice B n' c']] h K:=by
 refine B0r _ _ _ _ _ _ _ _ ?_
 unfold B53
 refine U7 j ⟨_,rfl,B8 (fun e=>?_) (fun e=>?_)⟩
 ·subst e
  have k:aL x 1=1:=by simp
  rw [k] at hK
  exact hK _ _ _ _ _ _ _ _ _ (B5 _) (by simpa using i) (by simpa using j)
 ·refine Cx gl i j hx hy hm ?_
  intro A1 n1 c1 t d g
  have k:=Int.gcd_pos_of_ne_zero_right x (show y≠0 by omega)
  have a:ZB m (aL x y:Int):=ZB.gcd (by omega) hy
  refine ⟨_,_,_,_,rfl,R5 (i.mono d) g hx a hm (by omega) ?_⟩
  intro s2 A2 n2 c2 u b l
  refine ⟨_,_,_,_,rfl,b,R5 (j.mono (B0 d b)) (g.mono b) hy a hm (by omega) ?_⟩
  intro p A3 q c3 r f o
  exact ⟨_,_,_,_,rfl,f,hK _ _ _ _ _ _ _ _ _ (B0 d (B0 b f)) (l.mono f) o⟩
def A9n(i:RQ h w q)(hK:∀ w',RQ h w' (-q)->K w'.v h):aF prog B3l #[w.v] h K:=by
 refine C2d _ _ _ _ _ _ _ _ ?_
 unfold C78
 refine Cw i.num ?_
 intro a b
 exact ⟨_,_,_,_,rfl,B5 _,hK ⟨a,w.A,w.n,w.c,w.s2,w.A2,w.n2,w.c2⟩ ⟨by simpa using b,by simpa using i.den⟩⟩
def Uc(i:RQ h w q)(hK:K (I q.num.sign) h):aF prog A17 #[w.v] h K:=by
 refine B8b _ _ _ _ _ _ _ _ ?_
 unfold C4a
 exact Po i.num ⟨_,rfl,hK⟩
def Rm(i:RQ h w q)(hK:K (.bool (decide (q=0))) h):aF prog Od #[w.v] h K:=by
 refine B0u _ _ _ _ _ _ _ _ ?_
 unfold B58
 refine F5 i.num ⟨_,rfl,?_⟩
 have e:decide (q.num=0)=decide (q=0):=by rw [decide_eq_decide];exact aZ
 rw [e];exact hK
def A9r(gl:Gtz h)(i:RQ h a p)(j:RQ h b q)(hp:Sz m p)(hq:Sz m q)(hm:2*m+1<=6400000000)(hK:∀ w h',h.le h'->RQ h' w (p+q)->K w.v h'):aF prog B3n #[a.v,b.v] h K:=by
 have an:=p.den_nz
 have ap:=q.den_nz
 have M:∀ {z:Int},ZB m z->ZB (2*m+1) z:=fun s=>s.mono (by omega)
 refine C2h _ _ _ _ _ _ _ _ _ _ _ _ _ _ _ _ ?_
 unfold C7c
 refine ⟨fun L hp=>L=[.bool (decide (p.den=1/\q.den=1))]/\hp=h,V4 i ⟨_,rfl,B8 (fun e=>?_) (fun e=>?_)⟩,?_⟩
 ·exact V4 j ⟨_,rfl,by simp [e],rfl⟩
 ·exact ⟨by simp [e],rfl⟩
 rintro ag ac ⟨hL,rfl⟩
 obtain rfl:ag=decide (p.den=1/\q.den=1):=by simpa using hL
 refine B8 (fun e=>?_) (fun e=>?_)
 ·refine Ei i.num j.num hp.num hq.num (by omega) ?_
  intro s1 A1 n1 c1 h1 f N
  refine ⟨_,_,_,_,rfl,hK ⟨s1,A1,n1,c1,false,none,0,0⟩ _ f ?_⟩
  have:=RQ.whole N
  rw [Rat.intCast_add,<- Yv e.1,<- Yv e.2] at this
  exact this
 ·refine ⟨fun L hp=>L=[.bool (decide (p.den=1))]/\hp=ac,V4 i ⟨_,rfl,rfl,rfl⟩,?_⟩
  rintro ai ak ⟨hL,rfl⟩
  obtain rfl:ai=decide (p.den=1):=by simpa using hL
  refine B8 (fun O=>?_) (fun O=>?_)
  ·have af:q.den≠1:=fun V=>e ⟨O,V⟩
   have jd:=j.den
   rw [iN af] at jd
   refine N3 i.num jd hp.num hq.den (by omega) ?_
   intro s1 A1 n1 c1 h1 f N
   refine ⟨_,_,_,_,rfl,f,Ei (m:=2*m+1) N (j.num.mono f) ((hp.num.mul hq.den).mono (by omega)) (M hq.num) hm ?_⟩
   intro s2 A2 n2 c2 h2 n i2
   have c:=Oz q p.num
   rw [<- Yv O,Rat.add_comm] at c
   refine ⟨_,_,_,_,rfl,n,hK ⟨s2,A2,n2,c2,b.s2,b.A2,b.n2,b.c2⟩ _ (B0 f n) ⟨by rw [c.1];exact i2,?_⟩⟩
   rw [c.2]
   exact j.den.mono (B0 f n)
  ·refine V4 j ⟨_,rfl,B8 (fun V=>?_) (fun V=>?_)⟩
   ·have d:=i.den
    rw [iN O] at d
    refine N3 j.num d hq.num hp.den (by omega) ?_
    intro s1 A1 n1 c1 h1 f N
    refine ⟨_,_,_,_,rfl,f,Ei (m:=2*m+1) N (i.num.mono f) ((hq.num.mul hp.den).mono (by omega)) (M hp.num) hm ?_⟩
    intro s2 A2 n2 c2 h2 n i2
    have c:=Oz p q.num
    rw [<- Yv V] at c
    refine ⟨_,_,_,_,rfl,n,hK ⟨s2,A2,n2,c2,a.s2,a.A2,a.n2,a.c2⟩ _ (B0 f n) ⟨by rw [c.1];exact i2,?_⟩⟩
    rw [c.2]
    exact i.den.mono (B0 f n)
   ·have d:=i.den
    have o:=j.den
    rw [iN O] at d
    rw [iN V] at o
    refine Cx gl d o hp.den hq.den (by omega) ?_
    intro A1 n1 c1 h1 f G
    rw [Int.gcd_natCast_natCast] at G
    obtain ⟨g,hg⟩:∃ g,g=p.den.gcd q.den:=⟨_,rfl⟩
    rw [<- hg] at G
    have Z:0<g:=by rw [hg];exact Nat.gcd_pos_of_pos_left _ (by omega)
    have ab:g∣q.den:=by rw [hg];exact aU ..
    have t:ZB m (g:Int):=hq.den.le (by simpa using cG (by omega) ab)
    refine ⟨_,_,_,_,rfl,R5 (o.mono f) G hq.den t (by omega) (by omega) ?_⟩
    intro s2 A2 n2 c2 h2 n il
    rw [<- bI] at il
    refine ⟨_,_,_,_,rfl,n,R5 (d.mono (B0 f n)) (G.mono n) hp.den t (by omega) (by omega) ?_⟩
    intro s3 A3 n3 c3 h3 W ir
    rw [<- bI] at ir
    have E:ZB m ((q.den/g:Nat):Int):=hq.den.le (by rw [aC,aC];exact aK _ _)
    have y:ZB m ((p.den/g:Nat):Int):=hp.den.le (by rw [aC,aC];exact aK _ _)
    have D:=B0 f (B0 n W)
    refine ⟨_,_,_,_,rfl,W,N3 (i.num.mono D) (il.mono W) hp.num E (by omega) ?_⟩
    intro s4 A4 n4 c4 h4 B i4
    refine ⟨_,_,_,_,rfl,B,N3 (j.num.mono (B0 D B)) (ir.mono B) hq.num y (by omega) ?_⟩
    intro s5 A5 n5 c5 h5 H i5
    refine ⟨_,_,_,_,rfl,H,Ei (m:=2*m) (i4.mono H) i5 ((hp.num.mul E).mono (by omega)) ((hq.num.mul y).mono (by omega)) (by omega) ?_⟩
    intro s6 A6 n6 c6 h6 T J
    obtain ⟨z,s⟩:∃ z,z=p.num*((q.den/g:Nat):Int)+q.num*((p.den/g:Nat):Int):=⟨_,rfl⟩
    rw [<- s] at J
    have S:ZB (2*m+1) z:=by
     rw [s]
     exact ((hp.num.mul E).mono (show m+m<=2*m by omega)).add ((hq.num.mul y).mono (show m+m<=2*m by omega))
    have k:=B0 D (B0 B (B0 H T))
    refine ⟨_,_,_,_,rfl,T,F5 J ⟨_,rfl,B8 (fun F=>?_) (fun F=>?_)⟩⟩
    ·have:p+q=0:=by
      rw [<- aZ]
      by_cases u:p.den.gcd q.den=1
      ·have:=(Ze p q u).1
       rw [<- hg] at u
       rw [u,bU,bU] at s
       rw [this,<- s,F]
      ·have:=(Zd p q u hg s rfl).1
       rw [this,F];simp
     rw [this] at hK
     exact hK ⟨false,none,0,0,false,none,0,0⟩ _ k RQ.zero
    ·refine U7 (G.mono (B0 n (B0 W (B0 B (B0 H T))))) ⟨_,rfl,B8 (fun ah=>?_) (fun ah=>?_)⟩
     ·have l:g=1:=by omega
      have c:=Ze p q (by rw [<- hg];exact l)
      rw [l,bU,bU] at s
      refine N3 (d.mono k) (o.mono k) hp.den hq.den (by omega) ?_
      intro s7 A7 n7 c7 h7 A X
      refine ⟨_,_,_,_,rfl,A,U8 (q:=p+q) (J.mono A) X (by rw [c.1,s]) (by rw [c.2,aG]) ?_⟩
      intro w iw
      exact ⟨_,_,_,_,_,_,_,_,rfl,B5 _,hK _ _ (B0 k A) iw⟩
     ·have l:p.den.gcd q.den≠1:=by rw [<- hg];omega
      obtain ⟨r,hr⟩:∃ r,r=z.natAbs.gcd g:=⟨_,rfl⟩
      have c:=Zd p q l hg s hr
      have ar:0<r:=by rw [hr];exact Nat.gcd_pos_of_pos_right _ Z
      have ad:r<=g:=by rw [hr];exact cG Z (aU ..)
      have aj:=G.mono (B0 n (B0 W (B0 B (B0 H T))))
      refine Cx (gl.mono k) J aj S (M t) hm ?_
      intro A7 n7 c7 h7 A X
      have e7:aL z (g:Int)=r:=hr.symm
      rw [e7] at X
      have R:ZB m (r:Int):=t.le (by simpa using ad)
      refine ⟨_,_,_,_,rfl,R5 (J.mono A) X S (M R) hm (by omega) ?_⟩
      intro s8 A8 n8 c8 h8 Q i8
      refine ⟨_,_,_,_,rfl,Q,R5 (o.mono (B0 k (B0 A Q))) (X.mono Q) hq.den R (by omega) (by omega) ?_⟩
      intro s9 A9 n9 c9 h9 l9 i9
      rw [<- bI] at i9
      have ae:ZB m ((q.den/r:Nat):Int):=hq.den.le (by rw [aC,aC];exact aK _ _)
      refine ⟨_,_,_,_,rfl,l9,N3 (ir.mono (B0 B (B0 H (B0 T (B0 A (B0 Q l9)))))) i9 y ae (by omega) ?_⟩
      intro al A10 aq ao am C aa
      refine ⟨_,_,_,_,rfl,C,U8 (q:=p+q) (i8.mono (B0 l9 C)) aa c.1 (by rw [c.2,aG]) ?_⟩
      intro w iw
      exact ⟨_,_,_,_,_,_,_,_,rfl,B5 _,hK _ _ (B0 k (B0 A (B0 Q (B0 l9 C)))) iw⟩
def A9l(gl:Gtz h)(i:RQ h a p)(j:RQ h b q)(hp:Sz m p)(hq:Sz m q)(hm:2*m+1<=6400000000)(hK:∀ w h',h.le h'->RQ h' w (p-q)->K w.v h'):aF prog A89 #[a.v,b.v] h K:=by
 refine C2b _ _ _ _ _ _ _ _ _ _ _ _ _ _ _ _ ?_
 unfold C76
 refine A9n j ?_
 intro f e
 refine ⟨_,_,_,_,_,_,_,_,rfl,B5 _,A9r gl i e hp hq.neg hm ?_⟩
 intro g k d c
 rw [<- Rat.sub_eq_add_neg] at c
 exact ⟨_,_,_,_,_,_,_,_,rfl,d,hK _ _ d c⟩
end
structure Gl (h:aP):Prop where
 tz:Gtz h
 p10:Gp h
def Gl.mono{h h':aP}(g:Gl h)(l:h.le h'):Gl h':=⟨g.tz.mono l,g.p10.mono l⟩
section
variable {h h':aP} {K:VP} {A B:Option aN} {n c n' c':Nat} {s s':Bool} {x y z:Int} {m:Nat} {p q:Rat} {a b w:QV} {l:List UInt8}
def A9o(gl:Gtz h)(i:RQ h a p)(j:RQ h b q)(hp:Sz m p)(hq:Sz m q)(hm:m<=6400000000)(hK:∀ w h',h.le h'->RQ h' w (p*q)->K w.v h'):aF prog B3m #[a.v,b.v] h K:=by
 have O:=p.den_nz
 have W:=q.den_nz
 refine C2e _ _ _ _ _ _ _ _ _ _ _ _ _ _ _ _ ?_
 unfold C79
 refine ⟨fun L hp=>L=[.bool (decide (p.num=0\/q.num=0))]/\hp=h,F5 i.num ⟨_,rfl,B8 (fun e=>?_) (fun e=>?_)⟩,?_⟩
 ·exact ⟨by simp [e],rfl⟩
 ·exact F5 j.num ⟨_,rfl,by simp [e],rfl⟩
 rintro y r ⟨n,rfl⟩
 obtain rfl:y=decide (p.num=0\/q.num=0):=by simpa using n
 refine B8 (fun e=>?_) (fun e=>?_)
 ·have:p*q=0:=by
   rw [aZ,aZ] at e
   exact Rat.mul_eq_zero.2 e
  rw [this] at hK
  exact hK ⟨false,none,0,0,false,none,0,0⟩ _ (B5 _) RQ.zero
 ·refine ⟨fun L hp=>L=[.bool (decide (p.den=1/\q.den=1))]/\hp=r,V4 i ⟨_,rfl,B8 (fun e=>?_) (fun e=>?_)⟩,?_⟩
  ·exact V4 j ⟨_,rfl,by simp [e],rfl⟩
  ·exact ⟨by simp [e],rfl⟩
  rintro u V ⟨n,rfl⟩
  obtain rfl:u=decide (p.den=1/\q.den=1):=by simpa using n
  refine B8 (fun e=>?_) (fun e=>?_)
  ·refine N3 i.num j.num hp.num hq.num hm ?_
   intro A A1 E c1 M d F
   refine ⟨_,_,_,_,rfl,hK ⟨A,A1,E,c1,false,none,0,0⟩ _ d ?_⟩
   have:=RQ.whole F
   rw [Rat.intCast_mul,<- Yv e.1,<- Yv e.2] at this
   exact this
  ·have g:=B2w p q
   refine Er j ?_
   intro A A1 E c1 M d Q
   refine ⟨_,_,_,_,rfl,d,Vz (gl.mono d) (i.num.mono d) Q hp.num hq.den hm (by omega) ?_⟩
   intro Z A2 n2 c2 s3 A3 n3 c3 h2 C B o
   have c:=B0 d C
   refine ⟨_,_,_,_,_,_,_,_,rfl,C,Er (i.mono c) ?_⟩
   intro s4 A4 n4 c4 h4 f s
   refine ⟨_,_,_,_,rfl,f,Vz (gl.mono (B0 c f)) (j.num.mono (B0 c f)) s hq.num hp.den hm (by omega) ?_⟩
   intro s5 A5 n5 c5 s6 A6 n6 c6 h5 l D z
   have H:aL p.num (q.den:Int)=aR p.num.natAbs q.den:=rfl
   have N:aL q.num (p.den:Int)=aR q.num.natAbs p.den:=rfl
   rw [H] at B o
   rw [N] at D z
   rw [<- bI] at o z
   refine ⟨_,_,_,_,_,_,_,_,rfl,l,N3 (B.mono (B0 f l)) D hp.num.tdiv hq.num.tdiv hm ?_⟩
   intro s7 A7 n7 c7 h7 k G
   have J:ZB m ((p.den/aR q.num.natAbs p.den:Nat):Int):=hp.den.le (by rw [aC,aC];exact aK _ _)
   have R:ZB m ((q.den/aR p.num.natAbs q.den:Nat):Int):=hq.den.le (by rw [aC,aC];exact aK _ _)
   refine ⟨_,_,_,_,rfl,k,N3 (z.mono k) (o.mono (B0 f (B0 l k))) J R hm ?_⟩
   intro X A8 n8 c8 h8 t S
   refine ⟨_,_,_,_,rfl,t,U8 (q:=p*q) (G.mono t) S g.1 (by rw [g.2,aG]) ?_⟩
   intro w T
   exact ⟨_,_,_,_,_,_,_,_,rfl,B5 _,hK _ _ (B0 c (B0 f (B0 l (B0 k t)))) T⟩
def A0f(i:RQ h w q)(hK:∀ w h',h.le h'->RQ h' w q⁻¹->K w.v h'):aF prog Qi #[w.v] h K:=by
 have p:=q.den_nz
 refine A75 _ _ _ _ _ _ _ _ ?_
 unfold A8x
 refine Po i.num ⟨_,rfl,E5 (fun e=>?_) (fun e=>?_)⟩
 ·have c:q.num=0:=Int.sign_eq_zero_iff_zero.1 e
  have:q⁻¹=0:=by rw [Rat.num_eq_zero.1 c];exact Rat.inv_zero
  rw [this] at hK
  exact hK ⟨false,none,0,0,false,none,0,0⟩ _ (B5 _) RQ.zero
 ·have c:q.num≠0:=fun m=>e (by rw [m];rfl)
  refine E5 (fun j=>?_) (fun j=>?_)
  ·have k:q.num<0:=Int.sign_neg_iff.1 (by omega)
   refine Er i ?_
   intro o A1 n c1 b a g
   refine ⟨_,_,_,_,rfl,a,Cw g ?_⟩
   intro t l
   refine ⟨_,_,_,_,rfl,B5 _,Cw (i.num.mono a) ?_⟩
   intro s r
   refine ⟨_,_,_,_,rfl,B5 _,U8 (q:=q⁻¹) l r ?_ ?_ ?_⟩
   ·rw [Rat.num_inv,j];omega
   ·rw [Rat.den_inv,iN c];omega
   ·intro w f
    exact ⟨_,_,_,_,_,_,_,_,rfl,B5 _,hK _ _ a f⟩
  ·have d:0<q.num:=by
    rcases Int.lt_trichotomy q.num 0 with b|b|b
    ·exact absurd (Int.sign_eq_neg_one_of_neg b) j
    ·exact absurd b c
    ·exact b
   refine Er i ?_
   intro o A1 n c1 b a g
   refine ⟨_,_,_,_,rfl,a,U8 (q:=q⁻¹) g (i.num.mono a) ?_ ?_ ?_⟩
   ·rw [Rat.num_inv,Int.sign_eq_one_of_pos d,Int.one_mul]
   ·rw [Rat.den_inv,iN c];omega
   ·intro w f
    exact ⟨_,_,_,_,_,_,_,_,rfl,B5 _,hK _ _ a f⟩
def Jr(gl:Gtz h)(i:RQ h a p)(j:RQ h b q)(hp:Sz m p)(hq:Sz m q)(hm1:1<=m)(hm:m<=6400000000)(hK:∀ w h',h.le h'->RQ h' w (p/q)->K w.v h'):aF prog Yt #[a.v,b.v] h K:=by
 refine C2f _ _ _ _ _ _ _ _ _ _ _ _ _ _ _ _ ?_
 unfold C7a
 refine A0f j ?_
 intro l g c f
 refine ⟨_,_,_,_,_,_,_,_,rfl,c,A9o (gl.mono c) (i.mono c) f hp (hq.inv hm1) hm ?_⟩
 intro k n e d
 rw [<- Rat.div_def] at d
 exact ⟨_,_,_,_,_,_,_,_,rfl,e,hK _ _ (B0 c e) d⟩
def A1n{t:List UInt8}{k:Nat}(h:∀ c∈t,J2 c)(hk:t.length<=k):ZB (4*k) (N8 t:Int):=by
 unfold ZB
 rw [aC]
 exact bK (Dh h) (aI (by decide) (by omega))
def Form.lens{neg:Bool}{a b:List UInt8}(f:Form l neg a b):a.length<=l.length/\b.length<=l.length:=by
 have:=congrArg List.length f.eq
 simp only [aM] at this
 by_cases c:b=[]
 ·rw [iP c] at this;subst c;simp at this ⊢;omega
 ·rw [iN c] at this;simp at this;omega
def A9q(gl:Gtz h)(hl:l.length<=100000000)(hK1:∀ q,l=K9 q->∀ w h',h.le h'->RQ h' w q->K (.tuple #[w.v,.bool true]) h')(hK0:¬ IsNum l->∀ (w:QV) h',h.le h'->RQ h' w 0->K (.tuple #[w.v,.bool false]) h'):aF prog A6j #[.string (bs l)] h K:=by
 refine B8a _ ?_
 unfold C49
 refine A9j (by omega) ?_ ?_
 ·intro neg a b f
  refine ⟨_,_,_,_,rfl,Br.not ?_⟩
  have N:=f.lens
  refine Yk f.da (by omega) ?_
  intro A1 Q c1 G t D
  refine ⟨_,_,_,_,rfl,?_⟩
  refine ⟨fun L X=>∃ g:Bool,L=[.bool g,.slice A1 Q c1,.bool false,.slice none 0 0]/\X=G/\ZI G g A1 Q c1 (Xc neg a),Br.of (fun e=>?_) (fun e=>?_),?_⟩
  ·refine Cw D ?_
   intro g n
   exact ⟨_,_,_,_,rfl,g,rfl,rfl,by unfold Xc;rw [e];exact n⟩
  ·exact ⟨false,rfl,rfl,by unfold Xc;rw [e];exact D⟩
  rintro J o m j x2 W aa Z R ⟨g,E,rfl,n⟩
  simp only [bD,aS,Value.bool.injEq,and_true] at E
  obtain ⟨rfl,⟨rfl,rfl,rfl⟩,rfl,rfl,rfl,rfl⟩:=E
  have c:(Xc neg a).natAbs=N8 a:=by unfold Xc;split<;>simp
  rw [Fd]
  refine B8 (fun r=>?_) (fun r=>?_)
  ·subst r
   obtain ⟨q,i⟩:=f.isNum.2 (by unfold Yu;simp)
   obtain ⟨B,z⟩:=f.of_txt i
   refine hK1 q i ⟨J,o,m,j,false,none,0,0⟩ _ t ⟨by rw [B];exact n,?_⟩
   rw [z,show Yu []=1 from rfl,iP rfl];exact ZI.zero
  ·refine Yk f.db (by omega) ?_
   intro A4 S c4 h4 p O
   have C:ZB (4*l.length) (Xc neg a):=(A1n f.da (k:=l.length) (by omega)).le (by rw [c,aC];exact bG _)
   refine ⟨_,_,_,_,rfl,Cx (gl.mono (B0 t p)) (n.mono p) O C (A1n f.db (k:=l.length) (by omega)) (by omega) ?_⟩
   intro A5 n5 c5 h5 s i5
   refine ⟨_,_,_,_,rfl,U7 i5 ⟨_,rfl,?_⟩⟩
   have d:Yu b=N8 b:=by unfold Yu;rw [iN r]
   have u:aL (Xc neg a) (N8 b:Int)=aR (N8 a) (Yu b):=by
    rw [d];show aR (Xc neg a).natAbs (N8 b)=_;rw [c]
   rw [u]
   refine Br.not (B8 (fun F=>?_) (fun F=>?_))
   ·obtain ⟨q,i⟩:=f.isNum.2 (by omega)
    obtain ⟨B,z⟩:=f.of_txt i
    have y:Yu b≠1:=by
     intro V
     have M:=Ou f.db r (.inl f.hb)
     rw [<- d,V] at M
     apply f.b1
     rw [<- M];simp [O9,By,K7,dch]
    refine hK1 q i ⟨J,o,m,j,false,A4,S,c4⟩ _ (B0 t (B0 p s)) ⟨by rw [B];exact n.mono (B0 p s),?_⟩
    rw [z,iN y,d];exact O.mono s
   ·refine hK0 ?_ ⟨false,none,0,0,false,none,0,0⟩ _ (B0 t (B0 p s)) RQ.zero
    intro A
    exact F (by rw [f.isNum.1 A];rfl)
 ·intro T neg a b
  refine ⟨_,_,_,_,rfl,Br.not ?_⟩
  refine hK0 ?_ ⟨false,none,0,0,false,none,0,0⟩ _ (B5 _) RQ.zero
  intro A
  obtain ⟨H,a',b',f⟩:=A.form
  exact T _ _ _ f
def A39(gp:Gp h)(i:RQ h w q)(hq:Sz m q)(hm:m<=40000000)(hK:K (.string (bs (K9 q))) h):aF prog Vf #[w.v] h K:=by
 refine FCall.pure (B0s _ _ _ _ _ _ _ _ ?_)
 unfold B56
 refine V4 i ⟨_,rfl,B8 (fun e=>?_) (fun e=>?_)⟩
 ·rw [B6n e] at hK
  refine A5e i.num (fun f o=>?_) (fun f=>?_)
  ·refine ⟨_,_,rfl,Br.of (fun _=>A73 _ ?_) (fun e=>by cases e)⟩
   unfold A8w
   exact Xj gp f o ⟨_,rfl,_,rfl,B5 _,hK⟩
  ·refine ⟨_,_,rfl,Br.of (fun e=>by cases e) (fun _=>?_)⟩
   exact A2j gp i.num hq.num (by omega) ⟨_,rfl,B5 _,hK⟩
 ·rw [B1p e] at hK
  have c:=i.den
  rw [iN e] at c
  refine Hm (l:=[]) (eT:=H0) gp (Priv.nil _ _ _ _) i.num hq.num (by omega) (by omega) ?_
  intro A1 E c1 z s f g
  refine ⟨_,_,_,rfl,?_⟩
  have r:(Mz q.num).length<=50000000:=by
   unfold Mz
   have:=Di hq.num
   split<;>simp<;>omega
  have p:=g.len
  refine Np (ch:=47) rfl g.priv (by omega) ?_
  intro A2 C c2 B u o k
  have b:=g.trans k
  have d:=b.len
  rw [aM,List.length_singleton] at d
  refine Hm (gp.mono b.le) k.priv (c.mono b.le) hq.den (by omega) (by omega) ?_
  intro A3 A c3 D t y n
  refine ⟨_,_,_,rfl,?_⟩
  rw [List.append_assoc] at n
  have a:=b.trans n
  have j:=a.len
  refine Nb Ha.und Em Z2 a.priv.slV (by simpa using j) ⟨_,rfl,?_⟩
  refine ⟨B0 a.le a.priv.le,?_⟩
  simpa using hK
end
structure Tx (m:Nat) (l:List UInt8):Prop where
 len:l.length<=100000000
 sz:Sz m (rv l)
def B6o{m:Nat}{z:Int}(h:ZB m z):(Mz z).length<=m+2:=by
 have:=Di h
 unfold Mz;split
 ·rw [List.length_cons];omega
 ·omega
def A7l{m:Nat}{q:Rat}(h:Sz m q):(K9 q).length<=2*m+4:=by
 have a:=B6o h.num
 have b:=Di (n:=q.den) (m:=m) (by have:=h.den;unfold ZB at this;simpa using this)
 unfold K9
 split
 ·simp;omega
 ·simp;omega
def B1o(q:Rat):∃ c r,K9 q=c::r/\(c=45↔q<0):=by
 have f:=Hq q
 have a:K9 q≠[]:=by
  intro e
  have:=f.eq
  rw [e] at this
  have d:=f.ne
  have:=congrArg List.length this
  simp only [aM,List.length_nil] at this
  exact d (bV (by omega))
 obtain ⟨c,r,e⟩:=aJ a
 refine ⟨c,r,e,?_⟩
 have b:=f.head
 rw [e,bC,cC,decide_eq_true_iff,beq_iff_eq,aH] at b
 rw [<- b,Rat.lt_iff];simp
section
variable {h:aP} {K:VP} {m:Nat} {a b:List UInt8}
end
def C6f(h:aP)(r:Value)(h':aP):Prop:=r= .bool true/\h.le h'
def B24{x:List UInt8}{k:Nat}(hl:x.length<=k)(hk:1<=k):Sz (4*k) (rv x):=by
 by_cases d:IsNum x
 ·obtain ⟨neg,a,b,f⟩:=d.form
  obtain ⟨g,i⟩:=f.rv_num d
  have e:=f.lens
  have c:(Xc neg a).natAbs=N8 a:=by unfold Xc;split<;>simp
  refine ⟨?_,?_⟩
  ·rw [g];exact (A1n f.da (k:=k) (by omega)).le (by rw [c,aC];exact bG _)
  ·rw [i]
   unfold Yu
   split
   ·exact ZB.one (by omega)
   ·exact A1n f.db (by omega)
 ·rw [B25 d];exact Sz.zero (by omega)
end Go.Proofs.YtmbfcbbkbefgfaaGreatDoor
namespace Go.Proofs.YtmbfcbbkbefgfaaGreatDoor
set_option maxRecDepth 20000
open Go Go.RowKit
def memOf(W:World):aP:=fun b=>W.heap[b]?
def frame_of{P:Program}{f:FuncId}{args:Array Value}{W:World}(x:aF P f args (memOf W) (C6f (memOf W))):Calls P f args W fun e w'=>e= .returned (.bool true)/\Below W.heap.size W w':=by
 refine (x W (fun b o e=>e)).mono ?_
 rintro e W' ⟨r,l,i,⟨g,c⟩,a⟩
 subst g
 refine ⟨i,a.os,a.tape,a.output,a.size,fun k j=>?_⟩
 have d:memOf W k=some W.heap[k]:=Array.getElem?_eq_getElem j
 have:=a.sim k _ (c k _ d)
 rw [this];exact d.symm
def Qa{W:World}{a:aN}{v:Value}(e:W.cell? a=some v):(memOf W).cell? a=some v:=by
 unfold World.cell? at e
 unfold Heap.cell? memOf
 exact e
def A84{P:Program}{W:World}{x:String × DataW Unit}{rest:List (String × DataW Unit)}(h:laidMet P (x::rest) W):laidMet P rest W:=by
 obtain ⟨n,d⟩:=x
 obtain ⟨l,⟨g,t,j,a,p,q,o,r,m,k,i,rfl⟩,c,e⟩:=h
 exact ⟨q,i,(List.nodup_append.1 c).2.1,fun b off f=>e b off (List.mem_append_right _ f)⟩
def C5k:List Int:=[0,1,28,2,29,14,24,3,30,22,20,15,25,17,4,8,31,27,13,23,21,19,16,7,26,12,18,6,11,5,10,9]
def B6v:List Int:=[0,1,56,2,57,49,28,3,61,58,42,50,38,29,17,4,62,47,59,36,45,43,51,22,53,39,33,30,24,18,12,5,63,55,48,27,60,41,37,16,46,35,44,21,52,32,23,11,54,26,40,15,34,20,31,10,25,14,19,9,13,8,7,6]
def C0x:List Int:=[1,10,100,1000,10000,100000,1000000,10000000,100000000,1000000000,10000000000,100000000000,1000000000000,10000000000000,100000000000000,1000000000000000,10000000000000000,100000000000000000,1000000000000000000,10000000000000000000]
def B9d:prog.globalNamed "math/bits.deBruijn64tab" = some 0:=by kernel_rfl
def B9e:prog.globalNamed "internal/strconv.uint64pow10" = some 3:=by kernel_rfl
def tabs_gl{W:World}(h:laidMet prog [("math/bits.deBruijn32tab",Rows.laid_math_bits_deBruijn32tab),("math/bits.deBruijn64tab",Rows.laid_math_bits_deBruijn64tab),("internal/strconv.uint64pow10",Rows.laid_internal_strconv_uint64pow10)] W):Gl (memOf W):=by
 have i:=A84 h
 have j:=A84 i
 have g:Lib.TabIs prog W "math/bits.deBruijn64tab" .u8 B6v:=Lib.tabIs_of_head (rest:=[("internal/strconv.uint64pow10",Rows.laid_internal_strconv_uint64pow10)]) B9d (by kernel_rfl) underlying354 underlying5 (by kernel_rfl) (by kernel_rfl) i
 have d:Lib.TabIs prog W "internal/strconv.uint64pow10" .u64 C0x:=Lib.tabIs_of_head (rest:=[]) B9e (by kernel_rfl) underlying358 underlying270 (by kernel_rfl) (by kernel_rfl) j
 have f:∀ k,k<64->A2t k<B6v.length/\B6v.getD (A2t k) 0=(k:Int):=by decide +kernel
 have e:∀ k,k<20->C0x.getD k 0=((10^k:Nat):Int):=by decide +kernel
 refine ⟨fun k c=>?_,fun k c=>?_⟩
 ·obtain ⟨a,b⟩:=f k c
  have:=Qa (g.cell B9d (A2t k) a)
  rw [E6,aT,Nat.zero_add,this,b]
 ·have:=Qa (d.cell B9e k (by show k<20;exact c))
  rw [E6,aT,Nat.zero_add,this,e k c]
def B39(zs:List Int)(k:IntKind):Obj->Obj
 | .cells _ t frozen=>.cells (zs.map (cH k)).toArray t frozen
 | o=>o
def layTabs(a:Array Obj):Array Obj:=((a.modify 4 (B39 C5k .u8)).modify 0 (B39 B6v .u8)).modify 3 (B39 C0x .u64)
