/- A part. -/
import Derived.Test.YtmbfcbbkbefgfaaGreatDoorG20
import Derived.Test.YtmbfcbbkbefgfaaGreatDoorG09
import Derived.Test.YtmbfcbbkbefgfaaGreatDoorRows
import Derived.Lib.LaidTab
open Go.Proofs.Tryz
set_option linter.all false
open Bool renaming eq_iff_iff->aZ
open Int renaming natAbs_natCast->aC,toNat_natCast->aE,sign_eq_one_of_pos->aF,gcd->aK,natCast_mul->aL,natCast_pow->aY,sign_eq_neg_one_of_neg->bF,mul_ne_zero->bO,ofNat_tdiv->bW,mul_le_mul_of_nonneg_left->cI,tdiv_eq_ediv_of_dvd->cU,gcd_natCast_natCast->cV
open List renaming getElem?_eq_getElem->aG,exists_cons_of_ne_nil->aN,length_append->aR,getElem?_cons_zero->aS,take_of_length_le->aT,takeWhile_append_dropWhile->aU,length_take->aV,drop_zero->bD,length_map->bM,head?_cons->bN,take_append_drop->bU,mem_of_mem_take->bV,take_succ_eq_append_getElem->cD,append_assoc->cF,getElem_map->cG,replicate->cL,getElem?_cons_succ->cR,append_cancel_left->cT,takeWhile_sublist->cW
open List.cons renaming injEq->aI
open Nat renaming pow_le_pow_right->aH,gcd->aJ,div_le_self->aQ,le_refl->aW,lt_of_lt_of_le->bC,mul_one->bH,gcd_dvd_right->bI,sub_zero->bJ,min_eq_left->bL,pow_le_pow_left->bX,pow_succ->bZ,le_trans->cC,div_one->cH,le_of_dvd->cO,gcd_pos_of_pos_right->cP
open Option.some renaming injEq->bG
open Rat renaming lt_iff->aM,divInt->bB,num_eq_zero->bK,intCast_add->cJ,add->cK,ceil_eq_neg_floor_neg->cM
open _root_.Go.Value renaming int->cQ
open _root_.Go.Value.int renaming injEq->aP
open _root_.Go.Value.slice renaming injEq->bY
open _root_.Go renaming Addr->aO
open _root_.Go.Proofs.YtmbfcbbkbefgfaaGreatDoor renaming FCall->aD,Heap->aX,den_ne->cN
namespace Go.Proofs.YtmbfcbbkbefgfaaGreatDoor
set_option maxRecDepth 20000
open Go
def Ib(i:Nat):Nat:=10^(19*2^i)
def B20(i:Nat):Ib i=(10^19)^(2^i):=Nat.pow_mul _ _ _
def B6q(i:Nat):0<Ib i:=Nat.pow_pos (by decide)
def B1z:Ib 0=10000000000000000000:=by decide
def A2p(i:Nat):Ib (i+1)=Ib i*Ib i:=by
 unfold Ib
 rw [<- Nat.pow_add]
 congr 1
 rw [bZ];omega
def C0n(i:Nat):(Ib i:Int)<b64^(2^i):=by
 have h:(10^19)^(2^i)<(18446744073709551616:Nat)^(2^i):=Nat.pow_lt_pow_left (by decide) (Nat.pos_iff_ne_zero.1 (Nat.pow_pos (by decide)))
 rw [<- B20] at h
 have a:((Ib i:Nat):Int)<((18446744073709551616^(2^i):Nat):Int):=Int.ofNat_lt.2 h
 rw [aY] at a
 exact a
def C0o(i:Nat):(2:Int)^(63*2^i)<=(Ib i:Int):=by
 have h:(2^63)^(2^i)<=(10^19)^(2^i):=bX (by decide) _
 rw [<- B20,<- Nat.pow_mul] at h
 have a:((2^(63*2^i):Nat):Int)<=((Ib i:Nat):Int):=Int.ofNat_le.2 h
 rw [aY] at a
 exact a
def C38{k m:Nat}(h:(2:Int)^k<2^m):k<m:=by
 by_cases a:k<m
 ·exact a
 ·have:=C9 (B:=2) (by decide) (show m<=k by omega)
  omega
abbrev slT(s:Option aO × Nat × Nat):Value:=.slice s.1 s.2.1 s.2.2
def Pws(h:aX)(PA:Option aO)(k:Nat):Prop:=∃ ss:List (Option aO × Nat × Nat),ss.length=k/\SlV h PA (ss.map slT)/\∀ i s,ss[i]? = some s->s.2.1<=s.2.2/\Mw h s.1 s.2.1 (Ib i:Int)
def Pws.mono{h h':aX}(l:h.le h'){PA:Option aO}{k:Nat}(p:Pws h PA k):Pws h' PA k:=by
 obtain ⟨b,c,d,a⟩:=p
 exact ⟨b,c,d.mono l,fun i s e=>⟨(a i s e).1,(a i s e).2.mono l⟩⟩
def Pws.take{h:aX}{PA:Option aO}{k j:Nat}(p:Pws h PA k)(hj:j<=k):Pws h PA j:=by
 obtain ⟨a,f,d,b⟩:=p
 refine ⟨a.take j,by rw [aV];omega,?_,fun i s e=>?_⟩
 ·have:=SlV.cut (c:=(a.map slT).length) d (Nat.zero_le j) (by rw [bM];omega) (aW _)
  rw [I0,bD,bJ,<- List.map_take] at this
  exact this
 ·rw [List.getElem?_take] at e
  split at e
  ·exact b i s e
  ·cases e
def Pws.at{h:aX}{PA:Option aO}{k i:Nat}(p:Pws h PA k)(hi:i<k):∃ (a:aO) (A:Option aO) (n c:Nat),PA=some a/\h.cell? (a.add i)=some (.slice A n c)/\n<=c/\Mw h A n (Ib i:Int):=by
 obtain ⟨l,m,e,g⟩:=p
 obtain ⟨a,d,b⟩:=e.at (i:=i) (by rw [bM];omega)
 rw [cG] at b
 obtain ⟨j,f⟩:=g i l[i] (aG (by omega))
 exact ⟨a,_,_,_,d,b,j,f⟩
def Mw.tenP_le{h:aX}{A:Option aO}{n i:Nat}(m:Mw h A n (Ib i:Int)):n<=2^i:=m.len_le (by decide) (C0n i)
def Mw.tenP_ge{h:aX}{A:Option aO}{n i:Nat}(m:Mw h A n (Ib i:Int)):2^i<2*n:=by
 have a:=m.lt (by decide)
 rw [Kz] at a
 have b:=C38 (Int.lt_of_le_of_lt (C0o i) a)
 omega
def Ext.weak{g g0 g' h':aX}{eT e2:TypeId}{A A':Option aO}{n c n' c':Nat}{l t:List UInt8}(l0:g0.le g)(x:Ext g eT A n c l t A' n' c' e2 g' h'):Ext g0 eT A n c l t A' n' c' e2 g' h':=⟨B0 l0 x.le,x.priv,x.len,x.fit,x.tag⟩
def B9a(w n:Nat):w<=(pad w n).length:=by simp [pad];omega
def C0v{j:Nat}(hj:j<=30):B6 (19*2^(min j 64))=((19*2^j:Nat):Int):=by
 rw [bL (by omega)]
 have b:2^j<=2^30:=aH (by decide) hj
 have a:(19*2^j:Int)=((19*2^j:Nat):Int):=by rw [aL,aY];rfl
 rw [a,B8 (by omega) (by have:(2:Nat)^30=1073741824:=by decide
                         omega)]
def A1g{l:List UInt8}(hd:∀ c∈l,J9 c):(Q8 l:Int)<b64^l.length:=by
 have b:=Lw hd
 have d:10^l.length<=(18446744073709551616:Nat)^l.length:=bX (by decide) _
 have a:((Q8 l:Nat):Int)<((18446744073709551616^l.length:Nat):Int):=Int.ofNat_lt.2 (bC b d)
 rw [aY] at a
 exact a
def St:∀ (k:Nat) {h g:aX} {K:VP} {A XA PA:Option aO} {n c xn xc pc v W:Nat} {eT:TypeId} {l:List UInt8},Gp g->Priv h g eT 1 A n c (yv l)->Mw g XA xn (v:Int)->xn<=xc->xn<=10000000->Pws g PA k->k<=pc->k<=26->(W=0\/W=19*2^k)->n+(pad W v).length<=1000000000->
 (∀ A' n' c' e3 g' h',Ext g eT A n c l (pad W v) A' n' c' e3 g' h'->K (.slice A' n' c') h')->aD prog H1 #[.slice A n c,.slice XA xn xc,I (W:Int),.slice PA k pc] h K:=by
 intro k
 induction k with
 | zero=>
  intro h g K A XA PA n c xn xc pc v W eT l f p M t D s F Z hW J u
  have:=B9a W v
  refine Jh _ _ _ _ _ _ _ _ _ _ ?_
  unfold Ji
  refine B7 (fun _=>?_) (fun e=>absurd (by decide) e)
  refine Fg f p M D (by omega) (by omega) ?_
  intro A' n' c' C g' h' x
  exact ⟨_,_,_,rfl,u _ _ _ C g' _ x⟩
 | succ j ih=>
  intro h g K A XA PA n c xn xc pc v W eT l f p M t D s F Z hW J u
  have X:=B9a W v
  have e1:B6 (((j+1:Nat):Int)-1)=(j:Int):=by rw [B8 (by omega) (by omega)];omega
  refine Jh _ _ _ _ _ _ _ _ _ _ ?_
  unfold Ji
  simp only [e1,aE,bJ,I0,C0v (show j<=30 by omega)]
  refine B7 (fun e=>absurd e (by omega)) (fun _=>B7 (fun _=>?_) (fun _=>?_))
  ·refine Fg f p M D (by omega) (by omega) ?_
   intro A' n' c' C g' h' x
   exact ⟨_,_,_,rfl,u _ _ _ C g' _ x⟩
  ·obtain ⟨a,PA',pn,ai,V,hc,m,Mp⟩:=s.at (i:=j) (by omega)
   refine ⟨a,V,by omega,by omega,_,_,_,by rw [bH];exact B5 p.le hc,?_⟩
   have ag:=Mp.tenP_le
   have ad:2^j<=2^26:=aH (by decide) (by omega)
   have aj:(2:Nat)^26=67108864:=by decide
   have H:=B6q j
   refine p.call ?_
   refine S8 M Mp t m (by omega) (by omega) (by omega) ?_
   intro A1 m1 c1 A2 m2 c2 g1 d k1 S M1 M2 h1 O
   refine ⟨_,_,_,_,_,_,rfl,?_⟩
   rw [<- Int.natCast_ediv] at M1
   rw [<- Int.natCast_emod] at M2
   have hv:=Nat.div_add_mod v (Ib j)
   have y:=Nat.mod_lt v H
   have aa:=aQ v (Ib j)
   generalize v/Ib j=q at *
   generalize v%Ib j=r at *
   have hz:=M1.len_zero (by decide)
   have L:=M.lt (by decide)
   have T:m1<=xn:=M1.len_le (by decide) (by omega)
   have ac:m2<=xn:=M2.len_le (by decide) (by
    have h0:0<=Ib j*q:=Nat.zero_le _
    generalize Ib j*q=z at *
    omega)
   have B:v=q*10^(19*2^j)+r:=by rw [<- hv,Nat.mul_comm];rfl
   have af:2^(j+1)=2*2^j:=by rw [bZ];omega
   refine B7 (fun e=>absurd e (by omega)) (fun _=>?_)
   refine E4 (fun e0=>E4 (fun eW=>?_) (fun eW=>?_)) (fun e0=>?_)
   ·obtain rfl:W=0:=by omega
    obtain rfl:q=0:=by omega
    obtain rfl:v=r:=by omega
    refine ⟨⟨by omega,by omega⟩,?_⟩
    refine ih (W:=0) (f.mono d) O M2 S (by omega) ((s.mono d).take (by omega)) (by omega) (by omega) (.inl rfl) J ?_
    intro A4 n4 c4 R Q h4 E
    exact ⟨_,_,_,rfl,u _ _ _ _ _ _ (E.weak d)⟩
   all_goals
    have hw:q≠0\/19*2^j<=W:=by omega
    have b:=A3d (w:=W) (h:=q) (l:=r) (k:=19*2^j) y hw
    rw [<- B] at b
    have G:(pad (19*2^j) r).length=19*2^j:=Yk y
    have ae:(pad W v).length=(pad (W-19*2^j) q).length+19*2^j:=by rw [b,aR,G]
    refine ⟨⟨by omega,by omega⟩,?_⟩
    have e3:(if (0:Int)>B6 ((W:Int)-((19*2^j:Nat):Int)) then (0:Int) else B6 ((W:Int)-((19*2^j:Nat):Int)))=((W-19*2^j:Nat):Int):=by
     rw [B8 (by omega) (by omega)]
     split<;>omega
    rw [e3]
    refine ih (f.mono d) O M1 k1 (by omega) ((s.mono d).take (by omega)) (by omega) (by omega) (by omega) (by omega) ?_
    intro A3 n3 c3 e3 g3 h3 o
    have ah:=o.len
    have N:=B0 d o.le
    refine ⟨_,_,_,rfl,⟨by omega,by omega⟩,?_⟩
    refine ih (f.mono N) o.priv (M2.mono o.le) S (by omega) ((s.mono N).take (by omega)) (by omega) (by omega) (.inr rfl) (by omega) ?_
    intro A4 n4 c4 R Q h4 E
    refine ⟨_,_,_,rfl,u _ _ _ R Q _ ?_⟩
    rw [b]
    exact (o.trans E).weak d
def Ig:∀ (k:Nat) {h:aX} {K:VP} {PA:Option aO} {pc:Nat} {l:List UInt8},(∀ c∈l,J9 c)->l.length<=100000000->Pws h PA k->k<=pc->k<=30->(∀ A n c h',h.le h'->n<=c->Mw h' A n (Q8 l:Int)->K (.slice A n c) h')->aD prog M0 #[.string (bs l),.slice PA k pc] h K:=by
 intro k
 induction k using Nat.strongRecOn with
 | _ k ih=>
  intro h K PA pc l w V B ac hk G
  refine Xm _ _ _ _ ?_
  unfold Wf
  rw [K0]
  have b:aD prog N4 #[.string (bs l)] h (fun r x=>∃ (A:Option aO) (n c:Nat),r= .slice A n c/\K (.slice A n c) x):=by
   refine Ss w V ?_
   intro A n c h' m f M
   exact ⟨_,_,_,rfl,G _ _ _ _ m f M⟩
  refine ⟨fun s x=>x=h/\∃ j:Nat,s=[I ((j:Int)-1)]/\j<=k,fun s _=>(iAt s 0+1).toNat,⟨rfl,k,by rw [B8 (by omega) (by omega)],aW _⟩,?_⟩
  rintro last x ⟨rfl,j,W,hj⟩
  obtain rfl:last=(j:Int)-1:=by simpa using W
  refine B7 (fun h0=>?_) (fun h0=>B7 (fun _=>b) (fun e=>absurd (show (j:Int)-1<0 by omega) e))
  obtain ⟨i,rfl⟩:∃ i,j=i+1:=⟨j-1,by omega⟩
  have T:((i+1:Nat):Int)-1=(i:Int):=by omega
  have S:0<2^i:=Nat.pow_pos (by decide)
  simp only [T,aE,bJ,I0,C0v (show i<=30 by omega)]
  refine B7 (fun e=>absurd e (by omega)) (fun _=>B7 (fun D=>?_) (fun D=>?_))
  ·refine ⟨⟨trivial,i,by rw [B8 (by omega) (by omega)],by omega⟩,?_⟩
   simp only [iAt,aS]
   rw [B8 (by omega) (by omega)]
   omega
  refine B7 (fun e=>absurd e (by omega)) (fun _=>B7 (fun _=>b) (fun E=>B7 (fun e=>absurd e (by omega)) (fun _=>?_)))
  have Q:B6 ((l.length:Int)-((19*2^i:Nat):Int))=((l.length-19*2^i:Nat):Int):=by rw [B8 (by omega) (by omega)];omega
  simp only [Q,aE,P6,bD,bJ]
  obtain ⟨a,PA',pn,ad,H,f,o,Mp⟩:=B.at (i:=i) (by omega)
  refine ⟨⟨by omega,by omega⟩,⟨by omega,by omega⟩,a,H,by omega,by omega,_,_,_,by rw [bH];exact f,?_⟩
  have Z:=Mp.tenP_le
  have O:19*2^i<l.length:=by omega
  have u:∀ c∈l.take (l.length-19*2^i),J9 c:=fun c f=>w c (bV f)
  have q:∀ c∈l.drop (l.length-19*2^i),J9 c:=fun c f=>w c (List.mem_of_mem_drop f)
  have C:(l.take (l.length-19*2^i)).length=l.length-19*2^i:=by rw [aV];omega
  have g:(l.drop (l.length-19*2^i)).length=19*2^i:=by rw [List.length_drop];omega
  have d:Q8 l=Q8 (l.take (l.length-19*2^i))*Ib i+Q8 (l.drop (l.length-19*2^i)):=by
   have:=Lx (l.take (l.length-19*2^i)) (l.drop (l.length-19*2^i))
   rw [bU,g] at this
   exact this
  have L:=A1g w
  have t:=A1g u
  have p:=A1g q
  rw [C] at t
  rw [g] at p
  refine ih i (by omega) u (by omega) (B.take (by omega)) (by omega) (by omega) ?_
  intro A1 n1 c1 D m X M1
  refine ⟨_,_,_,rfl,m,?_⟩
  have N:=M1.len_le (by decide) t
  refine H8 M1 (Mp.mono m) X o (by omega) (by omega) ?_
  intro A2 n2 c2 h2 z k2 M2
  refine ⟨_,_,_,rfl,z,⟨by omega,by omega⟩,⟨by omega,by omega⟩,?_⟩
  rw [<- aL] at M2
  have J:=M2.len_le (by decide) (Int.lt_of_le_of_lt (Int.ofNat_le.2 (by rw [d];exact Nat.le_add_right _ _)) L)
  rw [aT (by rw [g];omega)]
  refine ih i (by omega) q (by omega) ((B.mono (B0 m z)).take (by omega)) (by omega) (by omega) ?_
  intro A3 n3 c3 h3 y R M3
  refine ⟨_,_,_,rfl,y,?_⟩
  have aa:=M3.len_le (by decide) p
  refine R9 (M2.mono y) M3 k2 R (by omega) (by omega) ?_
  intro A4 n4 c4 h4 F k4 M4
  refine ⟨_,_,_,rfl,F,G _ _ _ _ (B0 m (B0 z (B0 y F))) k4 ?_⟩
  rw [<- Int.natCast_add,<- d] at M4
  exact M4
section
variable {h g:aX} {K:VP} {A XA:Option aO} {n c:Nat} {eT:TypeId} {l:List UInt8}
def A2q{hs:aX}{ss:List (Option aO × Nat × Nat)}{s:Option aO × Nat × Nat}(h3:∀ i s,ss[i]? = some s->s.2.1<=s.2.2/\Mw hs s.1 s.2.1 (Ib i:Int))(h4:s.2.1<=s.2.2/\Mw hs s.1 s.2.1 (Ib ss.length:Int)):∀ i t,(ss++[s])[i]? = some t->t.2.1<=t.2.2/\Mw hs t.1 t.2.1 (Ib i:Int):=by
 intro i t e
 by_cases b:i<ss.length
 ·rw [List.getElem?_append_left b] at e;exact h3 i t e
 ·rw [List.getElem?_append_right (by omega)] at e
  by_cases a:i=ss.length
  ·subst a
   simp at e
   subst e;exact h4
  ·rw [List.getElem?_eq_none (by simp;omega)] at e;cases e
def A01{hs:aX}{b:Nat}{e:TypeId}: ∀ i (t:Option aO × Nat × Nat),[((some ⟨b,0,none⟩:Option aO),1,1)][i]? = some t->t.2.1<=t.2.2/\Mw (hs.put b (.cells #[U 10000000000000000000] e)) t.1 t.2.1 (Ib i:Int):=by
 intro i t a
 rcases i with _|i
 ·simp at a
  subst a
  refine ⟨aW _,[10000000000000000000],rfl,SlI.new _ _ _ _ _,?_,?_,?_⟩
  ·intro x c;simp at c;subst c;decide
  ·unfold Norm;simp
  ·rw [B1z];simp [val]
 ·simp at a
def Uu(hd:∀ c∈l,J9 c)(hl:l.length<=100000000)(hK:∀ A n c h',h.le h'->n<=c->Mw h' A n (Q8 l:Int)->K (.slice A n c) h'):aD prog Gg #[.string (bs l)] h K:=by
 refine Xl _ ?_
 unfold We
 rw [K0]
 refine B7 (fun h5=>?_) (fun _=>?_)
 ·refine Dx Q0 rfl ?_
  intro x r
  refine ⟨_,_,_,rfl,?_⟩
  refine Dv A82 (Priv.nil _ _ _ none) rfl rfl (by omega) (by omega) ?_
  intro A1 c1 h1 J j O
  refine ⟨fun s u=>∃ (d:List (Option aO × Nat × Nat)) (PA:Option aO) (k q:Nat) (g:aX),s=[.slice PA k q]/\Priv u g Fo 1 PA k q (d.map slT)/\d.length=k/\0<k/\h.le g/\(∀ i s,d[i]? = some s->s.2.1<=s.2.2/\Mw g s.1 s.2.1 (Ib i:Int))/\2^(k-1)<=l.length,fun s _=>match s with|[.slice _ n _]=>l.length-n|_=>0,⟨[(some ⟨x,0,none⟩,1,1)],A1,1,c1,J,rfl,O,rfl,by omega,B0 (Heap.le_put _ r) j,fun i s e=>⟨(A01 (hs:=h) (b:=x) (e:=C2) i s e).1,(A01 (hs:=h) (b:=x) (e:=C2) i s e).2.mono j⟩,by simp;omega⟩,?_⟩
  rintro PA k q u ⟨d,PA',k',N,g,hs,p,y,H,B,m,G⟩
  simp only [aI,bY,and_true] at hs
  obtain ⟨rfl,rfl,rfl⟩:=hs
  have z:k-1<27:=by
   by_cases f:k-1<27
   ·exact f
   ·have:2^27<=2^(k-1):=aH (by decide) (by omega)
    have:(2:Nat)^27=134217728:=by decide
    omega
  rw [aE,C0v (show k<=30 by omega)]
  have Q:B6 ((k:Int)-1)=((k-1:Nat):Int):=by rw [B8 (by omega) (by omega)];omega
  have t:Pws u PA k:=⟨d,y,p.slV,fun i s e=>⟨(m i s e).1,(m i s e).2.mono p.le⟩⟩
  refine B7 (fun e=>absurd e (by omega)) (fun _=>B7 (fun Z=>?_) (fun Z=>?_))
  ·obtain ⟨a,F,f⟩:=p.slV.at (i:=k-1) (by rw [bM];omega)
   rw [cG] at f
   obtain ⟨E,M⟩:=m (k-1) (d[k-1]'(by omega)) (aG (by omega))
   generalize d[k-1]'(by omega)=s at *
   rw [Q,aE,bH]
   refine ⟨a,F,by omega,by omega,_,_,_,f,?_⟩
   have C:=M.tenP_le
   refine p.call ?_
   refine H8 M M E E (by omega) (by omega) ?_
   intro A2 L c2 g2 D V M2 h2 R
   refine ⟨_,_,_,rfl,?_⟩
   refine Dv A82 R rfl rfl (by omega) (by omega) ?_
   intro A3 X h3 W o S
   have hm:2^k=2*2^(k-1):=by
    obtain ⟨i,rfl⟩:∃ i,k=i+1:=⟨k-1,by omega⟩
    rw [bZ];simp;omega
   have T:k<2^k:=Nat.lt_two_pow_self
   refine ⟨⟨d++[(A2,L,c2)],A3,k+1,X,W,rfl,?_,by simp;omega,by omega,B0 B (B0 D o),?_,?_⟩,?_⟩
   ·rw [List.map_append];exact S
   ·refine A2q (fun i s e=>⟨(m i s e).1,(m i s e).2.mono (B0 D o)⟩) ⟨V,?_⟩
    rw [y,show Ib k=Ib (k-1)*Ib (k-1) by rw [<- A2p];congr 1;omega,aL]
    exact M2.mono o
   ·rw [Nat.add_sub_cancel];omega
   ·show l.length-(k+1)<l.length-k
    omega
  ·refine Ig k hd hl t p.2.1 (by omega) ?_
   intro A n c h' w f M
   exact ⟨_,_,_,rfl,hK _ _ _ _ (B0 B (B0 p.le w)) f M⟩
 ·refine Ig 0 hd hl ⟨[],rfl,SlV.nil,by simp⟩ (by omega) (by omega) ?_
  intro A n c h' w f M
  exact ⟨_,_,_,rfl,hK _ _ _ _ w f M⟩
def Jx(hd:∀ c∈l,J9 c)(hl:l.length<=100000000)(hK:∀ A n c h',h.le h'->ZI h' false A n c (Q8 l:Int)->K (.agg #[.bool false,.slice A n c]) h'):aD prog Kb #[.string (bs l)] h K:=by
 refine B51 _ ?_
 unfold B9s
 refine Uu hd hl ?_
 intro A n c h' b a M
 refine ⟨_,_,_,rfl,hK _ _ _ _ b ⟨a,?_,?_⟩⟩
 ·rw [aC];exact M
 ·symm;rw [decide_eq_false_iff_not];omega
end
def Priv.le_put'{h g:aX}{e:TypeId}{s:Nat}{A:Option aO}{n c:Nat}{xs:List Value}(p:Priv h g e s A n c xs){b:Nat}(hb:h b=none)(o:Obj):g.le (g.put b o):=by
 intro k f d
 have a:k≠b:=by
  rintro rfl
  rw [p.le k f d] at hb;cases hb
 rw [B9 _ _ a];exact d
def B1j{n:Int}(h0:9223372036854775808<=n)(h1:n<18446744073709551616):B6 n=n-18446744073709551616:=by
 unfold B6 IntKind.wrap
 simp only [IntKind.signed,IntKind.bits]
 have e:n%18446744073709551616=n:=by omega
 simp only [show (2^64:Int)=18446744073709551616 from rfl,show (2^(64-1):Int)=9223372036854775808 from rfl,e]
 rw [iP (by simp;omega)]
section
variable {h g:aX} {K:VP} {A XA:Option aO} {n c:Nat} {eT:TypeId} {l:List UInt8}
def C43{v xn:Nat}(hv:(v:Int)<b64^xn):(dd v).length<=20*xn:=by
 refine Q9.2 ?_
 rw [Nat.pow_mul]
 have a:((v:Nat):Int)<((18446744073709551616^xn:Nat):Int):=by rw [aY];exact hv
 exact bC (Int.ofNat_lt.1 a) (bX (by decide) _)
def Hi{xn xc v:Nat}(gp:Gp g)(p:Priv h g eT 1 A n c (yv l))(M:Mw g XA xn (v:Int))(hxc:xn<=xc)(hx:xn<=10000000)(hn:n<=200000000)
 (hK:∀ A' n' c' e3 g' h',Ext g eT A n c l (P7 v) A' n' c' e3 g' h'->K (.slice A' n' c') h'):aD prog Z9 #[.slice A n c,.slice XA xn xc] h K:=by
 have h0:=M.len_zero (by decide)
 refine Wl _ _ _ _ _ _ ?_
 unfold Si
 refine E4 (fun e=>?_) (fun e=>?_)
 ·obtain rfl:v=0:=by omega
  refine Gc (ch:=48) rfl p (by omega) ?_
  intro A' n' c' F g' h' x
  exact hK _ _ _ _ _ _ x
 ·have X:v≠0:=by omega
  refine E4 (fun T=>?_) (fun T=>?_)
  ·obtain ⟨xs,u,sx,dx,nx,C⟩:=M
   obtain ⟨w,rfl⟩:∃ w,xs=[w]:=by
    rcases xs with _|⟨w,_|⟨w',r⟩⟩
    ·simp at u;omega
    ·exact ⟨w,rfl⟩
    ·simp at u;omega
   rw [Co] at C
   subst C
   refine (SlI.mono p.le sx).load u (by omega) (by omega) ?_
   have o:=dx v (by simp)
   refine Hh (gp.mono p.le) p (by have:(v:Int)<18446744073709551616:=o.2;omega) (by omega) ?_
   intro A' n' c' F g' h' x
   exact ⟨_,_,_,rfl,hK _ _ _ _ _ _ x⟩
  ·have ah:=C43 (M.lt (by decide))
   have ak:(pad 0 v).length<=200000000:=by rw [A8b];omega
   refine Dx Q0 rfl ?_
   intro L J
   refine ⟨_,_,_,rfl,?_⟩
   have p1:=p.put J (.cells #[U 10000000000000000000] C2)
   have l1:=p.le_put' J (.cells #[U 10000000000000000000] C2)
   have w1:=fun i s e=>A01 (hs:=g) (b:=L) (e:=C2) i s e
   generalize h.put L (Obj.cells #[U 10000000000000000000] C2)=h1 at *
   generalize g.put L (Obj.cells #[U 10000000000000000000] C2)=g1 at *
   refine Dx A82 rfl ?_
   intro b2 R
   refine ⟨_,_,_,rfl,?_⟩
   have split:∀ {z:aX} {m:List (Option aO × Nat × Nat)} {PA:Option aO} {k t:Nat} {f d:aX},Priv z f Fo 1 PA k t (m.map slT)->Priv f d eT 1 A n c (yv l)->m.length=k->g.le d->(∀ i s,m[i]? = some s->s.2.1<=s.2.2/\Mw d s.1 s.2.1 (Ib i:Int))->k<=26->
    aD prog H1 #[.slice A n c,.slice XA xn xc,I (0:Int),.slice PA k t] z (fun r Q=>∃ (A1:Option aO) (n1 c1:Nat),r= .slice A1 n1 c1/\K (.slice A1 n1 c1) Q):=by
    intro z m PA k t f d y E B H o j
    obtain ⟨g3,O,q⟩:=y.swap E
    have D:=B0 H q.le
    refine St k (W:=0) (gp.mono D) O (M.mono D) hxc hx ⟨m,B,q.slV,fun i s e=>⟨(o i s e).1,(o i s e).2.mono q.le⟩⟩ q.2.1 j (.inl rfl) (by omega) ?_
    intro A' n' c' F g' h' x
    refine ⟨_,_,_,rfl,hK _ _ _ F g' _ ?_⟩
    rw [A8b,<- Ab X] at x
    exact x.weak D
   refine ⟨fun s z=>∃ (m:List (Option aO × Nat × Nat)) (PA:Option aO) (k t:Nat) (f d:aX),s=[.slice PA k t]/\Priv z f Fo 1 PA k t (m.map slT)/\Priv f d eT 1 A n c (yv l)/\m.length=k/\0<k/\g.le d/\(∀ i s,m[i]? = some s->s.2.1<=s.2.2/\Mw d s.1 s.2.1 (Ib i:Int))/\2^(k-1)<=2*xn,fun s _=>match s with|[.slice _ n _]=>xn-n|_=>0,⟨[(some ⟨L,0,none⟩,1,1)],_,1,1,h1,g1,rfl,⟨by simp,by simp,.inr ⟨b2,[.slice (some ⟨L,0,none⟩) 1 1],rfl,R,rfl,by simp,by simp⟩⟩,p1,rfl,by omega,l1,w1,by simp;omega⟩,?_⟩
   rintro PA k t z ⟨m,PA',k',ae,f,d,hs,y,E,B,ad,H,o,aj⟩
   simp only [aI,bY,and_true] at hs
   obtain ⟨rfl,rfl,rfl⟩:=hs
   have j:k<=26:=by
    by_cases G:k<=26
    ·exact G
    ·have h1:2^26<=2^(k-1):=aH (by decide) (by omega)
     have h2:(2:Nat)^26=67108864:=by decide
     omega
   refine B7 (fun af=>?_) (fun _=>split y E B H o j)
   have T:B6 ((k:Int)-1)=((k-1:Nat):Int):=by rw [B8 (by omega) (by omega)];omega
   obtain ⟨a,ha,G⟩:=y.slV.at (i:=k-1) (by rw [bM];omega)
   rw [cG] at G
   obtain ⟨h4,Mk⟩:=o (k-1) (m[k-1]'(by omega)) (aG (by omega))
   generalize m[k-1]'(by omega)=s at *
   simp only [T,aE,bH]
   refine ⟨a,ha,by omega,by omega,_,_,_,G,?_⟩
   have ac:=Mk.tenP_ge
   have ag:=Mk.tenP_le
   have F:B6 (2*(s.2.1:Int))=2*(s.2.1:Int):=B8 (by omega) (by omega)
   rw [F]
   refine B7 (fun h5=>?_) (fun _=>split y E B H o j)
   refine ⟨a,ha,by omega,by omega,_,_,_,G,?_⟩
   refine y.call (E.call ?_)
   refine H8 Mk Mk h4 h4 (by omega) (by omega) ?_
   intro A2 m2 c2 g2 l2 k2 M2 aa Z al V
   refine ⟨_,_,_,rfl,?_⟩
   refine Dv A82 V rfl rfl (by omega) (by omega) ?_
   intro A3 c3 h3 g3 D p3
   obtain ⟨g4,S,N⟩:=Z.after D
   have hm:2^k=2*2^(k-1):=by
    obtain ⟨i,rfl⟩:∃ i,k=i+1:=⟨k-1,by omega⟩
    rw [bZ];simp;omega
   have ai:k<2^k:=Nat.lt_two_pow_self
   refine ⟨⟨m++[(A2,m2,c2)],A3,k+1,c3,g3,g4,rfl,?_,N,by simp;omega,by omega,B0 H (B0 l2 S),?_,?_⟩,?_⟩
   ·rw [List.map_append];exact p3
   ·refine A2q (fun i s e=>⟨(o i s e).1,(o i s e).2.mono (B0 l2 S)⟩) ⟨k2,?_⟩
    rw [B,show Ib k=Ib (k-1)*Ib (k-1) by rw [<- A2p];congr 1;omega,aL]
    exact M2.mono S
   ·rw [Nat.add_sub_cancel];omega
   ·show xn-(k+1)<xn-k
    omega
def B6g{z:Int}{s:Bool}{xn xc m:Nat}(i:ZI h s XA xn xc z)(hz:ZB m z)(hm:m<=100000000):xn<=10000000:=by
 obtain ⟨k,hk⟩:∃ k,k=10000000:=⟨_,rfl⟩
 rw [<- hk]
 refine i.mag.len_le (by decide) ?_
 rw [Kz]
 have a:(z.natAbs:Int)<2^m:=by
  have:((z.natAbs:Nat):Int)<((2^m:Nat):Int):=Int.ofNat_lt.2 hz
  simpa using this
 have b:=C9 (B:=2) (by decide) (show m<=64*k by omega)
 exact Int.lt_of_lt_of_le a b
def Ht{s:Bool}{xn xc:Nat}{z:Int}(gp:Gp g)(p:Priv h g eT 1 A n c (yv l))(i:ZI g s XA xn xc z){m:Nat}(hz:ZB m z)(hm:m<=100000000)(hn:n<=100000000)
 (hK:∀ A' n' c' e3 g' h',Ext g eT A n c l (Ia z) A' n' c' e3 g' h'->K (.slice A' n' c') h'):aD prog Im #[.agg #[.bool s,.slice XA xn xc],.slice A n c] h K:=by
 have j:=B6g i hz hm
 refine B0r _ _ _ _ _ _ _ ?_
 unfold B4y
 refine Br.of (fun e=>?_) (fun e=>?_)
 ·have a:z<0:=by have:=i.sgn;rw [e] at this;simpa using this.symm
  rw [Th a] at hK
  refine Gc (ch:=45) rfl p (by omega) ?_
  intro A1 u c1 w t q b
  have:=b.len
  refine Hi (gp.mono b.le) b.priv (i.mag.mono b.le) i.cap j (by simp at this;omega) ?_
  intro A2 k c2 o r f d
  exact ⟨_,_,_,rfl,hK _ _ _ _ _ _ (b.trans d)⟩
 ·have a:¬ z<0:=by have:=i.sgn;rw [e] at this;simpa using this.symm
  rw [Jt a] at hK
  refine Hi gp p i.mag i.cap j (by omega) ?_
  intro A2 k c2 o r f d
  exact ⟨_,_,_,rfl,hK _ _ _ _ _ _ d⟩
def Hr{s:Bool}{xn xc:Nat}{z:Int}(gp:Gp h)(i:ZI h s XA xn xc z){m:Nat}(hz:ZB m z)(hm:m<=100000000)(hK:K (.string (bs (Ia z))) h):aD prog Ik #[.agg #[.bool s,.slice XA xn xc]] h K:=by
 refine FCall.pure (B0o _ _ _ _ ?_)
 unfold B4s
 refine Ht (l:=[]) (eT:=G0) gp (Priv.nil _ _ _ _) i hz hm (by omega) ?_
 intro A' d c b f e x
 refine ⟨_,_,_,rfl,?_⟩
 have a:=x.len
 refine Ju Ek.und Cp T3 x.priv.slV (by simpa using a) ⟨_,rfl,?_⟩
 exact ⟨B0 x.le x.priv.le,hK⟩
def A5f{s:Bool}{xn xc:Nat}{z:Int}(i:ZI h s XA xn xc z)(hK1: -9223372036854775808<=z->z<9223372036854775808->K (.tuple #[I z,.bool true]) h)(hK0:¬ (-9223372036854775808<=z/\z<9223372036854775808)->K (.tuple #[I 0,.bool false]) h):aD prog A0r #[.agg #[.bool s,.slice XA xn xc]] h K:=by
 have x:=i.zeroIff
 have p:=Af i.sgn
 refine B4w _ _ _ _ ?_
 unfold B9q
 refine E4 (fun e=>?_) (fun e=>?_)
 ·obtain rfl:z=0:=by omega
  exact hK1 (by omega) (by omega)
 ·obtain ⟨g,a,k,o,u,b⟩:=i.mag
  have m:=N8 o 0
  refine k.load a (by omega) (by omega) ?_
  rw [show ((0:Int)).toNat=0 from rfl]
  refine B7 (fun n=>?_) (fun n=>?_)
  ·refine hK0 ?_
   have j:=i.mag.ge (by decide) (by omega)
   have t:b64^1<=b64^(xn-1):=C9 (by decide) (by omega)
   have y:b64^1=18446744073709551616:=by decide
   omega
  ·obtain ⟨w,rfl⟩:∃ w,g=[w]:=by
    rcases g with _|⟨w,_|⟨A,r⟩⟩
    ·simp at a;omega
    ·exact ⟨w,rfl⟩
    ·simp at a;omega
   rw [Co] at b
   have l:[w].getD 0 0=w:=rfl
   rw [l] at m ⊢
   rcases p with ⟨rfl,q⟩|⟨rfl,q⟩
   ·refine Br.of (fun _=>?_) (fun c=>by cases c)
    refine B7 (fun d=>?_) (fun d=>?_)
    ·have:B6 (C1 (0-w))=z:=by rw [E7,B1j (by omega) (by omega)];omega
     rw [this];exact hK1 (by omega) (by omega)
    ·refine Br.of (fun f=>by cases f) (fun _=>?_)
     exact hK0 (by omega)
   ·refine Br.of (fun c=>by cases c) (fun _=>?_)
    refine Br.of (fun _=>?_) (fun f=>by cases f)
    refine B7 (fun d=>?_) (fun d=>?_)
    ·have:B6 w=z:=by rw [B8 (by omega) (by omega)];omega
     rw [this];exact hK1 (by omega) (by omega)
    ·exact hK0 (by omega)
end
def A05(q:Rat)(f:Int):(q-f).num=q.num-f*q.den/\(q-f).den=q.den:=by
 have b:aJ (q.num-f*q.den).natAbs q.den=1:=by
  have a:aK (q.num-f*q.den) q.den=aK q.num q.den:=Int.gcd_sub_mul_right_left _ _ _
  have c:aK q.num q.den=1:=by
   have:=q.reduced
   unfold Nat.Coprime at this
   unfold aK
   simpa using this
  rw [c] at a
  unfold aK at a
  simpa using a
 have e:q-f=⟨q.num-f*q.den,q.den,q.den_nz,b⟩:=by
  rw [Rat.sub_def',Rat.mk_eq_mkRat];simp
 rw [e];exact ⟨rfl,rfl⟩
def Ob{r:Rat}(h:0<r):r⁻¹.num=r.den/\(r⁻¹.den:Int)=r.num/\0<r⁻¹:=by
 have a:0<r.num:=by
  have:=aM 0 r
  simp at this;exact this.1 h
 refine ⟨?_,?_,Rat.inv_pos.2 h⟩
 ·rw [Rat.num_inv,aF a,Int.one_mul]
 ·rw [Rat.den_inv,iN (by omega)];omega
def A8f{r:Rat}(h:0<r):0<r.num:=by
 have:=aM 0 r
 simp at this;exact this.1 h
def Iv{q:Rat}{f:Int}(h1:(f:Rat)<q)(h2:q<f+1):(q-f)⁻¹.num=q.den/\((q-f)⁻¹.den:Int)=q.num-f*q.den/\(q-f)⁻¹.den<q.den/\1<(q-f)⁻¹:=by
 have j:0<q-f:=by grind
 have i:q-f<1:=by grind
 obtain ⟨a,b,c⟩:=Ob j
 obtain ⟨d,e⟩:=A05 q f
 have g:=(aM (q-f) 1).1 i
 simp only [Rat.one_num,Rat.one_den] at g
 rw [e] at a g
 rw [d] at b g
 refine ⟨a,b,by omega,?_⟩
 rw [aM]
 simp only [Rat.one_num,Rat.one_den]
 rw [a,b];omega
def Yv(q:Rat):(q<=q.ceil)/\((q.ceil:Rat)<q+1)/\((q.floor:Rat)<=q)/\(q<q.floor+1):=by
 refine ⟨Rat.le_ceil,Rat.ceil_lt,Rat.floor_le q,?_⟩
 have:=Rat.lt_floor_add_one q
 simpa using this
def A48{q:Rat}(h:(q.floor:Rat)<q):q.ceil=q.floor+1:=by
 obtain ⟨i,c,d,e⟩:=Yv q
 have a:(q.floor:Rat)<(q.ceil:Rat):=by grind
 have b:(q.ceil:Rat)<((q.floor+2:Int):Rat):=by
  rw [cJ];simp;grind
 have f:=Rat.intCast_lt_intCast.1 a
 have g:=Rat.intCast_lt_intCast.1 b
 omega
def A70{q:Rat}(h:¬ (q.floor:Rat)<q):(q.ceil:Rat)=q/\(q.floor:Rat)=q:=by
 have a:=Rat.floor_le q
 have e:(q.floor:Rat)=q:=Rat.le_antisymm a (Rat.not_lt.1 h)
 refine ⟨?_,e⟩
 have:q.ceil=q.floor:=by
  conv=>lhs;rw [<- e]
  exact Rat.ceil_intCast _
 rw [this,e]
def B35{lo hi:Rat}(h:¬ ((lo.ceil:Rat)<=hi\/¬ lo<=hi)):(lo.floor:Rat)<lo/\lo<=hi/\hi<lo.floor+1:=by
 have a:¬ (lo.ceil:Rat)<=hi:=fun e=>h (.inl e)
 have c:lo<=hi:=by
  by_cases e:lo<=hi
  ·exact e
  ·exact absurd (.inr e) h
 by_cases b:(lo.floor:Rat)<lo
 ·refine ⟨b,c,?_⟩
  have:=A48 b
  rw [this,cJ,Rat.not_le] at a
  simpa using a
 ·exfalso
  rw [(A70 b).1] at a
  exact a c
def Hp(lo hi:Rat):Rat:=
 if _h:(lo.ceil:Rat)<=hi\/¬ lo<=hi then lo.ceil else lo.floor+(Hp (hi-lo.floor)⁻¹ (lo-lo.floor)⁻¹)⁻¹
termination_by lo.den+hi.den
decreasing_by
 obtain ⟨a,b,c⟩:=B35 _h
 have d:=(Iv a (Std.lt_of_le_of_lt b c)).2.2.1
 have e:=(Iv (Std.lt_of_lt_of_le a b) c).2.2.1
 omega
def Uk{lo hi:Rat}(h:(lo.ceil:Rat)<=hi):Hp lo hi=lo.ceil:=by
 rw [Hp,dif_pos (.inl h)]
def Qa{lo hi:Rat}(h:¬ (lo.ceil:Rat)<=hi)(h2:lo<=hi):Hp lo hi=lo.floor+(Hp (hi-lo.floor)⁻¹ (lo-lo.floor)⁻¹)⁻¹:=by
 rw [Hp,dif_neg (fun e=>e.elim h (fun e=>e h2))]
def Ch{a b:Rat}(ha:0<a)(h:a<=b):b⁻¹<=a⁻¹:=by
 have e:0<b:=Std.lt_of_lt_of_le ha h
 obtain ⟨g,f,_⟩:=Ob ha
 obtain ⟨c,d,_⟩:=Ob e
 have:=(Rat.le_iff a b).1 h
 rw [Rat.le_iff,g,f,c,d]
 rw [Int.mul_comm (b.den:Int),Int.mul_comm (a.den:Int)]
 exact this
def A2z:∀ n (lo hi:Rat),lo.den+hi.den<=n->0<lo->lo<=hi->(lo<=Hp lo hi/\Hp lo hi<=hi)/\∀ y,lo<=y->y<=hi->(Hp lo hi).den<=y.den/\(Hp lo hi).num<=y.num:=by
 intro n
 induction n with
 | zero=>intro lo hi h;have:=lo.den_nz;omega
 | succ n ih=>
  intro lo hi E o j
  by_cases h:(lo.ceil:Rat)<=hi
  ·rw [Uk h]
   refine ⟨⟨(Yv lo).1,h⟩,?_⟩
   intro y k m
   have B:0<y:=Std.lt_of_lt_of_le o k
   refine ⟨by rw [Rat.den_intCast];have:=y.den_nz;omega,?_⟩
   rw [Rat.num_intCast,Rat.ceil_le_iff]
   refine Rat.le_trans k ?_
   rw [Rat.le_iff,Rat.num_intCast,Rat.den_intCast]
   have A:=A8f B
   have s:1<=(y.den:Int):=by have:=y.den_nz;omega
   have:=cI s (Int.le_of_lt A)
   simpa using this
  ·obtain ⟨a,b,c⟩:=B35 (fun e=>e.elim h (fun e=>e j))
   rw [Qa h j]
   generalize hf:lo.floor=f at *
   have l:0<=f:=by
    have:(-1:Int)<lo.floor:=by
     have N:(0:Int)<=lo.floor:=Rat.le_floor_iff.2 (by simpa using Rat.le_of_lt o)
     omega
    omega
   obtain ⟨T,S,G,M⟩:=Iv a (Std.lt_of_le_of_lt b c)
   obtain ⟨V,X,Q,C⟩:=Iv (Std.lt_of_lt_of_le a b) c
   have i:(hi-f)⁻¹<=(lo-f)⁻¹:=Ch (by grind) (by grind)
   obtain ⟨⟨p,w⟩,q⟩:=ih (hi-f)⁻¹ (lo-f)⁻¹ (by omega) (by grind) i
   generalize hx:Hp (hi-f)⁻¹ (lo-f)⁻¹=x at *
   have r:1<x:=Std.lt_of_lt_of_le C p
   have g:0<x:=by grind
   obtain ⟨O,L,D⟩:=Ob g
   have t:=Ch (show 0<(hi-f)⁻¹ by grind) p
   have u:=Ch g w
   rw [Rat.inv_inv] at t u
   refine ⟨⟨by grind,by grind⟩,?_⟩
   have d:((f:Rat)+x⁻¹).den=x⁻¹.den/\((f:Rat)+x⁻¹).num=x⁻¹.num+f*x⁻¹.den:=by
    have:=A05 (x⁻¹) (-f)
    rw [Rat.intCast_neg] at this
    have e:x⁻¹ - -(f:Rat)=f+x⁻¹:=by grind
    rw [e] at this
    refine ⟨this.2,?_⟩
    rw [this.1];grind
   intro y k m
   obtain ⟨W,J,F,Z⟩:=Iv (Std.lt_of_lt_of_le a k) (Std.lt_of_le_of_lt m c)
   obtain ⟨R,H⟩:=q (y-f)⁻¹ (Ch (by grind) (by grind)) (Ch (by grind) (by grind))
   have z:x⁻¹.den<=y.den:=by omega
   refine ⟨by rw [d.1];exact z,?_⟩
   rw [d.2]
   have:=cI (show (x⁻¹.den:Int)<=y.den by omega) l
   omega
def B72{lo hi:Rat}(h0:0<lo)(h:lo<=hi):lo<=Hp lo hi/\Hp lo hi<=hi:=(A2z _ lo hi (aW _) h0 h).1
def A84{m:Nat}{lo hi:Rat}(h0:0<lo)(h:lo<=hi)(hs:Sz m lo):Sz m (Hp lo hi):=by
 obtain ⟨⟨b,_⟩,c⟩:=A2z _ lo hi (aW _) h0 h
 obtain ⟨a,d⟩:=c lo Rat.le_refl h
 have:=A8f (Std.lt_of_lt_of_le h0 b)
 exact ⟨hs.num.le (by omega),hs.den.le (by simpa using a)⟩
def B2c(lo hi:Rat):Rat:=if hi<0 then -Hp (-hi) (-lo) else if lo<=0 then 0 else Hp lo hi
def B3a(a b:Rat):(a*b).num=a.num.tdiv (aJ a.num.natAbs b.den:Nat)*b.num.tdiv (aJ b.num.natAbs a.den:Nat)/\(a*b).den=a.den/(aJ b.num.natAbs a.den)*(b.den/(aJ a.num.natAbs b.den)):=by
 show (Rat.mul a b).num=_/\(Rat.mul a b).den=_
 delta Rat.mul
 simp only [Int.divExact_eq_tdiv,Nat.divExact_eq_div,and_self]
def Yz(a b:Rat)(h:a.den.gcd b.den=1):(a+b).num=a.num*b.den+b.num*a.den/\(a+b).den=a.den*b.den:=by
 show (cK a b).num=_/\(cK a b).den=_
 delta cK
 simp only [h,dif_pos,and_self]
def Yy(a b:Rat)(h:a.den.gcd b.den≠1){g r:Nat}{z:Int}(hg:g=a.den.gcd b.den)(hz:z=a.num*(b.den/g:Nat)+b.num*(a.den/g:Nat))(hr:r=z.natAbs.gcd g):(a+b).num=z.tdiv r/\(a+b).den=a.den/g*(b.den/r):=by
 subst hg hz
 have c:r∣b.den:=by rw [hr];exact Nat.dvd_trans (bI ..) (bI ..)
 show (cK a b).num=_/\(cK a b).den=_
 delta cK
 simp only [h,dif_neg,not_false_eq_true]
 rw [Rat.maybeNormalize_eq]
 subst hr
 refine ⟨?_,Nat.mul_div_assoc _ c⟩
 simp only [Int.divExact_eq_tdiv]
def Pc(a:Rat)(z:Int):(a+z).num=z*a.den+a.num/\(a+z).den=a.den:=by
 have:=A05 a (-z)
 rw [Rat.intCast_neg] at this
 have e:a - -(z:Rat)=a+z:=by grind
 rw [e] at this
 refine ⟨by rw [this.1,Int.neg_mul];omega,this.2⟩
def Yq{q:Rat}(h:q.den=1):q=(q.num:Rat):=by
 apply Rat.ext
 ·simp
 ·simpa using h
abbrev dgt(c:UInt8):Bool:=decide (J9 c)
def Nf(l:List UInt8):∀ c∈l.takeWhile dgt,J9 c:=by
 induction l with
 | nil=>simp
 | cons d r ih=>
  intro c a
  by_cases b:J9 d
  ·simp [b] at a
   rcases a with rfl|a
   ·exact b
   ·exact ih c a
  ·simp [b] at a
def B7b(l:List UInt8):Bool:=decide ([45] <+: l)
def Ep(l:List UInt8):List UInt8:=if [45] <+: l then l.drop 1 else l
def A8a(l:List UInt8):l=(if B7b l then [45] else [])++Ep l:=by
 unfold B7b Ep
 by_cases h:[45] <+: l
 ·obtain ⟨t,rfl⟩:=h;simp
 ·simp [h]
def B2w(l:List UInt8):B7b l=(l.head? == some 45):=by
 unfold B7b
 cases l with
 | nil=>simp
 | cons c r=>
  rw [bN,aZ,decide_eq_true_iff,beq_iff_eq,bG]
  constructor
  ·rintro ⟨t,e⟩;simp at e;exact e.1.symm
  ·rintro rfl;exact ⟨r,rfl⟩
def Form.parts{l:List UInt8}{neg:Bool}{a b:List UInt8}(f:Form l neg a b):neg=B7b l/\a=(Ep l).takeWhile dgt/\(if b=[] then [] else 47::b)=(Ep l).dropWhile dgt:=by
 have g:neg=B7b l:=by rw [B2w];exact f.head
 have e:=A8a l
 rw [<- g] at e
 have i:=e.symm.trans f.eq
 rw [cF] at i
 have k:=cT i
 have j:∀ c,(if b=[] then [] else 47::b:List UInt8).head? = some c->¬ J9 c:=by
  intro c d
  split at d
  ·simp at d
  ·simp at d;subst d;decide
 have:=Fw f.da j
 rw [<- k] at this
 exact ⟨g,this.1.symm,this.2.symm⟩
section
variable {h g:aX} {K:VP} {l:List UInt8}
def Kp(hl:l.length<=1000000000)(hK:K (.tuple #[.string (bs (l.takeWhile dgt)),.string (bs (l.dropWhile dgt))]) h):aD prog Aj #[.string (bs l)] h K:=by
 refine A1s _ ?_
 unfold Zd
 simp only [K0]
 refine ⟨fun L e=>L=[I (((l.takeWhile dgt).length:Nat):Int)]/\e=h,?_,?_⟩
 ·refine ⟨fun L e=>∃ k:Nat,L=[I k]/\e=h/\k<=l.length/\(∀ c∈l.take k,J9 c),fun L _=>l.length-(iAt L 0).toNat,⟨0,rfl,rfl,by omega,by simp⟩,?_⟩
  rintro n e ⟨k,j,rfl,u,g⟩
  obtain rfl:=sI1 j
  have a:(∀ c,(l.drop k).head? = some c->¬ J9 c)->[I (k:Int)]=[I (((l.takeWhile dgt).length:Nat):Int)]/\e=e:=by
   intro x
   have:=Fw g x
   rw [bU] at this
   refine ⟨?_,rfl⟩
   rw [this.1,aV,bL u]
  refine B7 (fun y=>?_) (fun y=>?_)
  ·have f:k<l.length:=by omega
   have d:(bs l)[(k:Int).toNat]? = some l[k]:=by rw [aE,Sc,aG f]
   have s:(l.drop k).head? = some l[k]:=by rw [List.head?_drop,aG f]
   refine ⟨l[k],⟨by omega,d⟩,B7 (fun o=>?_) (fun o=>?_)⟩
   ·refine ⟨l[k],⟨by omega,d⟩,B7 (fun r=>?_) (fun r=>?_)⟩
    ·rw [B8 (by omega) (by omega)]
     refine ⟨⟨k+1,rfl,rfl,by omega,?_⟩,by simp only [iAt,aS];omega⟩
     rw [cD f]
     intro c b
     rcases List.mem_append.1 b with m|m
     ·exact g c m
     ·rw [List.mem_singleton.1 m];exact ⟨by omega,by omega⟩
    ·exact a (fun c b=>by rw [s] at b;cases b;intro g;exact r (by have:=g.2;omega))
   ·exact a (fun c b=>by rw [s] at b;cases b;intro g;exact o (by have:=g.1;omega))
  ·exact a (fun c b=>by rw [List.drop_of_length_le (by omega)] at b;cases b)
 ·rintro n e ⟨j,rfl⟩
  obtain rfl:n=(((l.takeWhile dgt).length:Nat):Int):=by simpa using j
  have i:(l.takeWhile dgt).length<=l.length:=(cW _).length_le
  have t:l.take (l.takeWhile dgt).length=l.takeWhile dgt:=by
   conv=>lhs;rw [<- aU (p:=dgt) (l:=l)]
   rw [aU,List.prefix_iff_eq_take.1 (List.takeWhile_prefix _)]
   rw [aV,bL i]
  have q:l.drop (l.takeWhile dgt).length=l.dropWhile dgt:=by
   have w:l.takeWhile dgt++l.drop (l.takeWhile dgt).length=l.takeWhile dgt++l.dropWhile dgt:=by
    rw [aU]
    conv=>lhs;lhs;rw [<- t]
    exact bU _ _
   exact cT w
  refine ⟨⟨by omega,by omega⟩,⟨by omega,by omega⟩,?_⟩
  rw [aE,P6,P6,bD,bJ,t,q,aT (by rw [<- q,List.length_drop];omega)]
  exact hK
def Y7(a:List UInt8):((bs a).toList==({ data:=#[] }:ByteArray).toList)=decide (a=[]):=Sd a []
def Pz(hl:l.length<=1000000000)(hK1:∀ neg a b,Form l neg a b->K (.tuple #[.agg #[.bool neg,.string (bs a),.string (bs b)],.bool true]) h)(hK0:(∀ neg a b,¬ Form l neg a b)->∀ neg a b,K (.tuple #[.agg #[.bool neg,.string (bs a),.string (bs b)],.bool false]) h):aD prog Og #[.string (bs l)] h K:=by
 refine B56 _ ?_
 unfold B9x
 refine Xj (q:=[45]) ⟨_,_,rfl,?_⟩
 have D:(Ep l).length<=l.length:=by unfold Ep;split<;>simp
 show aD prog Aj #[.string (bs (Ep l))] h _
 refine Kp (by omega) ⟨_,_,rfl,?_⟩
 show Br _ _ _
 have A:Ep l=(Ep l).takeWhile dgt++(Ep l).dropWhile dgt:=List.takeWhile_append_dropWhile.symm
 have w:∀ c∈(Ep l).takeWhile dgt,J9 c:=Nf _
 have k:∀ neg a b,Form l neg a b->neg=B7b l/\a=(Ep l).takeWhile dgt/\(if b=[] then [] else 47::b)=(Ep l).dropWhile dgt:=fun neg a b f=>f.parts
 have g:=A8a l
 have ac:((Ep l).takeWhile dgt).length<=l.length:=cC (cW _).length_le D
 have X:((Ep l).dropWhile dgt).length<=l.length:=cC (List.dropWhile_sublist _).length_le D
 have aa:∀ c,((Ep l).dropWhile dgt).head? = some c->¬ J9 c:=fun c Q=>by
  have:=List.head?_dropWhile_not dgt (Ep l)
  rw [Q] at this
  simpa using this
 show Br _ _ _
 have B:decide ([45] <+: l)=B7b l:=rfl
 rw [B]
 generalize B7b l=neg at *
 generalize (Ep l).takeWhile dgt=a at *
 generalize (Ep l).dropWhile dgt=r at *
 generalize Ep l=t at *
 subst A
 have T:((bs a).toList==({ data:=#[48] }:ByteArray).toList)=decide (a=[48]):=Sd a [48]
 rw [T,Y7,Y7]
 refine B7 (fun M=>?_) (fun M=>?_)
 ·subst M
  refine R2 (Br.of (fun J=>?_) (fun J=>?_))
  ·subst J
   refine hK0 ?_ _ _ []
   intro G y i f
   obtain ⟨rfl,rfl,_⟩:=k _ _ _ f
   rcases f.ha with d|d
   ·exact d rfl
   ·cases d.2.1
  ·subst J
   by_cases H:r=[]
   ·rw [decide_eq_true H]
    subst H
    refine hK1 false [48] [] ⟨by simpa using g,by simpa using w,by simp,by simp,.inr ⟨rfl,rfl,rfl⟩,by simp,by simp⟩
   ·rw [decide_eq_false H]
    refine hK0 ?_ _ _ []
    intro G y i f
    obtain ⟨rfl,rfl,n⟩:=k _ _ _ f
    rcases f.ha with d|d
    ·exact d rfl
    ·rw [d.2.2] at n;exact H (by simpa using n.symm)
 ·refine ⟨fun L Z=>L=[.bool (decide (a=[]\/a.head? = some 48))]/\Z=h,?_,?_⟩
  ·refine B7 (fun d=>⟨by simp [d],rfl⟩) (fun d=>?_)
   obtain ⟨c,j,rfl⟩:=aN d
   refine ⟨c,⟨by omega,by rw [Sc];rfl⟩,?_,rfl⟩
   congr 2
   rw [aZ,beq_iff_eq,decide_eq_true_iff]
   simp only [reduceCtorEq,false_or,bN,bG]
   constructor
   ·intro e;apply UInt8.toNat_inj.1;show c.toNat=48;omega
   ·rintro rfl;rfl
  rintro R Z ⟨hL,rfl⟩
  obtain rfl:R=decide (a=[]\/a.head? = some 48):=by simpa using hL
  refine B7 (fun d=>?_) (fun d=>?_)
  ·refine hK0 ?_ _ _ []
   intro G y i f
   obtain ⟨rfl,rfl,_⟩:=k _ _ _ f
   rcases d with d|d
   ·exact f.ne d
   ·rcases f.ha with n|n
    ·exact n d
    ·exact M n.1
  ·have p:a≠[]:=fun e=>d (.inl e)
   have z:a.head? ≠ some 48:=fun e=>d (.inr e)
   refine B7 (fun n=>?_) (fun n=>?_)
   ·subst n
    exact hK1 neg a [] ⟨by simpa using g,w,by simp,p,.inl z,by simp,by simp⟩
   ·obtain ⟨c,j,rfl⟩:=aN n
    refine ⟨c,⟨by omega,by rw [Sc];rfl⟩,J4 (fun h4=>?_) (fun h4=>?_)⟩
    ·refine hK0 ?_ _ _ []
     intro G y i f
     obtain ⟨rfl,rfl,o⟩:=k _ _ _ f
     by_cases x:i=[]
     ·simp [x] at o
     ·rw [iN x] at o
      simp at o
      exact h4 (by rw [<- o.1];rfl)
    ·have Q:c=47:=by apply UInt8.toNat_inj.1;show c.toNat=47;omega
     subst Q
     refine ⟨⟨by omega,by rw [K0];simp;omega⟩,?_⟩
     rw [P6,show ((1:Int)).toNat=1 from rfl,K0,aT (by simp),List.drop_succ_cons,bD]
     refine Kp (by simp at X;omega) ⟨_,_,rfl,?_⟩
     have u:j=j.takeWhile dgt++j.dropWhile dgt:=List.takeWhile_append_dropWhile.symm
     have W:∀ c∈j.takeWhile dgt,J9 c:=Nf _
     have O:∀ i:List UInt8,(∀ c∈i,J9 c)->i=j->j.takeWhile dgt=i/\j.dropWhile dgt=[]:=by
      intro i hd e
      subst e
      have:=Fw (r:=[]) hd (by simp)
      simpa using this
     generalize j.takeWhile dgt=b at *
     generalize j.dropWhile dgt=s at *
     have E:(s≠[]\/b=[]\/b.head? = some 48\/b=[49])->∀ neg' y i,¬ Form (((if neg=true then [45] else [])++(a++47::j))) neg' y i:=by
      rintro C G y i f
      rw [<- g] at f
      obtain ⟨rfl,rfl,o⟩:=k _ _ _ f
      by_cases x:i=[]
      ·simp [x] at o
      ·rw [iN x] at o
       simp at o
       obtain ⟨e6,e7⟩:=O i f.db o
       subst e6
       rcases C with m|m|m|m
       ·exact m e7
       ·exact x m
       ·exact f.hb m
       ·exact f.b1 m
     rw [Y7,Y7]
     have S:((bs b).toList==({ data:=#[49] }:ByteArray).toList)=decide (b=[49]):=Sd b [49]
     rw [S]
     refine B7 (fun m=>?_) (fun m=>hK0 (by rw [g];exact E (.inl m)) _ _ _)
     subst m
     rw [List.append_nil] at u
     subst u
     refine R2 (B7 (fun V=>hK0 (by rw [g];exact E (.inr (.inl V))) _ _ _) (fun V=>?_))
     obtain ⟨c,N,rfl⟩:=aN V
     refine ⟨c,⟨by omega,by rw [Sc];rfl⟩,J4 (fun h8=>?_) (fun h8=>?_)⟩
     ·by_cases F:c::N=[49]
      ·rw [decide_eq_true F]
       exact hK0 (by rw [g];exact E (.inr (.inr (.inr F)))) _ _ _
      ·rw [decide_eq_false F]
       refine hK1 neg a (c::N) ⟨by simpa using g,w,W,p,.inl z,?_,F⟩
       intro e;simp at e;exact h8 (by rw [e];rfl)
     ·have hh:(c::N).head? = some 48:=by
       simp only [bN,bG]
       apply UInt8.toNat_inj.1;show c.toNat=48;omega
      exact hK0 (by rw [g];exact E (.inr (.inr (.inl hh)))) _ _ _
end
def B85:(prog.info? B1q).map (fun i=>i.zero)=some (some (.agg (Array.replicate 48 (.int .u8 0)))):=by kernel_rfl
def A45{x y:Int}(hy:0<y):(bB x y).num=x.tdiv (aK x y)/\((bB x y).den:Int)=y.tdiv (aK x y):=by
 have b:(aK x y:Int)∣x:=Int.gcd_dvd_left ..
 have a:(aK x y:Int)∣y:=Int.gcd_dvd_right ..
 constructor
 ·rw [Rat.num_divInt,aF hy,Int.one_mul,Int.gcd_comm,cU b]
 ·rw [Rat.den_divInt,iN (by omega),Int.gcd_comm,Int.natCast_ediv,Int.natAbs_of_nonneg (by omega),cU a]
def Zy{q:Rat}(h:q.den=1):I8 q=Ia q.num:=by unfold I8;rw [iP h,List.append_nil]
def A2k{q:Rat}(h:q.den≠1):I8 q=Ia q.num++[47]++Ia (q.den:Int):=by
 unfold I8;rw [iN h,Jt (i:=(q.den:Int)) (by omega),aC];simp
section
variable {h g:aX} {K:VP} {l:List UInt8}
def C5e{k:Nat}(h:k<=18):10^k<=1000000000000000000:=cC (aH (by decide) h) (by decide)
def Hg(hd:∀ c∈l,J9 c)(hl:l.length<=18)(hK:K (I (Q8 l:Int)) h):aD prog Aa #[.string (bs l)] h K:=by
 refine Wr _ ?_
 unfold Sk
 simp only [K0]
 refine ⟨fun L f=>∃ k:Nat,L=[I (Q8 (l.take k):Int),I k]/\f=h/\k<=l.length,fun L _=>l.length-(iAt L 1).toNat,⟨0,rfl,rfl,by omega⟩,?_⟩
 rintro n q f ⟨k,g,rfl,m⟩
 simp only [aI,aP,and_true,true_and] at g
 obtain ⟨rfl,rfl⟩:=g
 refine B7 (fun j=>?_) (fun j=>?_)
 ·have a:k<l.length:=by omega
  have b:=hd l[k] (List.getElem_mem a)
  have d:=Lw (l:=l.take (k+1)) (fun c i=>hd c (bV i))
  rw [aV,bL (by omega)] at d
  have o:=C5e (k:=k+1) (by omega)
  have p:Q8 (l.take (k+1))=10*Q8 (l.take k)+(l[k].toNat-48):=by rw [cD a,Ox]
  unfold J9 at b
  refine ⟨l[k],⟨by omega,by rw [aE,Sc,aG a]⟩,?_⟩
  have e:B6 (B6 (10*((Q8 (l.take k):Nat):Int))+B6 (wu8 (((l[k].toNat:Nat):Int)-48)))=((Q8 (l.take (k+1)):Nat):Int):=by
   rw [A2d (by omega) (by omega),B8 (n:=((l[k].toNat:Nat):Int)-48) (by omega) (by omega),B8 (n:=10*((Q8 (l.take k):Nat):Int)) (by omega) (by omega),B8 (by omega) (by omega)]
   omega
  rw [e,B8 (n:=(k:Int)+1) (by omega) (by omega)]
  exact ⟨⟨k+1,rfl,rfl,by omega⟩,by simp only [iAt,aS,cR];omega⟩
 ·obtain rfl:k=l.length:=by omega
  rw [List.take_length];exact hK
def A2o{a b:Nat}(hK:K (I (aJ a b:Int)) h):aD prog A8k #[I (a:Int),I (b:Int)] h K:=by
 refine C2b _ _ ?_
 unfold C6w
 refine ⟨fun L d=>∃ x y:Nat,L=[I x,I y]/\d=h/\aJ x y=aJ a b,fun L _=>(iAt L 1).toNat,⟨a,b,rfl,rfl,rfl⟩,?_⟩
 rintro k g d ⟨x,y,i,rfl,c⟩
 obtain ⟨rfl,rfl⟩:k=(x:Int)/\g=(y:Int):=by simpa using i
 refine J4 (fun f=>?_) (fun f=>?_)
 ·have l:y≠0:=by omega
  refine B7 (fun e=>absurd e f) (fun _=>?_)
  have e:Int.tmod (x:Int) (y:Int)=((x%y:Nat):Int):=(Int.ofNat_tmod x y).symm
  rw [e]
  have j:=Nat.mod_lt x (Nat.pos_of_ne_zero l)
  refine ⟨⟨y,x%y,rfl,rfl,?_⟩,by simp only [iAt,aS,cR];omega⟩
  rw [<- c,Nat.gcd_comm x y,Nat.gcd_rec y x,Nat.gcd_comm]
 ·obtain rfl:y=0:=by omega
  rw [Nat.gcd_zero_right] at c
  rw [c];exact hK
def Du(hK1:∀ q,l=I8 q->q.num.natAbs<1000000000->q.den<1000000000->K (.tuple #[.agg #[I q.num,I (q.den:Int)],.bool true]) h)(hK0:K (.tuple #[.agg #[I 0,I 0],.bool false]) h):aD prog Ai #[.string (bs l)] h K:=by
 refine A1r _ ?_
 unfold Zc
 rw [K0]
 refine B7 (fun _=>hK0) (fun N=>?_)
 refine Pz (by omega) ?_ ?_
 ·intro neg a b f
  refine ⟨_,_,_,_,rfl,?_⟩
  simp only [K0]
  refine ⟨fun L i=>L=[.bool (decide (a.length>9\/b.length>9))]/\i=h,Br.of (fun e=>by cases e) (fun _=>B7 (fun u=>⟨?_,rfl⟩) (fun u=>⟨?_,rfl⟩)),?_⟩
  ·rw [decide_eq_true (show a.length>9\/b.length>9 by omega)]
  ·by_cases A:b.length>9
   ·rw [decide_eq_true (show a.length>9\/b.length>9 by omega)]
    exact congrArg (fun x=>[Value.bool x]) (decide_eq_true (show ((b.length:Nat):Int)>9 by omega))
   ·rw [decide_eq_false (show ¬ (a.length>9\/b.length>9) by omega)]
    exact congrArg (fun x=>[Value.bool x]) (decide_eq_false (show ¬ ((b.length:Nat):Int)>9 by omega))
  rintro d i ⟨p,rfl⟩
  obtain rfl:d=decide (a.length>9\/b.length>9):=by simpa using p
  refine B7 (fun _=>hK0) (fun u=>?_)
  have n:(Vn neg a).natAbs=Q8 a:=by unfold Vn;split<;>simp
  have E:=Lw f.da
  have F:=Lw f.db
  have w:∀ k,k<=9->10^k<=1000000000:=fun k z=>cC (aH (by decide) z) (by decide)
  have B:=w a.length (by omega)
  have H:=w b.length (by omega)
  refine Hg f.da (by omega) ⟨_,rfl,?_⟩
  refine ⟨fun L g=>L=[I 0,I 0,I (Q8 a:Int),I (Ps b:Int)]/\g=i/\aJ (Q8 a) (Ps b)=1,?_,?_⟩
  ·rw [Y7]
   refine R2 (B7 (fun s=>?_) (fun s=>?_))
   ·subst s;exact ⟨rfl,rfl,by unfold Ps;simp⟩
   ·refine Hg f.db (by omega) ⟨_,rfl,A2o ⟨_,rfl,J4 (fun _=>hK0) (fun R=>?_)⟩⟩
    have t:Ps b=Q8 b:=by unfold Ps;rw [iN s]
    rw [t]
    exact ⟨rfl,rfl,by omega⟩
  ·rintro D J T O r ⟨m,rfl,G⟩
   simp only [aI,aP,and_true,true_and] at m
   obtain ⟨_,_,rfl,rfl⟩:=m
   obtain ⟨q,y⟩:=f.isNum.2 G
   have c:=f.of_txt y
   have j:Ps b<1000000000:=by unfold Ps;split<;>omega
   refine ⟨fun L g=>L=[I q.num,I (q.den:Int)]/\g=r,Br.of (fun e=>?_) (fun e=>?_),?_⟩
   ·rw [c.1,c.2,e,B8 (by omega) (by omega)]
    exact ⟨by unfold Vn;simp,rfl⟩
   ·rw [c.1,c.2,e]
    exact ⟨by unfold Vn;simp,rfl⟩
   ·rintro M S C ⟨o,rfl⟩
    simp only [aI,aP,and_true,true_and] at o
    obtain ⟨rfl,rfl⟩:=o
    exact hK1 q y (by rw [c.1,n];omega) (by rw [c.2];exact j)
 ·intro Q neg a b
  refine ⟨_,_,_,_,rfl,?_⟩
  refine ⟨fun L i=>L=[.bool true]/\i=h,R2 ⟨rfl,rfl⟩,?_⟩
  rintro d i ⟨p,rfl⟩
  obtain rfl:d=true:=by simpa using p
  exact Br.of (fun _=>hK0) (fun e=>by cases e)
def Ag{l':List UInt8}(hK1:∀ p q,l=I8 p->l'=I8 q->p.num.natAbs<1000000000->p.den<1000000000->q.num.natAbs<1000000000->q.den<1000000000->K (.tuple #[.agg #[I p.num,I (p.den:Int)],.agg #[I q.num,I (q.den:Int)],.bool true]) h)(hK0:K (.tuple #[.agg #[I 0,I 0],.agg #[I 0,I 0],.bool false]) h):aD prog Y4 #[.string (bs l),.string (bs l')] h K:=by
 refine A7g _ _ ?_
 unfold A97
 refine Du ?_ ⟨_,_,_,rfl,R2 hK0⟩
 intro p b f a
 refine ⟨_,_,_,rfl,R2 ?_⟩
 refine Du ?_ ⟨_,_,_,rfl,R2 hK0⟩
 intro q c d e
 exact ⟨_,_,_,rfl,R2 (hK1 p q b c f a d e)⟩
def S6{num den:Int}(gp:Gp h)(hd:den≠0)(h1:num.natAbs<4000000000000000000)(h2:den.natAbs<4000000000000000000)(hK:K (.string (bs (I8 (bB num den)))) h):aD prog P0 #[I num,I den] h K:=by
 refine FCall.pure (Wq _ _ ?_)
 unfold Sj
 refine ⟨fun L s=>s=h/\∃ n d:Int,L=[I n,I d]/\0<d/\bB n d=bB num den/\n.natAbs=num.natAbs/\d.natAbs=den.natAbs,B7 (fun j=>⟨rfl,-num,-den,?_,by omega,Rat.neg_divInt_neg num den,by omega,by omega⟩) (fun j=>⟨rfl,num,den,rfl,by omega,rfl,rfl,rfl⟩),?_⟩
 ·rw [B8 (by omega) (by omega),B8 (by omega) (by omega),Int.zero_sub,Int.zero_sub]
 rintro f p s ⟨rfl,n,d,B,t,W,hn,N⟩
 simp only [aI,aP,and_true,true_and] at B
 obtain ⟨rfl,rfl⟩:=B
 rw [<- W] at hK
 have g:=A45 (x:=f) t
 have S:=Vu (a:=f) (b:=p) (by omega)
 generalize bB f p=q at *
 have M:=q.den_nz
 refine ⟨fun L w=>w=s/\L=[I q.num,I (q.den:Int)],J4 (fun j=>?_) (fun j=>?_),?_⟩
 ·have D:(if (B6 (0-f))>f then B6 (0-f) else f)=((f.natAbs:Nat):Int):=by
   rw [B8 (by omega) (by omega)];split<;>omega
  obtain ⟨k,rfl⟩:∃ k:Nat,p=k:=⟨p.toNat,by omega⟩
  rw [D]
  refine A2o ⟨_,rfl,?_⟩
  have O:0<aJ f.natAbs k:=cP _ (by omega)
  refine B7 (fun e=>by omega) (fun _=>B7 (fun e=>by omega) (fun _=>⟨rfl,?_⟩))
  have C:Int.tdiv f ((aJ f.natAbs k:Nat):Int)=q.num:=g.1.symm
  have R:Int.tdiv (k:Int) ((aJ f.natAbs k:Nat):Int)=(q.den:Int):=g.2.symm
  rw [C,R,B8 (by omega) (by omega),B8 (by omega) (by omega)]
 ·subst j
  have Z:aK f 1=1:=by simp
  rw [Z] at g
  simp at g
  refine ⟨rfl,?_⟩
  rw [g.1]
  simp only [aI,aP,and_true,true_and];omega
 rintro n2 d2 m ⟨rfl,o⟩
 simp only [aI,aP,and_true,true_and] at o
 obtain ⟨rfl,rfl⟩:=o
 refine E4 (fun j=>?_) (fun j=>?_)
 ·rw [Zy (by omega)] at hK
  exact Km gp (by omega) (by omega) ⟨_,rfl,B4 _,hK⟩
 ·rw [A2k (by omega)] at hK
  refine Dp B85 ?_
  intro b F
  have V:(Value.agg (Array.replicate 48 (.int .u8 0))).cells=(cL 48 (cQ .u8 0)).toArray:=by rfl
  rw [V]
  refine ⟨_,rfl,⟨by omega,by omega⟩,?_⟩
  have l:K5 (some ⟨b,0,none⟩) 48 0 1=some ⟨b,0,none⟩:=rfl
  rw [l,show ((0:Int)).toNat-0=0 from rfl,show 48-0=48 from rfl]
  have G:Priv (m.put b (.cells (cL 48 (cQ .u8 0)).toArray B1q)) m B1q 1 (some ⟨b,0,none⟩) 0 48 (yv []):=⟨by simp [yv],by omega,.inr ⟨b,cL 48 (cQ .u8 0),rfl,F,rfl,by simp,by simp [yv]⟩⟩
  refine Kq gp G (by omega) (by omega) (by omega) ?_
  intro A1 J c1 D g1 Q r
  refine ⟨_,_,_,rfl,?_⟩
  have T:(Ia q.num).length<=20:=by
   unfold Ia
   have:(P7 q.num.natAbs).length<=19:=(Oz (by decide)).2 (bC (show q.num.natAbs<10000000000000000000 by omega) (by decide))
   split<;>simp<;>omega
  have E:=r.len
  refine Gc (ch:=47) rfl r.priv (by omega) ?_
  intro A2 H c2 e2 g2 X A
  have i:=r.trans A
  have u:=i.len
  rw [aR,List.length_singleton] at u
  refine Kq (gp.mono i.le) A.priv (by omega) (by omega) (by omega) ?_
  intro A3 ac c3 C g3 aa z
  refine ⟨_,_,_,rfl,?_⟩
  rw [cF] at z
  have c:=i.trans z
  have y:=c.len
  refine Ju Ek.und Cp T3 c.priv.slV (by simpa using y) ⟨_,rfl,?_⟩
  refine ⟨B0 c.le c.priv.le,?_⟩
  simpa using hK
end
structure RQ (h:aX) (w:QV) (q:Rat):Prop where
 num:ZI h w.s w.A w.n w.c q.num
 den:ZI h w.s2 w.A2 w.n2 w.c2 (if q.den=1 then 0 else (q.den:Int))
def ZB.gcd{m:Nat}{x y:Int}(hy:y≠0)(h:ZB m y):ZB m (aK x y:Int):=by
 refine h.le ?_
 rw [aC]
 exact cO (by omega) (Int.natAbs_dvd_natAbs.2 (Int.gcd_dvd_right x y))
def C0u{x y a b:Int}(ha:0<a)(hb:0<b)(hs:x.sign≠y.sign):Fc (x*a) (y*b)=Fc x y:=by
 have g:(x*a).sign=x.sign:=by rw [Int.sign_mul,aF ha,Int.mul_one]
 have f:(y*b).sign=y.sign:=by rw [Int.sign_mul,aF hb,Int.mul_one]
 have key:∀ u v:Int,u.sign≠v.sign->(u<v↔u.sign<v.sign)/\(v<u↔v.sign<u.sign):=by
  intro u v h
  have t:∀ w:Int,(w<0/\w.sign= -1)\/(w=0/\w.sign=0)\/(0<w/\w.sign=1):=fun w=>by
   rcases Int.lt_trichotomy w 0 with c|c|c
   ·exact .inl ⟨c,bF c⟩
   ·exact .inr (.inl ⟨c,by rw [c];rfl⟩)
   ·exact .inr (.inr ⟨c,aF c⟩)
  have l:=t u
  have k:=t v
  omega
 have j:=key x y hs
 have d:=key (x*a) (y*b) (by rw [g,f];exact hs)
 rw [g,f] at d
 unfold Fc
 by_cases c:x<y
 ·rw [iP c,iP (d.1.2 (j.1.1 c))]
 ·rw [iN c,iN (fun e=>c (j.1.2 (d.1.1 e)))]
  by_cases i:y<x
  ·rw [iP i,iP (d.2.2 (j.2.1 i))]
  ·rw [iN i,iN (fun e=>i (j.2.2 (d.2.1 e)))]
section
variable {h h':aX} {K:VP} {A B:Option aO} {n c n' c':Nat} {s s':Bool} {x y z:Int} {m:Nat} {p q:Rat} {a b w:QV} {l:List UInt8}
def RQ.mono(hl:h.le h')(i:RQ h w q):RQ h' w q:=⟨i.num.mono hl,i.den.mono hl⟩
def RQ.whole(i:ZI h s A n c z):RQ h ⟨s,A,n,c,false,none,0,0⟩ (z:Rat):=⟨by simpa using i,by simpa using ZI.zero⟩
def RQ.zero:RQ h ⟨false,none,0,0,false,none,0,0⟩ 0:=⟨ZI.zero,ZI.zero⟩
def N7(i:RQ h w q)(hK:K (.bool (decide (q.den=1))) h):aD prog E9 #[.agg #[.bool w.s2,.slice w.A2 w.n2 w.c2]] h K:=by
 refine G1 i.den ?_
 have:=q.den_nz
 have e:decide ((if q.den=1 then (0:Int) else (q.den:Int))=0)=decide (q.den=1):=by
  rw [decide_eq_decide];split<;>omega
 rw [e];exact hK
def T2(i:ZI h s A n c z)(j:ZI h s' B n' c' y)(h1:q.num=z)(h2:(q.den:Int)=y)(hK:∀ w,RQ h w q->K w.v h):aD prog V5 #[.agg #[.bool s,.slice A n c],.agg #[.bool s',.slice B n' c']] h K:=by
 subst h1 h2
 refine B0u _ _ _ _ _ _ _ _ ?_
 unfold B58
 refine Q3 j ⟨_,rfl,B7 (fun e=>?_) (fun e=>?_)⟩
 ·exact hK ⟨s,A,n,c,false,none,0,0⟩ ⟨i,by rw [iP (by omega)];exact ZI.zero⟩
 ·exact hK ⟨s,A,n,c,s',B,n',c'⟩ ⟨i,by rw [iN (by omega)];exact j⟩
def Eo(i:RQ h w q)(hK:∀ s A n c h',h.le h'->ZI h' s A n c (q.den:Int)->K (.agg #[.bool s,.slice A n c]) h'):aD prog Rx #[w.v] h K:=by
 refine C2l _ _ _ _ _ _ _ _ ?_
 unfold C73
 refine N7 i ⟨_,rfl,B7 (fun e=>?_) (fun e=>?_)⟩
 ·refine Eg (by decide) (by decide) ?_
  intro s A n c d b a
  exact ⟨_,_,_,_,rfl,hK _ _ _ _ _ b (by rw [e];exact a)⟩
 ·have:=i.den
  rw [iN e] at this
  exact hK _ _ _ _ _ (B4 _) this
def Vz(gl:Gtz h)(i:ZI h s A n c x)(j:ZI h s' B n' c' y)(hx:ZB m x)(hy:ZB m y)(hm:m<=6400000000)(hy0:0<y)(hK:∀ s1 A1 n1 c1 s2 A2 n2 c2 h',h.le h'->ZI h' s1 A1 n1 c1 (x.tdiv (aK x y))->ZI h' s2 A2 n2 c2 (y.tdiv (aK x y))->K (.tuple #[.agg #[.bool s1,.slice A1 n1 c1],.agg #[.bool s2,.slice A2 n2 c2]]) h'):aD prog Oh #[.agg #[.bool s,.slice A n c],.agg #[.bool s',.slice B n' c']] h K:=by
 refine B0v _ _ _ _ _ _ _ _ ?_
 unfold B5a
 refine Q3 j ⟨_,rfl,B7 (fun e=>?_) (fun e=>?_)⟩
 ·subst e
  have g:aK x 1=1:=by simp
  rw [g] at hK
  exact hK _ _ _ _ _ _ _ _ _ (B4 _) (by simpa using i) (by simpa using j)
 ·refine Cm gl i j hx hy hm ?_
  intro A1 n1 c1 t f k
  have g:=Int.gcd_pos_of_ne_zero_right x (show y≠0 by omega)
  have a:ZB m (aK x y:Int):=ZB.gcd (by omega) hy
  refine ⟨_,_,_,_,rfl,Q1 (i.mono f) k hx a hm (by omega) ?_⟩
  intro s2 A2 n2 c2 p b o
  refine ⟨_,_,_,_,rfl,b,Q1 (j.mono (B0 f b)) (k.mono b) hy a hm (by omega) ?_⟩
  intro u A3 w r q d l
  exact ⟨_,_,_,_,rfl,d,hK _ _ _ _ _ _ _ _ _ (B0 f (B0 b d)) (o.mono d) l⟩
def Yd(i:RQ h w q)(hK:∀ w',RQ h w' (-q)->K w'.v h):aD prog A8m #[w.v] h K:=by
 refine C2i _ _ _ _ _ _ _ _ ?_
 unfold C70
 refine U2 i.num ?_
 intro a b
 exact ⟨_,_,_,_,rfl,B4 _,hK ⟨a,w.A,w.n,w.c,w.s2,w.A2,w.n2,w.c2⟩ ⟨by simpa using b,by simpa using i.den⟩⟩
def Fz(i:RQ h w q)(hK:K (I q.num.sign) h):aD prog Qo #[w.v] h K:=by
 refine B8f _ _ _ _ _ _ _ _ ?_
 unfold C4g
 exact Ef i.num ⟨_,rfl,hK⟩
def A35(i:RQ h w q)(hK:K (.bool (decide (q=0))) h):aD prog Oi #[w.v] h K:=by
 refine B0y _ _ _ _ _ _ _ _ ?_
 unfold B5g
 refine G1 i.num ⟨_,rfl,?_⟩
 have e:decide (q.num=0)=decide (q=0):=by rw [decide_eq_decide];exact bK
 rw [e];exact hK
def Yg(gl:Gtz h)(i:RQ h a p)(j:RQ h b q)(hp:Sz m p)(hq:Sz m q)(hm:2*m+1<=6400000000)(hK:∀ w h',h.le h'->RQ h' w (p+q)->K w.v h'):aD prog A8p #[a.v,b.v] h K:=by
 have al:=p.den_nz
 have aq:=q.den_nz
 have M:∀ {z:Int},ZB m z->ZB (2*m+1) z:=fun s=>s.mono (by omega)
 refine C2m _ _ _ _ _ _ _ _ _ _ _ _ _ _ _ _ ?_
 unfold C74
 refine ⟨fun L hp=>L=[.bool (decide (p.den=1/\q.den=1))]/\hp=h,N7 i ⟨_,rfl,B7 (fun e=>?_) (fun e=>?_)⟩,?_⟩
 ·exact N7 j ⟨_,rfl,by simp [e],rfl⟩
 ·exact ⟨by simp [e],rfl⟩
 rintro aa ae ⟨hL,rfl⟩
 obtain rfl:aa=decide (p.den=1/\q.den=1):=by simpa using hL
 refine B7 (fun e=>?_) (fun e=>?_)
 ·refine Hu i.num j.num hp.num hq.num (by omega) ?_
  intro s1 A1 Z c1 h1 f X
  refine ⟨_,_,_,_,rfl,hK ⟨s1,A1,Z,c1,false,none,0,0⟩ _ f ?_⟩
  have:=RQ.whole X
  rw [cJ,<- Yq e.1,<- Yq e.2] at this
  exact this
 ·refine ⟨fun L hp=>L=[.bool (decide (p.den=1))]/\hp=ae,N7 i ⟨_,rfl,rfl,rfl⟩,?_⟩
  rintro af au ⟨hL,rfl⟩
  obtain rfl:af=decide (p.den=1):=by simpa using hL
  refine B7 (fun N=>?_) (fun N=>?_)
  ·have aj:q.den≠1:=fun J=>e ⟨N,J⟩
   have jd:=j.den
   rw [iN aj] at jd
   refine L4 i.num jd hp.num hq.den (by omega) ?_
   intro s1 A1 Z c1 h1 f X
   refine ⟨_,_,_,_,rfl,f,Hu (m:=2*m+1) X (j.num.mono f) ((hp.num.mul hq.den).mono (by omega)) (M hq.num) hm ?_⟩
   intro s2 A2 n2 c2 h2 n i2
   have c:=Pc q p.num
   rw [<- Yq N,Rat.add_comm] at c
   refine ⟨_,_,_,_,rfl,n,hK ⟨s2,A2,n2,c2,b.s2,b.A2,b.n2,b.c2⟩ _ (B0 f n) ⟨by rw [c.1];exact i2,?_⟩⟩
   rw [c.2]
   exact j.den.mono (B0 f n)
  ·refine N7 j ⟨_,rfl,B7 (fun J=>?_) (fun J=>?_)⟩
   ·have d:=i.den
    rw [iN N] at d
    refine L4 j.num d hq.num hp.den (by omega) ?_
    intro s1 A1 Z c1 h1 f X
    refine ⟨_,_,_,_,rfl,f,Hu (m:=2*m+1) X (i.num.mono f) ((hq.num.mul hp.den).mono (by omega)) (M hp.num) hm ?_⟩
    intro s2 A2 n2 c2 h2 n i2
    have c:=Pc p q.num
    rw [<- Yq J] at c
    refine ⟨_,_,_,_,rfl,n,hK ⟨s2,A2,n2,c2,a.s2,a.A2,a.n2,a.c2⟩ _ (B0 f n) ⟨by rw [c.1];exact i2,?_⟩⟩
    rw [c.2]
    exact i.den.mono (B0 f n)
   ·have d:=i.den
    have o:=j.den
    rw [iN N] at d
    rw [iN J] at o
    refine Cm gl d o hp.den hq.den (by omega) ?_
    intro A1 Z c1 h1 f G
    rw [cV] at G
    obtain ⟨g,hg⟩:∃ g,g=p.den.gcd q.den:=⟨_,rfl⟩
    rw [<- hg] at G
    have S:0<g:=by rw [hg];exact Nat.gcd_pos_of_pos_left _ (by omega)
    have ad:g∣q.den:=by rw [hg];exact bI ..
    have u:ZB m (g:Int):=hq.den.le (by simpa using cO (by omega) ad)
    refine ⟨_,_,_,_,rfl,Q1 (o.mono f) G hq.den u (by omega) (by omega) ?_⟩
    intro s2 A2 n2 c2 h2 n il
    rw [<- bW] at il
    refine ⟨_,_,_,_,rfl,n,Q1 (d.mono (B0 f n)) (G.mono n) hp.den u (by omega) (by omega) ?_⟩
    intro s3 A3 n3 c3 h3 H ir
    rw [<- bW] at ir
    have B:ZB m ((q.den/g:Nat):Int):=hq.den.le (by rw [aC,aC];exact aQ _ _)
    have x:ZB m ((p.den/g:Nat):Int):=hp.den.le (by rw [aC,aC];exact aQ _ _)
    have E:=B0 f (B0 n H)
    refine ⟨_,_,_,_,rfl,H,L4 (i.num.mono E) (il.mono H) hp.num B (by omega) ?_⟩
    intro s4 A4 n4 c4 h4 C i4
    refine ⟨_,_,_,_,rfl,C,L4 (j.num.mono (B0 E C)) (ir.mono C) hq.num x (by omega) ?_⟩
    intro s5 A5 n5 c5 h5 F i5
    refine ⟨_,_,_,_,rfl,F,Hu (m:=2*m) (i4.mono F) i5 ((hp.num.mul B).mono (by omega)) ((hq.num.mul x).mono (by omega)) (by omega) ?_⟩
    intro s6 A6 n6 c6 h6 V Q
    obtain ⟨z,s⟩:∃ z,z=p.num*((q.den/g:Nat):Int)+q.num*((p.den/g:Nat):Int):=⟨_,rfl⟩
    rw [<- s] at Q
    have O:ZB (2*m+1) z:=by
     rw [s]
     exact ((hp.num.mul B).mono (show m+m<=2*m by omega)).add ((hq.num.mul x).mono (show m+m<=2*m by omega))
    have k:=B0 E (B0 C (B0 F V))
    refine ⟨_,_,_,_,rfl,V,G1 Q ⟨_,rfl,B7 (fun A=>?_) (fun A=>?_)⟩⟩
    ·have:p+q=0:=by
      rw [<- bK]
      by_cases t:p.den.gcd q.den=1
      ·have:=(Yz p q t).1
       rw [<- hg] at t
       rw [t,cH,cH] at s
       rw [this,<- s,A]
      ·have:=(Yy p q t hg s rfl).1
       rw [this,A];simp
     rw [this] at hK
     exact hK ⟨false,none,0,0,false,none,0,0⟩ _ k RQ.zero
    ·refine Q3 (G.mono (B0 n (B0 H (B0 C (B0 F V))))) ⟨_,rfl,B7 (fun ac=>?_) (fun ac=>?_)⟩
     ·have l:g=1:=by omega
      have c:=Yz p q (by rw [<- hg];exact l)
      rw [l,cH,cH] at s
      refine L4 (d.mono k) (o.mono k) hp.den hq.den (by omega) ?_
      intro s7 A7 n7 c7 h7 y R
      refine ⟨_,_,_,_,rfl,y,T2 (q:=p+q) (Q.mono y) R (by rw [c.1,s]) (by rw [c.2,aL]) ?_⟩
      intro w iw
      exact ⟨_,_,_,_,_,_,_,_,rfl,B4 _,hK _ _ (B0 k y) iw⟩
     ·have l:p.den.gcd q.den≠1:=by rw [<- hg];omega
      obtain ⟨r,hr⟩:∃ r,r=z.natAbs.gcd g:=⟨_,rfl⟩
      have c:=Yy p q l hg s hr
      have ao:0<r:=by rw [hr];exact cP _ S
      have ai:r<=g:=by rw [hr];exact cO S (bI ..)
      have ag:=G.mono (B0 n (B0 H (B0 C (B0 F V))))
      refine Cm (gl.mono k) Q ag O (M u) hm ?_
      intro A7 n7 c7 h7 y R
      have e7:aK z (g:Int)=r:=hr.symm
      rw [e7] at R
      have T:ZB m (r:Int):=u.le (by simpa using ai)
      refine ⟨_,_,_,_,rfl,Q1 (Q.mono y) R O (M T) hm (by omega) ?_⟩
      intro s8 A8 n8 c8 h8 W i8
      refine ⟨_,_,_,_,rfl,W,Q1 (o.mono (B0 k (B0 y W))) (R.mono W) hq.den T (by omega) (by omega) ?_⟩
      intro s9 A9 n9 c9 h9 l9 i9
      rw [<- bW] at i9
      have ah:ZB m ((q.den/r:Nat):Int):=hq.den.le (by rw [aC,aC];exact aQ _ _)
      refine ⟨_,_,_,_,rfl,l9,L4 (ir.mono (B0 C (B0 F (B0 V (B0 y (B0 W l9)))))) i9 x ah (by omega) ?_⟩
      intro ar A10 am an ap D ak
      refine ⟨_,_,_,_,rfl,D,T2 (q:=p+q) (i8.mono (B0 l9 D)) ak c.1 (by rw [c.2,aL]) ?_⟩
      intro w iw
      exact ⟨_,_,_,_,_,_,_,_,rfl,B4 _,hK _ _ (B0 k (B0 y (B0 W (B0 l9 D)))) iw⟩
def A9t(gl:Gtz h)(i:RQ h a p)(j:RQ h b q)(hp:Sz m p)(hq:Sz m q)(hm:2*m+1<=6400000000)(hK:∀ w h',h.le h'->RQ h' w (p-q)->K w.v h'):aD prog B3v #[a.v,b.v] h K:=by
 refine C2h _ _ _ _ _ _ _ _ _ _ _ _ _ _ _ _ ?_
 unfold C6z
 refine Yd j ?_
 intro g e
 refine ⟨_,_,_,_,_,_,_,_,rfl,B4 _,Yg gl i e hp hq.neg hm ?_⟩
 intro k f c d
 rw [<- Rat.sub_eq_add_neg] at d
 exact ⟨_,_,_,_,_,_,_,_,rfl,c,hK _ _ c d⟩
end
structure Gl (h:aX):Prop where
 tz:Gtz h
 p10:Gp h
def Gl.mono{h h':aX}(g:Gl h)(l:h.le h'):Gl h':=⟨g.tz.mono l,g.p10.mono l⟩
section
variable {h h':aX} {K:VP} {A B:Option aO} {n c n' c':Nat} {s s':Bool} {x y z:Int} {m:Nat} {p q:Rat} {a b w:QV} {l:List UInt8}
def Ye(gl:Gtz h)(i:RQ h a p)(j:RQ h b q)(hp:Sz m p)(hq:Sz m q)(hm:m<=6400000000)(hK:∀ w h',h.le h'->RQ h' w (p*q)->K w.v h'):aD prog A8n #[a.v,b.v] h K:=by
 have Q:=p.den_nz
 have M:=q.den_nz
 refine C2j _ _ _ _ _ _ _ _ _ _ _ _ _ _ _ _ ?_
 unfold C71
 refine ⟨fun L hp=>L=[.bool (decide (p.num=0\/q.num=0))]/\hp=h,G1 i.num ⟨_,rfl,B7 (fun e=>?_) (fun e=>?_)⟩,?_⟩
 ·exact ⟨by simp [e],rfl⟩
 ·exact G1 j.num ⟨_,rfl,by simp [e],rfl⟩
 rintro u r ⟨o,rfl⟩
 obtain rfl:u=decide (p.num=0\/q.num=0):=by simpa using o
 refine B7 (fun e=>?_) (fun e=>?_)
 ·have:p*q=0:=by
   rw [bK,bK] at e
   exact Rat.mul_eq_zero.2 e
  rw [this] at hK
  exact hK ⟨false,none,0,0,false,none,0,0⟩ _ (B4 _) RQ.zero
 ·refine ⟨fun L hp=>L=[.bool (decide (p.den=1/\q.den=1))]/\hp=r,N7 i ⟨_,rfl,B7 (fun e=>?_) (fun e=>?_)⟩,?_⟩
  ·exact N7 j ⟨_,rfl,by simp [e],rfl⟩
  ·exact ⟨by simp [e],rfl⟩
  rintro t O ⟨o,rfl⟩
  obtain rfl:t=decide (p.den=1/\q.den=1):=by simpa using o
  refine B7 (fun e=>?_) (fun e=>?_)
  ·refine L4 i.num j.num hp.num hq.num hm ?_
   intro z A1 A c1 F f T
   refine ⟨_,_,_,_,rfl,hK ⟨z,A1,A,c1,false,none,0,0⟩ _ f ?_⟩
   have:=RQ.whole T
   rw [Rat.intCast_mul,<- Yq e.1,<- Yq e.2] at this
   exact this
  ·have g:=B3a p q
   refine Eo j ?_
   intro z A1 A c1 F f R
   refine ⟨_,_,_,_,rfl,f,Vz (gl.mono f) (i.num.mono f) R hp.num hq.den hm (by omega) ?_⟩
   intro s2 A2 n2 c2 s3 A3 n3 c3 Z C B n
   have c:=B0 f C
   refine ⟨_,_,_,_,_,_,_,_,rfl,C,Eo (i.mono c) ?_⟩
   intro s4 A4 n4 c4 h4 d s
   refine ⟨_,_,_,_,rfl,d,Vz (gl.mono (B0 c d)) (j.num.mono (B0 c d)) s hq.num hp.den hm (by omega) ?_⟩
   intro s5 A5 n5 c5 s6 A6 W c6 h5 k D x
   have N:aK p.num (q.den:Int)=aJ p.num.natAbs q.den:=rfl
   have H:aK q.num (p.den:Int)=aJ q.num.natAbs p.den:=rfl
   rw [N] at B n
   rw [H] at D x
   rw [<- bW] at n x
   refine ⟨_,_,_,_,_,_,_,_,rfl,k,L4 (B.mono (B0 d k)) D hp.num.tdiv hq.num.tdiv hm ?_⟩
   intro s7 A7 n7 c7 h7 l G
   have S:ZB m ((p.den/aJ q.num.natAbs p.den:Nat):Int):=hp.den.le (by rw [aC,aC];exact aQ _ _)
   have J:ZB m ((q.den/aJ p.num.natAbs q.den:Nat):Int):=hq.den.le (by rw [aC,aC];exact aQ _ _)
   refine ⟨_,_,_,_,rfl,l,L4 (x.mono l) (n.mono (B0 d (B0 k l))) S J hm ?_⟩
   intro s8 A8 n8 X h8 y E
   refine ⟨_,_,_,_,rfl,y,T2 (q:=p*q) (G.mono y) E g.1 (by rw [g.2,aL]) ?_⟩
   intro w V
   exact ⟨_,_,_,_,_,_,_,_,rfl,B4 _,hK _ _ (B0 c (B0 d (B0 k (B0 l y)))) V⟩
def A09(i:RQ h w q)(hK:∀ w h',h.le h'->RQ h' w q⁻¹->K w.v h'):aD prog Qp #[w.v] h K:=by
 have m:=q.den_nz
 refine A7k _ _ _ _ _ _ _ _ ?_
 unfold A9b
 refine Ef i.num ⟨_,rfl,E4 (fun e=>?_) (fun e=>?_)⟩
 ·have c:q.num=0:=Int.sign_eq_zero_iff_zero.1 e
  have:q⁻¹=0:=by rw [Rat.num_eq_zero.1 c];exact Rat.inv_zero
  rw [this] at hK
  exact hK ⟨false,none,0,0,false,none,0,0⟩ _ (B4 _) RQ.zero
 ·have c:q.num≠0:=fun l=>e (by rw [l];rfl)
  refine E4 (fun j=>?_) (fun j=>?_)
  ·have k:q.num<0:=Int.sign_neg_iff.1 (by omega)
   refine Eo i ?_
   intro o A1 p c1 b a f
   refine ⟨_,_,_,_,rfl,a,U2 f ?_⟩
   intro t r
   refine ⟨_,_,_,_,rfl,B4 _,U2 (i.num.mono a) ?_⟩
   intro s n
   refine ⟨_,_,_,_,rfl,B4 _,T2 (q:=q⁻¹) r n ?_ ?_ ?_⟩
   ·rw [Rat.num_inv,j];omega
   ·rw [Rat.den_inv,iN c];omega
   ·intro w g
    exact ⟨_,_,_,_,_,_,_,_,rfl,B4 _,hK _ _ a g⟩
  ·have d:0<q.num:=by
    rcases Int.lt_trichotomy q.num 0 with b|b|b
    ·exact absurd (bF b) j
    ·exact absurd b c
    ·exact b
   refine Eo i ?_
   intro o A1 p c1 b a f
   refine ⟨_,_,_,_,rfl,a,T2 (q:=q⁻¹) f (i.num.mono a) ?_ ?_ ?_⟩
   ·rw [Rat.num_inv,aF d,Int.one_mul]
   ·rw [Rat.den_inv,iN c];omega
   ·intro w g
    exact ⟨_,_,_,_,_,_,_,_,rfl,B4 _,hK _ _ a g⟩
def A9v(gl:Gtz h)(i:RQ h a p)(j:RQ h b q)(hp:Sz m p)(hq:Sz m q)(hm1:1<=m)(hm:m<=6400000000)(hK:∀ w h',h.le h'->RQ h' w (p/q)->K w.v h'):aD prog A8o #[a.v,b.v] h K:=by
 refine C2k _ _ _ _ _ _ _ _ _ _ _ _ _ _ _ _ ?_
 unfold C72
 refine A09 j ?_
 intro g l c f
 refine ⟨_,_,_,_,_,_,_,_,rfl,c,Ye (gl.mono c) (i.mono c) f hp (hq.inv hm1) hm ?_⟩
 intro n k d e
 rw [<- Rat.div_def] at e
 exact ⟨_,_,_,_,_,_,_,_,rfl,d,hK _ _ (B0 c d) e⟩
def Rs(i:RQ h w q)(hq:Sz m q)(hm:m+1<=6400000000)(hK:∀ s A n c h',h.le h'->ZI h' s A n c q.floor->K (.agg #[.bool s,.slice A n c]) h'):aD prog To #[w.v] h K:=by
 have b:=q.den_nz
 refine B5h _ _ _ _ _ _ _ _ ?_
 unfold C01
 rw [Rat.floor_def] at hK
 refine N7 i ⟨_,rfl,B7 (fun e=>?_) (fun e=>?_)⟩
 ·rw [e] at hK
  exact hK _ _ _ _ _ (B4 _) (by simpa using i.num)
 ·have a:=i.den
  rw [iN e] at a
  refine Xb i.num a hq.num hq.den hm (by omega) ?_
  intro g A1 j c1 k d f
  exact ⟨_,_,_,_,rfl,hK _ _ _ _ _ d f⟩
def A9w(i:RQ h w q)(hq:Sz m q)(hm:m+1<=6400000000)(hK:∀ s A n c h',h.le h'->ZI h' s A n c q.ceil->K (.agg #[.bool s,.slice A n c]) h'):aD prog A6m #[w.v] h K:=by
 refine B8g _ _ _ _ _ _ _ _ ?_
 unfold C4h
 refine Yd i ?_
 intro g d
 refine ⟨_,_,_,_,_,_,_,_,rfl,Rs d hq.neg hm ?_⟩
 intro l A2 f c2 j b e
 refine ⟨_,_,_,_,rfl,U2 e ?_⟩
 intro k a
 rw [<- cM] at a
 exact ⟨_,_,_,_,rfl,hK _ _ _ _ _ b a⟩
def B7w(p q:Rat):Int:=Fc (p.num*q.den) (q.num*p.den)
def B4f:B7w p q<0↔p<q:=by rw [aM];unfold B7w Fc;split<;>(try split)<;>omega
def C1t:0<B7w p q↔q<p:=by rw [aM];unfold B7w Fc;split<;>(try split)<;>omega
def B4g:B7w p q<=0↔p<=q:=by rw [<- Rat.not_lt,<- C1t];omega
def A0a(i:RQ h a p)(j:RQ h b q)(hp:Sz m p)(hq:Sz m q)(hm:2*m<=6400000000)(hK:K (I (B7w p q)) h):aD prog Qq #[a.v,b.v] h K:=by
 have w:=p.den_nz
 have r:=q.den_nz
 refine FCall.pure (A7l _ _ _ _ _ _ _ _ _ _ _ _ _ _ _ _ ?_)
 unfold A9c
 refine ⟨fun L hp=>L=[.bool (decide ((p.den=1/\q.den=1)\/p.num.sign≠q.num.sign))]/\hp=h,N7 i ⟨_,rfl,B4 _,B7 (fun e=>N7 j ⟨_,rfl,B4 _,B7 (fun g=>?_) (fun g=>?_)⟩) (fun e=>?_)⟩,?_⟩
 ·exact ⟨by simp [e,g],rfl⟩
 ·refine Fz i ⟨_,rfl,B4 _,Fz j ⟨_,rfl,B4 _,?_,rfl⟩⟩
  simp [g,bne]
  rw [aZ];simp
 ·refine Fz i ⟨_,rfl,B4 _,Fz j ⟨_,rfl,B4 _,?_,rfl⟩⟩
  simp [e,bne]
  rw [aZ];simp
 rintro l u ⟨s,rfl⟩
 obtain rfl:l=decide ((p.den=1/\q.den=1)\/p.num.sign≠q.num.sign):=by simpa using s
 refine B7 (fun e=>?_) (fun e=>?_)
 ·refine Mm i.num j.num hp.num hq.num (by omega) ⟨_,rfl,B4 _,?_⟩
  have:Fc p.num q.num=B7w p q:=by
   unfold B7w
   rcases e with e|e
   ·rw [e.1,e.2];simp
   ·exact (C0u (by omega) (by omega) e).symm
  rw [this];exact hK
 ·refine Eo j ?_
  intro z A1 D c1 B c o
  refine ⟨_,_,_,_,rfl,c,L4 (i.num.mono c) o hp.num hq.den (by omega) ?_⟩
  intro O A2 E c2 y f t
  refine ⟨_,_,_,_,rfl,f,Eo (i.mono (B0 c f)) ?_⟩
  intro A A3 H M J d n
  refine ⟨_,_,_,_,rfl,d,L4 (j.num.mono (B0 c (B0 f d))) n hq.num hp.den (by omega) ?_⟩
  intro G A4 N C F k x
  refine ⟨_,_,_,_,rfl,k,Mm (m:=m+m) (t.mono (B0 d k)) x (hp.num.mul hq.den) (hq.num.mul hp.den) (by omega) ⟨_,rfl,B4 _,?_⟩⟩
  exact ⟨B0 c (B0 f (B0 d k)),hK⟩
def A1f{t:List UInt8}{k:Nat}(h:∀ c∈t,J9 c)(hk:t.length<=k):ZB (4*k) (Q8 t:Int):=by
 unfold ZB
 rw [aC]
 exact bC (A6x h) (aH (by decide) (by omega))
def Form.lens{neg:Bool}{a b:List UInt8}(f:Form l neg a b):a.length<=l.length/\b.length<=l.length:=by
 have:=congrArg List.length f.eq
 simp only [aR] at this
 by_cases c:b=[]
 ·rw [iP c] at this;subst c;simp at this ⊢;omega
 ·rw [iN c] at this;simp at this;omega
def Yf(gl:Gtz h)(hl:l.length<=100000000)(hK1:∀ q,l=I8 q->∀ w h',h.le h'->RQ h' w q->K (.tuple #[w.v,.bool true]) h')(hK0:¬ IsNum l->∀ (w:QV) h',h.le h'->RQ h' w 0->K (.tuple #[w.v,.bool false]) h'):aD prog A0v #[.string (bs l)] h K:=by
 refine B8d _ ?_
 unfold C4e
 refine Pz (by omega) ?_ ?_
 ·intro neg a b f
  refine ⟨_,_,_,_,rfl,R2 ?_⟩
  have G:=f.lens
  refine Jx f.da (by omega) ?_
  intro A1 F c1 C t M
  refine ⟨_,_,_,_,rfl,?_⟩
  refine ⟨fun L W=>∃ p:Bool,L=[.bool p,.slice A1 F c1,.bool false,.slice none 0 0]/\W=C/\ZI C p A1 F c1 (Vn neg a),Br.of (fun e=>?_) (fun e=>?_),?_⟩
  ·refine U2 M ?_
   intro p m
   exact ⟨_,_,_,_,rfl,p,rfl,rfl,by unfold Vn;rw [e];exact m⟩
  ·exact ⟨false,rfl,rfl,by unfold Vn;rw [e];exact M⟩
  rintro O g n i x2 Q X Z aa ⟨p,D,rfl,m⟩
  simp only [aI,bY,Value.bool.injEq,and_true] at D
  obtain ⟨rfl,⟨rfl,rfl,rfl⟩,rfl,rfl,rfl,rfl⟩:=D
  have c:(Vn neg a).natAbs=Q8 a:=by unfold Vn;split<;>simp
  rw [Y7]
  refine B7 (fun r=>?_) (fun r=>?_)
  ·subst r
   obtain ⟨q,o⟩:=f.isNum.2 (by unfold Ps;simp)
   obtain ⟨x,B⟩:=f.of_txt o
   refine hK1 q o ⟨O,g,n,i,false,none,0,0⟩ _ t ⟨by rw [x];exact m,?_⟩
   rw [B,show Ps []=1 from rfl,iP rfl];exact ZI.zero
  ·refine Jx f.db (by omega) ?_
   intro A4 n4 S h4 j J
   have y:ZB (4*l.length) (Vn neg a):=(A1f f.da (k:=l.length) (by omega)).le (by rw [c,aC];exact aW _)
   refine ⟨_,_,_,_,rfl,Cm (gl.mono (B0 t j)) (m.mono j) J y (A1f f.db (k:=l.length) (by omega)) (by omega) ?_⟩
   intro A5 n5 c5 h5 s V
   refine ⟨_,_,_,_,rfl,Q3 V ⟨_,rfl,?_⟩⟩
   have d:Ps b=Q8 b:=by unfold Ps;rw [iN r]
   have z:aK (Vn neg a) (Q8 b:Int)=aJ (Q8 a) (Ps b):=by
    rw [d];show aJ (Vn neg a).natAbs (Q8 b)=_;rw [c]
   rw [z]
   refine R2 (B7 (fun H=>?_) (fun H=>?_))
   ·obtain ⟨q,o⟩:=f.isNum.2 (by omega)
    obtain ⟨x,B⟩:=f.of_txt o
    have A:Ps b≠1:=by
     intro R
     have N:=Pa f.db r (.inl f.hb)
     rw [<- d,R] at N
     apply f.b1
     rw [<- N];simp [P7,U1,I7,dch]
    refine hK1 q o ⟨O,g,n,i,false,A4,n4,S⟩ _ (B0 t (B0 j s)) ⟨by rw [x];exact m.mono (B0 j s),?_⟩
    rw [B,iN A,d];exact J.mono s
   ·refine hK0 ?_ ⟨false,none,0,0,false,none,0,0⟩ _ (B0 t (B0 j s)) RQ.zero
    intro u
    exact H (by rw [f.isNum.1 u];rfl)
 ·intro T neg a b
  refine ⟨_,_,_,_,rfl,R2 ?_⟩
  refine hK0 ?_ ⟨false,none,0,0,false,none,0,0⟩ _ (B4 _) RQ.zero
  intro u
  obtain ⟨E,a',b',f⟩:=u.form
  exact T _ _ _ f
def L3(gl:Gtz h)(hl:l.length<=100000000)(hK:∀ w h',h.le h'->RQ h' w (rv l)->K w.v h'):aD prog N6 #[.string (bs l)] h K:=by
 refine B54 _ ?_
 unfold B9v
 refine Yf gl hl ?_ ?_
 ·intro q e w b c a
  exact ⟨_,_,_,_,_,_,_,_,_,rfl,hK w b c (by rw [e,D9];exact a)⟩
 ·intro d w b c a
  exact ⟨_,_,_,_,_,_,_,_,_,rfl,hK w b c (by rw [B2i d];exact a)⟩
def T4(gp:Gp h)(i:RQ h w q)(hq:Sz m q)(hm:m<=40000000)(hK:K (.string (bs (I8 q))) h):aD prog V7 #[w.v] h K:=by
 refine FCall.pure (B0w _ _ _ _ _ _ _ _ ?_)
 unfold B5e
 refine N7 i ⟨_,rfl,B7 (fun e=>?_) (fun e=>?_)⟩
 ·rw [Zy e] at hK
  refine A5f i.num (fun d n=>?_) (fun d=>?_)
  ·refine ⟨_,_,rfl,Br.of (fun _=>A7i _ ?_) (fun e=>by cases e)⟩
   unfold A99
   exact Km gp d n ⟨_,rfl,_,rfl,B4 _,hK⟩
  ·refine ⟨_,_,rfl,Br.of (fun e=>by cases e) (fun _=>?_)⟩
   exact Hr gp i.num hq.num (by omega) ⟨_,rfl,B4 _,hK⟩
 ·rw [A2k e] at hK
  have c:=i.den
  rw [iN e] at c
  refine Ht (l:=[]) (eT:=G0) gp (Priv.nil _ _ _ _) i.num hq.num (by omega) (by omega) ?_
  intro A1 u c1 y t d f
  refine ⟨_,_,_,rfl,?_⟩
  have r:(Ia q.num).length<=50000000:=by
   unfold Ia
   have:=Cx hq.num
   split<;>simp<;>omega
  have p:=f.len
  refine Gc (ch:=47) rfl f.priv (by omega) ?_
  intro A2 z c2 s E n o
  have b:=f.trans o
  have g:=b.len
  rw [aR,List.length_singleton] at g
  refine Ht (gp.mono b.le) o.priv (c.mono b.le) hq.den (by omega) (by omega) ?_
  intro A3 A D x C B k
  refine ⟨_,_,_,rfl,?_⟩
  rw [cF] at k
  have a:=b.trans k
  have j:=a.len
  refine Ju Ek.und Cp T3 a.priv.slV (by simpa using j) ⟨_,rfl,?_⟩
  refine ⟨B0 a.le a.priv.le,?_⟩
  simpa using hK
end
structure Tx (m:Nat) (l:List UInt8):Prop where
 len:l.length<=100000000
 sz:Sz m (rv l)
def B6m{m:Nat}{z:Int}(h:ZB m z):(Ia z).length<=m+2:=by
 have:=Cx h
 unfold Ia;split
 ·rw [List.length_cons];omega
 ·omega
def Bn{m:Nat}{q:Rat}(h:Sz m q):(I8 q).length<=2*m+4:=by
 have a:=B6m h.num
 have b:=Cx (n:=q.den) (m:=m) (by have:=h.den;unfold ZB at this;simpa using this)
 unfold I8
 split
 ·simp;omega
 ·simp;omega
def Tx.of{m:Nat}{q:Rat}(h:Sz m q)(hm:m<=40000000):Tx m (I8 q):=⟨by have:=Bn h;omega,by rw [D9];exact h⟩
def Hf{x y:Int}(hx:x.natAbs<1000000000)(hy:y.natAbs<1000000000):(x*y).natAbs<1000000000000000000:=by
 rw [Int.natAbs_mul]
 exact Nat.mul_lt_mul'' hx hy
def A2j(q:Rat):∃ c r,I8 q=c::r/\(c=45↔q<0):=by
 have f:=Nb q
 have a:I8 q≠[]:=by
  intro e
  have:=f.eq
  rw [e] at this
  have d:=f.ne
  have:=congrArg List.length this
  simp only [aR,List.length_nil] at this
  exact d (List.eq_nil_of_length_eq_zero (by omega))
 obtain ⟨c,r,e⟩:=aN a
 refine ⟨c,r,e,?_⟩
 have b:=f.head
 rw [e,bN,aZ,decide_eq_true_iff,beq_iff_eq,bG] at b
 rw [<- b,aM];simp
def A80{q:Rat}(h:q<0):I8 q=45::I8 (-q):=by
 have a:q.num<0:=by have:=(aM q 0).1 h;simpa using this
 unfold I8
 rw [Rat.neg_num,Rat.neg_den,Th a,Jt (i:= -q.num) (by omega),Int.natAbs_neg];simp
def C6a:rv [48]=0:=by
 have:[48]=I8 0:=by simp [I8,Ia,P7]
 rw [this,D9]
def B1t:I8 0=[48]:=by simp [I8,Ia,P7]
def Tl{m:Nat}{q:Rat}(h:Sz m q):ZB m q.floor:=by
 rw [Rat.floor_def]
 exact h.num.le (Int.natAbs_ediv_le_natAbs _ _)
section
variable {h:aX} {K:VP} {m:Nat} {a b:List UInt8}
def Cd(gl:Gl h)(hl:a.length<=100000000)(hK1:IsNum a->K (.bool true) h)(hK0:¬ IsNum a->K (.bool false) h):aD prog Df #[.string (bs a)] h K:=by
 refine FCall.pure (B55 _ ?_)
 unfold B9w
 refine Du ?_ ?_
 ·intro q e _ _
  exact ⟨_,_,_,rfl,Br.of (fun _=>⟨B4 _,hK1 ⟨q,e⟩⟩) (fun e=>by cases e)⟩
 ·refine ⟨_,_,_,rfl,Br.of (fun e=>by cases e) (fun _=>?_)⟩
  refine Pz (by omega) ?_ ?_
  ·intro neg x y f
   refine ⟨_,_,_,_,rfl,Br.of (fun e=>by cases e) (fun _=>?_)⟩
   have m:=f.lens
   rw [Y7]
   refine B7 (fun e=>?_) (fun e=>?_)
   ·subst e
    exact ⟨B4 _,hK1 (f.isNum.2 (by unfold Ps;simp))⟩
   ·refine Jx f.da (by omega) ?_
    intro A1 z c1 w g r
    refine ⟨_,_,_,_,rfl,g,Jx f.db (by omega) ?_⟩
    intro A2 A c2 s c p
    refine ⟨_,_,_,_,rfl,c,Cm (gl.tz.mono (B0 g c)) (r.mono c) p (A1f f.da (k:=a.length) (by omega)) (A1f f.db (k:=a.length) (by omega)) (by omega) ?_⟩
    intro A3 B D C j n
    refine ⟨_,_,_,_,rfl,j,Q3 n ⟨_,rfl,B4 _,B0 g (B0 c j),?_⟩⟩
    rw [cV]
    have b:Ps y=Q8 y:=by unfold Ps;rw [iN e]
    by_cases i:aJ (Q8 x) (Q8 y)=1
    ·rw [decide_eq_true (by rw [i];rfl)]
     exact hK1 (f.isNum.2 (by rw [b];exact i))
    ·rw [decide_eq_false (by omega)]
     exact hK0 (fun d=>i (by rw [<- b];exact f.isNum.1 d))
  ·intro o neg x y
   refine ⟨_,_,_,_,rfl,Br.of (fun _=>⟨B4 _,hK0 ?_⟩) (fun e=>by cases e)⟩
   intro d
   obtain ⟨l,t,u,f⟩:=d.form
   exact o _ _ _ f
def C0w{q:Rat}(hq:q≠0)(hneg:¬ q<0):q.num.sign=1:=by
 have a:¬ q.num<0:=fun e=>hneg (by rw [aM];simpa using e)
 have b:q.num≠0:=fun e=>hq (Rat.num_eq_zero.1 e)
 exact aF (by omega)
def Cf(gl:Gl h)(hl:a.length<=100000000)(hK:K (I (rv a).num.sign) h):aD prog Vk #[.string (bs a)] h K:=by
 refine B8c _ ?_
 unfold C4d
 have f:((bs a).toList==({ data:=#[48] }:ByteArray).toList)=decide (a=[48]):=Sd a [48]
 rw [f]
 refine B7 (fun e=>?_) (fun e=>?_)
 ·subst e;rw [C6a] at hK;exact hK
 ·refine Cd gl hl ?_ ?_
  ·rintro ⟨q,rfl⟩
   rw [D9] at hK
   have d:q≠0:=by rintro rfl;exact e B1t
   obtain ⟨c,r,l,g⟩:=A2j q
   refine ⟨_,rfl,R2 ?_⟩
   refine ⟨c,⟨by omega,by rw [Sc,l];rfl⟩,E4 (fun i=>?_) (fun i=>?_)⟩
   ·have b:c=45:=by apply UInt8.toNat_inj.1;show c.toNat=45;omega
    have:=(aM q 0).1 (g.1 b)
    rw [bF (by simpa using this)] at hK
    exact hK
   ·have b:¬ q<0:=fun k=>i (by rw [g.2 k];rfl)
    rw [C0w d b] at hK
    exact hK
  ·intro j
   rw [B2i j] at hK
   exact ⟨_,rfl,R2 hK⟩
def Uf(gl:Gl h)(hl:a.length<=100000000)(hK:K (.string (bs (I8 (-rv a)))) h):aD prog A3z #[.string (bs a)] h K:=by
 refine C29 _ ?_
 unfold C6u
 have g:((bs a).toList==({ data:=#[48] }:ByteArray).toList)=decide (a=[48]):=Sd a [48]
 rw [g]
 refine B7 (fun e=>?_) (fun e=>?_)
 ·subst e;rw [C6a,Rat.neg_zero,B1t] at hK;exact hK
 ·refine Cd gl hl ?_ ?_
  ·rintro ⟨q,rfl⟩
   rw [D9] at hK
   have f:q≠0:=by rintro rfl;exact e B1t
   obtain ⟨c,r,n,i⟩:=A2j q
   refine ⟨_,rfl,R2 ?_⟩
   refine ⟨c,⟨by omega,by rw [Sc,n];rfl⟩,E4 (fun j=>?_) (fun j=>?_)⟩
   ·have d:c=45:=by apply UInt8.toNat_inj.1;show c.toNat=45;omega
    have b:=A80 (i.1 d)
    rw [b,K0]
    refine ⟨⟨by omega,by simp;omega⟩,?_⟩
    rw [P6,show ((1:Int)).toNat=1 from rfl,aT (by simp),List.drop_succ_cons,bD]
    exact hK
   ·have d:¬ q<0:=fun l=>j (by rw [i.2 l];rfl)
    have m: -q<0:=by
     have:0<q:=Rat.lt_of_le_of_ne (Rat.not_lt.1 d) (Ne.symm f)
     grind
    rw [A80 m,Rat.neg_neg] at hK
    refine ⟨?_,?_⟩
    ·show (((bs [45]).size+(bs (I8 q)).size:Nat):Int)<=_
     rw [K0,K0];simp;omega
    ·show K (.string (bs [45]++bs (I8 q))) h
     rw [Iw];exact hK
  ·intro k
   rw [B2i k,Rat.neg_zero,B1t] at hK
   exact ⟨_,rfl,R2 hK⟩
def Nd(gl:Gl h)(ta:Tx m a)(tb:Tx m b)(hm:2*m<=6400000000)(hK:K (I (B7w (rv a) (rv b))) h):aD prog Kc #[.string (bs a),.string (bs b)] h K:=by
 refine FCall.pure (A7j _ _ ?_)
 unfold A9a
 refine Ag ?_ ?_
 ·intro p q o i g c j k
  rw [o,i,D9,D9] at hK
  refine ⟨_,_,_,_,_,rfl,Br.of (fun _=>Ws _ _ ?_) (fun e=>by cases e)⟩
  unfold Sm
  have r:=Hf g (show ((q.den:Nat):Int).natAbs<1000000000 by simpa using k)
  have t:=Hf j (show ((p.den:Nat):Int).natAbs<1000000000 by simpa using c)
  rw [B8 (by omega) (by omega),B8 (by omega) (by omega)]
  exact B4i ⟨_,rfl,_,rfl,B4 _,hK⟩
 ·refine ⟨_,_,_,_,_,rfl,Br.of (fun e=>by cases e) (fun _=>?_)⟩
  refine L3 gl.tz ta.len ?_
  intro s g f l
  refine ⟨_,_,_,_,_,_,_,_,rfl,L3 (gl.tz.mono f) tb.len ?_⟩
  intro u c d n
  refine ⟨_,_,_,_,_,_,_,_,rfl,A0a (l.mono d) n ta.sz tb.sz hm ⟨_,rfl,B0 f d,hK⟩⟩
def A2r(gl:Gl h)(ta:Tx m a)(tb:Tx m b)(hm:2*m+1<=40000000)(hK:K (.string (bs (I8 (rv a+rv b)))) h):aD prog A8l #[.string (bs a),.string (bs b)] h K:=by
 refine FCall.pure (C2d _ _ ?_)
 unfold C6y
 refine Ag ?_ ?_
 ·intro p q t r i d k j
  rw [t,r,D9,D9,Fh] at hK
  refine ⟨_,_,_,_,_,rfl,Br.of (fun _=>?_) (fun e=>by cases e)⟩
  have A:=Hf i (show ((q.den:Nat):Int).natAbs<1000000000 by simpa using j)
  have x:=Hf k (show ((p.den:Nat):Int).natAbs<1000000000 by simpa using d)
  have z:=Hf (show ((p.den:Nat):Int).natAbs<1000000000 by simpa using d) (show ((q.den:Nat):Int).natAbs<1000000000 by simpa using j)
  rw [B8 (n:=p.num*q.den) (by omega) (by omega),B8 (n:=q.num*p.den) (by omega) (by omega),B8 (n:=(p.den:Int)*q.den) (by omega) (by omega),B8 (by omega) (by omega)]
  exact S6 gl.p10 (bO (cN p) (cN q)) (by omega) (by omega) ⟨_,rfl,B4 _,hK⟩
 ·refine ⟨_,_,_,_,_,rfl,Br.of (fun e=>by cases e) (fun _=>?_)⟩
  refine L3 gl.tz ta.len ?_
  intro w i g u
  refine ⟨_,_,_,_,_,_,_,_,rfl,L3 (gl.tz.mono g) tb.len ?_⟩
  intro B d f s
  refine ⟨_,_,_,_,_,_,_,_,rfl,Yg (gl.tz.mono (B0 g f)) (u.mono f) s ta.sz tb.sz (by omega) ?_⟩
  intro y k o l
  have c:=B0 g (B0 f o)
  exact ⟨_,_,_,_,_,_,_,_,rfl,T4 (gl.p10.mono c) l (ta.sz.add tb.sz) (by omega) ⟨_,rfl,c,hK⟩⟩
def Ue(gl:Gl h)(ta:Tx m a)(tb:Tx m b)(hm:2*m+1<=40000000)(hK:K (.string (bs (I8 (rv a-rv b)))) h):aD prog A3y #[.string (bs a),.string (bs b)] h K:=by
 refine FCall.pure (C28 _ _ ?_)
 unfold C6t
 refine Ag ?_ ?_
 ·intro p q t r i d k j
  have u:p-q=bB (p.num*q.den-q.num*p.den) (p.den*q.den):=by
   rw [Rat.sub_eq_add_neg,Fh,Rat.neg_num,Rat.neg_den,Int.neg_mul,<- Int.sub_eq_add_neg]
  rw [t,r,D9,D9,u] at hK
  refine ⟨_,_,_,_,_,rfl,Br.of (fun _=>?_) (fun e=>by cases e)⟩
  have B:=Hf i (show ((q.den:Nat):Int).natAbs<1000000000 by simpa using j)
  have y:=Hf k (show ((p.den:Nat):Int).natAbs<1000000000 by simpa using d)
  have A:=Hf (show ((p.den:Nat):Int).natAbs<1000000000 by simpa using d) (show ((q.den:Nat):Int).natAbs<1000000000 by simpa using j)
  rw [B8 (n:=p.num*q.den) (by omega) (by omega),B8 (n:=q.num*p.den) (by omega) (by omega),B8 (n:=(p.den:Int)*q.den) (by omega) (by omega),B8 (by omega) (by omega)]
  exact S6 gl.p10 (bO (cN p) (cN q)) (by omega) (by omega) ⟨_,rfl,B4 _,hK⟩
 ·refine ⟨_,_,_,_,_,rfl,Br.of (fun e=>by cases e) (fun _=>?_)⟩
  refine L3 gl.tz ta.len ?_
  intro x i g w
  refine ⟨_,_,_,_,_,_,_,_,rfl,L3 (gl.tz.mono g) tb.len ?_⟩
  intro C d f s
  refine ⟨_,_,_,_,_,_,_,_,rfl,A9t (gl.tz.mono (B0 g f)) (w.mono f) s ta.sz tb.sz (by omega) ?_⟩
  intro z k o l
  have c:=B0 g (B0 f o)
  exact ⟨_,_,_,_,_,_,_,_,rfl,T4 (gl.p10.mono c) l (ta.sz.sub tb.sz) (by omega) ⟨_,rfl,c,hK⟩⟩
def B1x(gl:Gl h)(ta:Tx m a)(tb:Tx m b)(hm:2*m<=40000000)(hK:K (.string (bs (I8 (rv a*rv b)))) h):aD prog B3t #[.string (bs a),.string (bs b)] h K:=by
 refine FCall.pure (C2a _ _ ?_)
 unfold C6v
 refine Ag ?_ ?_
 ·intro p q u k j g i r
  rw [u,k,D9,D9,Jy] at hK
  refine ⟨_,_,_,_,_,rfl,Br.of (fun _=>?_) (fun e=>by cases e)⟩
  have x:=Hf j i
  have y:=Hf (show ((p.den:Nat):Int).natAbs<1000000000 by simpa using g) (show ((q.den:Nat):Int).natAbs<1000000000 by simpa using r)
  rw [B8 (n:=p.num*q.num) (by omega) (by omega),B8 (n:=(p.den:Int)*q.den) (by omega) (by omega)]
  exact S6 gl.p10 (bO (cN p) (cN q)) (by omega) (by omega) ⟨_,rfl,B4 _,hK⟩
 ·refine ⟨_,_,_,_,_,rfl,Br.of (fun e=>by cases e) (fun _=>?_)⟩
  refine L3 gl.tz ta.len ?_
  intro w j f s
  refine ⟨_,_,_,_,_,_,_,_,rfl,L3 (gl.tz.mono f) tb.len ?_⟩
  intro A g d t
  refine ⟨_,_,_,_,_,_,_,_,rfl,Ye (gl.tz.mono (B0 f d)) (s.mono d) t ta.sz tb.sz (by omega) ?_⟩
  intro z i o l
  have c:=B0 f (B0 d o)
  exact ⟨_,_,_,_,_,_,_,_,rfl,T4 (gl.p10.mono c) l (ta.sz.mul tb.sz) (by omega) ⟨_,rfl,c,hK⟩⟩
def B21(gl:Gl h)(ta:Tx m a)(tb:Tx m b)(hm1:1<=m)(hm:2*m<=40000000)(hK1:rv b≠0->K (.tuple #[.string (bs (I8 (rv a/rv b))),.bool true]) h)(hK0:rv b=0->K (.tuple #[.string (bs []),.bool false]) h):aD prog B3u #[.string (bs a),.string (bs b)] h K:=by
 refine FCall.pure (C2c _ _ ?_)
 unfold C6x
 have c:∀ i,i=h->aD prog N6 #[.string (bs b)] i (fun G w=>∃ (t350:Bool) (t351A:Option aO) (t351n:Nat) (t351c:Nat) (t352:Bool) (t353A:Option aO) (t353n:Nat) (t353c:Nat),G= .agg #[.bool t350,.slice t351A t351n t351c,.bool t352,.slice t353A t353n t353c]/\aD prog Oi #[.agg #[.bool t350,.slice t351A t351n t351c,.bool t352,.slice t353A t353n t353c]] w (fun H g=>∃ (t37:Bool),H= .bool t37/\Br t37 (h.le g/\K (.tuple #[.string ({ data:=#[] }:ByteArray),.bool false]) h)
  (aD prog N6 #[.string (bs a)] g (fun J j=>∃ (t390:Bool) (t391A:Option aO) (t391n:Nat) (t391c:Nat) (t392:Bool) (t393A:Option aO) (t393n:Nat) (t393c:Nat),J= .agg #[.bool t390,.slice t391A t391n t391c,.bool t392,.slice t393A t393n t393c]/\Heap.le g j/\aD prog A8o #[.agg #[.bool t390,.slice t391A t391n t391c,.bool t392,.slice t393A t393n t393c],.agg #[.bool t350,.slice t351A t351n t351c,.bool t352,.slice t353A t353n t353c]] j (fun Q f=>∃ (t410:Bool) (t411A:Option aO) (t411n:Nat) (t411c:Nat) (t412:Bool) (t413A:Option aO) (t413n:Nat) (t413c:Nat),Q= .agg #[.bool t410,.slice t411A t411n t411c,.bool t412,.slice t413A t413n t413c]/\Heap.le j f/\aD prog V7 #[.agg #[.bool t410,.slice t411A t411n t411c,.bool t412,.slice t413A t413n t413c]] f (fun R l=>∃ (t42:ByteArray),R= .string t42/\Heap.le f l/\(h.le l/\K (.tuple #[.string t42,.bool true]) h))))))):=by
  rintro i rfl
  refine L3 gl.tz tb.len ?_
  intro S A t E
  refine ⟨_,_,_,_,_,_,_,_,rfl,A35 E ⟨_,rfl,B7 (fun e=>⟨t,hK0 e⟩) (fun e=>?_)⟩⟩
  refine L3 (gl.tz.mono t) ta.len ?_
  intro X y s M
  refine ⟨_,_,_,_,_,_,_,_,rfl,s,A9v (gl.tz.mono (B0 t s)) M (E.mono s) ta.sz tb.sz hm1 (by omega) ?_⟩
  intro T C z F
  have o:=B0 t (B0 s z)
  exact ⟨_,_,_,_,_,_,_,_,rfl,z,T4 (gl.p10.mono o) F (ta.sz.div tb.sz hm1) (by omega) ⟨_,rfl,B4 _,o,hK1 e⟩⟩
 refine Ag ?_ ?_
 ·intro p q N B A y C O
  refine ⟨_,_,_,_,_,rfl,fun L i=>L=[.bool (decide (q.num≠0))]/\i=h,Br.of (fun _=>⟨?_,rfl⟩) (fun e=>by cases e),?_⟩
  ·by_cases r:q.num=0<;>simp [r,bne]
  rintro d k ⟨u,rfl⟩
  obtain rfl:d=decide (q.num≠0):=by simpa using u
  refine B7 (fun r=>?_) (fun r=>c k rfl)
  have x:rv b≠0:=by rw [B,D9];exact fun e=>r (Rat.num_eq_zero.2 e)
  have D:=hK1 x
  rw [N,B,D9,D9,Ys] at D
  have W:=Hf A (show ((q.den:Nat):Int).natAbs<1000000000 by simpa using O)
  have V:=Hf (show ((p.den:Nat):Int).natAbs<1000000000 by simpa using y) C
  rw [B8 (n:=p.num*q.den) (by omega) (by omega),B8 (n:=(p.den:Int)*q.num) (by omega) (by omega)]
  exact S6 gl.p10 (bO (cN p) r) (by omega) (by omega) ⟨_,rfl,B4 _,D⟩
 ·refine ⟨_,_,_,_,_,rfl,fun L i=>L=[.bool false]/\i=h,Br.of (fun e=>by cases e) (fun _=>⟨rfl,rfl⟩),?_⟩
  rintro d k ⟨u,rfl⟩
  obtain rfl:d=false:=by simpa using u
  exact Br.of (fun e=>by cases e) (fun _=>c k rfl)
def A5q(gl:Gl h)(ta:Tx m a)(hm:m+1<=40000000)(hK:K (.string (bs (Ia (rv a).floor))) h):aD prog A0w #[.string (bs a)] h K:=by
 refine FCall.pure (B59 _ ?_)
 unfold B9z
 refine L3 gl.tz ta.len ?_
 intro g j c d
 refine ⟨_,_,_,_,_,_,_,_,rfl,Rs d ta.sz (by omega) ?_⟩
 intro k A2 f c2 i b e
 exact ⟨_,_,_,_,rfl,Hr (m:=m) (gl.p10.mono (B0 c b)) e (Tl ta.sz) (by omega) ⟨_,rfl,B0 c b,hK⟩⟩
def A9q(gl:Gl h)(ta:Tx m a)(hm:m+1<=40000000)(hK:K (.string (bs (Ia (rv a).ceil))) h):aD prog A6l #[.string (bs a)] h K:=by
 refine FCall.pure (B8e _ ?_)
 unfold C4f
 refine L3 gl.tz ta.len ?_
 intro g j c d
 refine ⟨_,_,_,_,_,_,_,_,rfl,A9w d ta.sz (by omega) ?_⟩
 intro k A2 f c2 i b e
 refine ⟨_,_,_,_,rfl,Hr (m:=m) (gl.p10.mono (B0 c b)) e ?_ (by omega) ⟨_,rfl,B0 c b,hK⟩⟩
 rw [cM]
 exact (Tl ta.sz.neg).neg
end
def C7d(h:aX)(r:Value)(h':aX):Prop:=r= .bool true/\h.le h'
end Go.Proofs.YtmbfcbbkbefgfaaGreatDoor
namespace Go.Proofs.YtmbfcbbkbefgfaaGreatDoor
set_option maxRecDepth 20000
open Go Go.RowKit
def memOf(W:World):aX:=fun b=>W.heap[b]?
def frame_of{P:Program}{f:FuncId}{args:Array Value}{W:World}(x:aD P f args (memOf W) (C7d (memOf W))):Calls P f args W fun e w'=>e= .returned (.bool true)/\Below W.heap.size W w':=by
 refine (x W (fun b o e=>e)).mono ?_
 rintro e W' ⟨r,l,j,⟨g,c⟩,a⟩
 subst g
 refine ⟨j,a.os,a.tape,a.output,a.size,fun k i=>?_⟩
 have d:memOf W k=some W.heap[k]:=Array.getElem?_eq_getElem i
 have:=a.sim k _ (c k _ d)
 rw [this];exact d.symm
def Qi{W:World}{a:aO}{v:Value}(e:W.cell? a=some v):(memOf W).cell? a=some v:=by
 unfold World.cell? at e
 unfold Heap.cell? memOf
 exact e
def row_of{W:World}{a:Option aO}{len cap:Nat}{zs:List Int}(w:(a=none/\len=0/\cap=0/\zs=[])\/
 ∃ x,a=some x/\len<=cap/\cap<=maxLen/\zs.length=cap/\(∀ i,i<zs.length->W.cell? (x.add i)=some (.int .i64 (zs.getD i 0)))/\∀ n∈zs,(Lit.int .i64 n).wf=true):∃ xs:List Int,len=xs.length/\len<=cap/\SlI .i64 (memOf W) a xs/\∀ n∈xs,(Lit.int .i64 n).wf=true:=by
 rcases w with ⟨rfl,rfl,rfl,rfl⟩|⟨x,rfl,g,j,k,f,e⟩
 ·exact ⟨[],rfl,aW _,SlI.nil,by simp⟩
 ·refine ⟨zs.take len,by simp;omega,g,.inr ⟨x,rfl,fun i v b=>?_⟩,fun n d=>e n (bV d)⟩
  rw [List.getElem?_map] at b
  cases hz:(zs.take len)[i]? with
  | none=>rw [hz] at b;cases b
  | some n=>
   rw [hz] at b
   cases b
   rw [List.getElem?_take] at hz
   split at hz
   ·have c:i<zs.length:=by
     by_cases c:i<zs.length
     ·exact c
     ·rw [List.getElem?_eq_none (by omega)] at hz;cases hz
    have:=Qi (f i c)
    rw [this]
    simp only [List.getD,hz,Option.getD_some]
   ·cases hz
def A8i{P:Program}{W:World}{x:String × DataW Unit}{rest:List (String × DataW Unit)}(h:laidMet P (x::rest) W):laidMet P rest W:=by
 obtain ⟨n,d⟩:=x
 obtain ⟨m,⟨g,t,k,c,p,q,s,l,o,r,e,rfl⟩,j,i⟩:=h
 exact ⟨q,e,(List.nodup_append.1 j).2.1,fun b a f=>i b a (List.mem_append_right _ f)⟩
def C5f:List Int:=[0,1,28,2,29,14,24,3,30,22,20,15,25,17,4,8,31,27,13,23,21,19,16,7,26,12,18,6,11,5,10,9]
def B6t:List Int:=[0,1,56,2,57,49,28,3,61,58,42,50,38,29,17,4,62,47,59,36,45,43,51,22,53,39,33,30,24,18,12,5,63,55,48,27,60,41,37,16,46,35,44,21,52,32,23,11,54,26,40,15,34,20,31,10,25,14,19,9,13,8,7,6]
def C0r:List Int:=[1,10,100,1000,10000,100000,1000000,10000000,100000000,1000000000,10000000000,100000000000,1000000000000,10000000000000,100000000000000,1000000000000000,10000000000000000,100000000000000000,1000000000000000000,10000000000000000000]
def B9g:prog.globalNamed "math/bits.deBruijn64tab" = some 0:=by kernel_rfl
def B9h:prog.globalNamed "internal/strconv.uint64pow10" = some 3:=by kernel_rfl
def tabs_gl{W:World}(h:laidMet prog [("math/bits.deBruijn32tab",Rows.laid_math_bits_deBruijn32tab),("math/bits.deBruijn64tab",Rows.laid_math_bits_deBruijn64tab),("internal/strconv.uint64pow10",Rows.laid_internal_strconv_uint64pow10)] W):Gl (memOf W):=by
 have i:=A8i h
 have j:=A8i i
 have g:Lib.TabIs prog W "math/bits.deBruijn64tab" .u8 B6t:=Lib.tabIs_of_head (rest:=[("internal/strconv.uint64pow10",Rows.laid_internal_strconv_uint64pow10)]) B9g (by kernel_rfl) underlying354 underlying5 (by kernel_rfl) (by kernel_rfl) i
 have e:Lib.TabIs prog W "internal/strconv.uint64pow10" .u64 C0r:=Lib.tabIs_of_head (rest:=[]) B9h (by kernel_rfl) underlying358 underlying270 (by kernel_rfl) (by kernel_rfl) j
 have f:∀ k,k<64->A2i k<B6t.length/\B6t.getD (A2i k) 0=(k:Int):=by decide +kernel
 have d:∀ k,k<20->C0r.getD k 0=((10^k:Nat):Int):=by decide +kernel
 refine ⟨fun k c=>?_,fun k c=>?_⟩
 ·obtain ⟨a,b⟩:=f k c
  have:=Qi (g.cell B9g (A2i k) a)
  rw [E6,bH,Nat.zero_add,this,b]
 ·have:=Qi (e.cell B9h k (by show k<20;exact c))
  rw [E6,bH,Nat.zero_add,this,d k c]
def B3g(zs:List Int)(k:IntKind):Obj->Obj
 | .cells _ t frozen=>.cells (zs.map (cQ k)).toArray t frozen
 | o=>o
def layTabs(a:Array Obj):Array Obj:=((a.modify 4 (B3g C5f .u8)).modify 0 (B3g B6t .u8)).modify 3 (B3g C0r .u64)
