/- A part. -/
import Derived.Test.YtdphgbjaijlckaaGreatDoorG14
import Derived.Test.YtdphgbjaijlckaaGreatDoorG15
open Go.Proofs.Tryz
set_option linter.all false
open Int renaming mul_le_mul_of_nonneg_right->aC,le_of_lt->aD,natAbs_natCast->aF,gcd->aH,natCast_ediv->aN,mul_le_mul_of_nonneg_left->aQ,tmod_eq_emod_of_nonneg->aU
open List renaming append_assoc->aJ,length_append->aL,eq_nil_of_length_eq_zero->aP,exists_cons_of_ne_nil->aT,getElem?_cons_zero->aW
open Nat renaming pow_succ->aG,pow_pos->aI,mul_le_mul_left->aK,le_refl->aO,strongRecOn->aR
open Rat renaming divInt->aE,divInt_ofNat->aM
open _root_.Go renaming Addr->aS
open _root_.Go.Proofs.YtdphgbjaijlckaaGreatDoor renaming FCall->aV,Heap->aX
namespace Go.Proofs.YtdphgbjaijlckaaGreatDoor
set_option maxRecDepth 20000
open Go
section
variable {h g:aX} {K:VP} {A B:Option aS} {ac bc:Nat}
def Q9{B:Int}(hB:0<B){xs:List Int}(d:Dig B xs){m:Nat}(hl:xs.length=m+1):val B xs<(xs.getD m 0+1)*B^m/\xs.getD m 0*B^m<=val B xs:=by
 have a:=E5 B xs m
 have b:=H1 hB (d.take m)
 have c:=C2 hB (d.take m)
 grind
def Lu{xs:List Int}{m:Nat}(hl:xs.length=m+1)(hn:Norm xs):xs.getD m 0≠0:=by
 intro a
 apply hn
 grind
def Hv{x y:Int}{an bn:Nat}(ma:Mg h A an x)(mb:Mg h B bn y)(hy:y≠0)(hl:an<=18000000000000)(hl2:bn<=18000000000000)
 (hK:∀ A1 m1 c1 A2 m2 c2 h',h.le h'->m1<=c1->m2<=c2->Mg h' A1 m1 (x/y)->Mg h' A2 m2 (x%y)->K (.tuple #[.slice A1 m1 c1,.slice A2 m2 c2]) h'):aV prog 250 #[.slice A an ac,.slice B bn bc] h K:=by
 have F:=ma.nonneg dc
 have ao:=mb.nonneg dc
 have az:=mb.len_zero dc
 have aa:=ma.lt dc
 refine Sq _ _ _ _ _ _ ?_
 refine Pl ma mb o ⟨_,rfl,B5 (fun h1=>?_) (fun h1=>D6 (fun h2=>?_) (fun h2=>?_))⟩
 ·have G:x<y:=by
   omega
  rw [Int.ediv_eq_zero_of_lt F G,Int.emod_eq_of_lt F G] at hK
  obtain ⟨xs,rfl,sx,dx,nx,rfl⟩:=ma
  refine Va Ha ?_
  intro b hb
  refine ⟨_,_,_,rfl,?_⟩
  have c:=Heap.le_put (h:=h) (b:=b) (.cells #[] 173) hb
  have af:=SlI.mono c sx
  refine Id Ha (Priv.nil _ _ _ _) (ys:=xs.map (Value.int .u32)) (by simp) af (fun v hv=>?_) o o ?_
  ·obtain ⟨a,_,rfl⟩:=List.mem_map.1 hv;rfl
  ·intro A' c' h' g' hg hp
   have C:=hp.slV
   simp only [Nat.zero_add] at hp ⊢
   exact ⟨_,_,_,rfl,hK none 0 0 A' xs.length c' h' (A0 c (A0 hg hp.le)) (aO _) hp.2.1 Mag.zero ⟨xs,rfl,C,dx,nx,rfl⟩⟩
 ·obtain ⟨ys,rfl,X,T,ny,rfl⟩:=mb
  obtain ⟨d,rfl⟩:∃ d,ys=[d]:=by
   cases ys with
   | nil=>grind
   | cons d r=>
    grind
  rw [N2] at hy ao hK
  have hd:=T d (by simp)
  refine X.load rfl o (by simp) ?_
  show aV _ _ #[_,U32 d] _ _
  refine Dh ma ⟨o,hd.2⟩ hl ?_
  intro A' m c' h' c hm a0 hM
  refine ⟨_,_,_,_,rfl,?_⟩
  refine P7 Ha rfl ?_
  intro b hb
  refine ⟨_,_,_,rfl,?_⟩
  have u:=Heap.le_put (h:=h') (b:=b) (.cells #[U32 (x%d)] 173) hb
  have hr:0<=x%d/\x%d<4294967296:=by
   have h3:=Int.emod_nonneg x (show d≠0 from o)
   have h4:=Int.emod_lt_of_pos x (show 0<d from o)
   grind
  refine S8 (xs:=[x%d]) (SlI.new h' b [x%d] 173 _) (Dig.one hr) (aO _) (by simp) ?_
  intro m2 H q
  rw [N2] at q
  exact ⟨_,_,_,rfl,hK _ _ _ _ _ _ _ (A0 c u) hm o (hM.mono u) q⟩
 ·have ap:y<=x:=by
   omega
  have a3:bn<=an:=mb.len_le dc (Int.lt_of_le_of_lt ap aa)
  obtain ⟨xs,rfl,sx,dx,nx,rfl⟩:=ma
  obtain ⟨ys,rfl,X,T,ny,rfl⟩:=mb
  obtain ⟨mm,hmm⟩:∃ mm,ys.length=mm+2:=⟨ys.length-2,o⟩
  have gt:=S6 T (mm+1)
  have a1:=Lu (m:=mm+1) hmm ny
  obtain ⟨ad,Q⟩:=Q9 (B:=b32) dc T (m:=mm+1) hmm
  refine ⟨fun l h'=>∃ s:Nat,l=[U s]/\h'=h/\s<32/\ys.getD (mm+1) 0*2^s<4294967296,fun l _=>32-(iAt l 0).toNat,⟨0,rfl,rfl,o,o⟩,?_⟩
  rintro si aj ⟨s,ay,rfl,C,al⟩
  obtain rfl:si=(s:Int):=gz0
  have e1:B6 ((ys.length:Int)-1)=((mm+1:Nat):Int):=by rw [B4 o o];omega
  rw [e1]
  refine X.load rfl o o ?_
  refine B5 (fun e=>absurd e o) (fun _=>?_)
  have g:0<(2:Int)^s:=Int.pow_pos dc
  have ax:2^s<=ys.getD (mm+1) 0*2^s:=by
   have:=aC (show 1<=ys.getD (mm+1) 0 from o) (aD g);omega
  have e2:F0 (ys.getD (((mm+1:Nat):Int)).toNat 0*2^(min ((s:Int)).toNat 32))=ys.getD (mm+1) 0*2^s:=by
   rw [Int.toNat_natCast,Int.toNat_natCast,Nat.min_eq_left o,I6 o al]
  refine B5 (fun h3=>?_) (fun h3=>?_)
  ·have M:s+1<32:=by
    grind
   have e3:B9 ((s:Int)+1)=((s+1:Nat):Int):=by rw [B8 o o];omega
   rw [e3]
   refine ⟨⟨s+1,rfl,rfl,M,?_⟩,by simp only [iAt,aW];omega⟩
   rw [Int.pow_succ,<- Int.mul_assoc];omega
  ·have ag:val b32 ys*2^s<b32^(mm+2):=by
    have am:=Dd (Nat.le_of_lt C)
    have t1:ys.getD (mm+1) 0+1<=2^(32-s):=by
     by_cases z:ys.getD (mm+1) 0+1<=2^(32-s)
     ·exact z
     ·have:=aC (show (2:Int)^(32-s)<=ys.getD (mm+1) 0 from o) (aD g)
      grind
    have t2:val b32 ys*2^s<(ys.getD (mm+1) 0+1)*b32^(mm+1)*2^s:=Int.mul_lt_mul_of_pos_right ad g
    have t4:(ys.getD (mm+1) 0+1)*2^s*b32^(mm+1)<=4294967296*b32^(mm+1):=by
     apply aC _ (aD (C9 dc _))
     rw [<- am,Int.mul_comm (2^s)]
     simp_all
    rw [Int.pow_succ b32 (mm+1),Int.mul_comm (b32^(mm+1))]
    grind
   have a2:2147483648*b32^(mm+1)<=val b32 ys*2^s:=by
    have t1:ys.getD (mm+1) 0*b32^(mm+1)*2^s<=val b32 ys*2^s:=aC Q (aD g)
    have t2:2147483648*b32^(mm+1)<=ys.getD (mm+1) 0*2^s*b32^(mm+1):=aC o (aD (C9 dc _))
    grind
   refine Cc X T C o ?_
   intro bv zv ai S ak aw
   refine ⟨_,_,_,rfl,?_⟩
   rw [<- S]
   refine S8 (V7 _ _ _ _ _) ak (aO _) o ?_
   intro n hn j
   refine ⟨_,_,_,rfl,?_⟩
   rw [aw] at j
   have av:n=mm+2:=by
    have l1:=j.len_le dc ag
    have l2:=j.lt dc
    by_cases z:n=mm+2
    ·exact z
    ·have:=C7 (B:=b32) dc (show n<=mm+1 from o)
     have:=C9 (B:=b32) dc (mm+1)
     omega
   subst av
   obtain ⟨W,R,sv,dv,nv,O⟩:=j
   have ae:4294967296<=2*W.getD (mm+1) 0:=by
    obtain ⟨q1,q2⟩:=Q9 (B:=b32) dc dv (m:=mm+1) R.symm
    have:2147483648<W.getD (mm+1) 0+1:=by
     by_cases z:2147483648<W.getD (mm+1) 0+1
     ·exact z
     ·have:=aC (show W.getD (mm+1) 0+1<=2147483648 from o) (aD (C9 (B:=b32) dc (mm+1)));omega
    omega
   have w:=V8 (k:=.u32) (e:=173) ai zv
   refine Cc (SlI.mono w sx) dx C o ?_
   intro bu E aq ar V ah
   refine ⟨_,_,_,rfl,?_⟩
   obtain ⟨nq,hnq⟩:∃ nq,xs.length+1=nq+(mm+2):=⟨xs.length+1-(mm+2),o⟩
   have e4:B6 (B6 (B6 (((xs.length+1:Nat):Int)-((mm+2:Nat):Int))-1)+1)=(nq:Int):=by
    rw [B4 (n:=((xs.length+1:Nat):Int)-((mm+2:Nat):Int)) o o,B4 (n:=_-(1:Int)) o o,B4 o o];omega
   rw [e4]
   refine H0 Ha o o o ?_
   intro bq p
   refine ⟨_,_,_,rfl,?_⟩
   have D:bu≠bq:=by
    rintro rfl
    unfold blk at p
    rw [C4] at p;cases p
   have L:blk .u32 173 aj bv zv bq=none:=by
    have:=p
    unfold blk at this ⊢
    rwa [B7 _ _ D.symm] at this
   refine So (us0:=E) (N:=xs.length+1) aq L D sv dv R.symm ae C O rfl V ar ah hnq o o ?_ ?_
   ·have s1:=D9 b32 E (i:=nq) o
    have s2:=C2 dc (V.take nq)
    have s3:val b32 E<b32^xs.length*2^s:=by
     simp_all
    have s4:b32^(mm+1)<=val b32 ys:=by
     have:=aC (show 1<=ys.getD (mm+1) 0 from o) (aD (C9 (B:=b32) dc (mm+1)));omega
    have s5:b32^nq*(b32^(mm+1)*2^s)<=b32^nq*(val b32 ys*2^s):=aQ (aC s4 (aD g)) (aD (C9 dc nq))
    have s6:b32^nq*(b32^(mm+1)*2^s)=b32^xs.length*2^s:=by
     grind
    by_cases z:val b32 (E.drop nq)<val b32 ys*2^s
    ·exact z
    ·have:=aQ (show val b32 ys*2^s<=val b32 (E.drop nq) from o) (aD (C9 (B:=b32) dc nq));omega
   ·intro A1 m1 c1 A2 m2 c2 h' c au H ab q
    exact hK _ _ _ _ _ _ _ (A0 w c) au H ab q
end
def SlI.unique{k:IntKind}{h:aX}{A:Option aS}{xs ys:List Int}(s:SlI k h A xs)(t:SlI k h A ys)(hl:xs.length=ys.length):xs=ys:=by
 apply List.ext_getElem hl
 intro i g e
 obtain ⟨a,d,l⟩:=SlV.at s (i:=i) gz0
 obtain ⟨b,j,c⟩:=SlV.at t (i:=i) gz0
 grind
def Qz(h:aX)(A:Option aS)(len:Nat):List Int:=(List.range len).map fun i=>
 match A with
 | some a=>(match h.cell? (a.add i) with|some (.int _ n)=>n|_=>0)
 | none=>0
def Uu(B:Int)(h:aX)(A:Option aS)(len:Nat):Nat:=(val B (Qz h A len)).toNat
def Wc{k:IntKind}{h:aX}{A:Option aS}{xs:List Int}(s:SlI k h A xs):Qz h A xs.length=xs:=by
 apply List.ext_getElem
 ·simp [Qz]
 ·intro i d e
  obtain ⟨a,b,c⟩:=SlV.at s (i:=i) gz0
  subst b
  simp [Qz,c]
def P6{k:IntKind}{B:Int}{h:aX}{A:Option aS}{len:Nat}{n:Int}(m:Mag k B h A len n):Uu B h A len=n.toNat:=by
 obtain ⟨a,rfl,s,_,_,rfl⟩:=m
 unfold Uu
 rw [Wc s]
def ZB(m:Nat)(z:Int):Prop:=z.natAbs<2^m
def ZB.mono{m n:Nat}{z:Int}(h:ZB m z)(hm:m<=n):ZB n z:=Nat.lt_of_lt_of_le h (Nat.pow_le_pow_right dc hm)
def ZB.neg{m:Nat}{z:Int}(h:ZB m z):ZB m (-z):=by unfold ZB at *;omega
def ZB.add{m:Nat}{x y:Int}(hx:ZB m x)(hy:ZB m y):ZB (m+1) (x+y):=by
 unfold ZB at *;omega
def ZB.mul{m n:Nat}{x y:Int}(hx:ZB m x)(hy:ZB n y):ZB (m+n) (x*y):=by
 unfold ZB at *;rw [Int.natAbs_mul,Nat.pow_add]
 have a:x.natAbs*y.natAbs<=x.natAbs*2^n:=aK _ (Nat.le_of_lt hy)
 have b:x.natAbs*2^n<2^m*2^n:=Nat.mul_lt_mul_of_pos_right hx (aI dc)
 omega
def ZB.le{m:Nat}{x y:Int}(hx:ZB m x)(h:y.natAbs<=x.natAbs):ZB m y:=Nat.lt_of_le_of_lt h hx
def ZB.one{m:Nat}(h:1<=m):ZB m 1:=ZB.mono (m:=1) (by unfold ZB;decide) h
def ZB.zero{m:Nat}:ZB m 0:=aI dc
def Uy{k:IntKind}{j:Nat}(hj:0<j){h:aX}{A:Option aS}{n m:Nat}{x:Int}(M:Mag k ((2:Int)^j) h A n x)(hx:x<2^m):n<=m/j+1:=by
 refine M.len_le ?_ ?_
 ·have:=C7 (B:=2) dc hj;omega
 ·have e:((2:Int)^j)^(m/j+1)=2^(j*(m/j+1)):=by rw [Int.pow_mul]
  have:m<=j*(m/j+1):=by
   have a:=Nat.div_add_mod m j
   have b:=Nat.mod_lt m hj
   grind
  have:=C7 (B:=2) dc this
  omega
structure NI (h:aX) (s:Bool) (A:Option aS) (n c:Nat) (z:Int):Prop where
 mag:Mg h A n (z.natAbs:Int)
 sg:s=decide (z<0)
 cap:n<=c
section
variable {h h':aX} {K:VP} {A B:Option aS} {n c n' c':Nat} {s s':Bool} {x y z:Int} {m:Nat}
def NI.mono(hl:h.le h')(i:NI h s A n c z):NI h' s A n c z:=⟨i.mag.mono hl,i.sg,i.cap⟩
def NI.len(i:NI h s A n c z)(hz:ZB m z)(hm:m<=575000000000000):n<=18000000000000:=by
 have:=Uy (j:=32) dc i.mag (m:=m) (by unfold ZB at hz;grind)
 omega
def NI.zero_iff(i:NI h s A n c z):n=0↔z=0:=by
 have:=i.mag.len_zero dc
 omega
def NI.nil:NI h false A 0 0 0:=⟨Mag.zero,rfl,aO _⟩
def R2{neg:Bool}{x:Int}(M:Mg h A n x)(hc:n<=c)(hK:∀ s,NI h s A n c (if neg then -x else x)->K (.agg #[.bool s,.slice A n c]) h):aV prog 143 #[.bool neg,.slice A n c] h K:=by
 have a:=M.nonneg dc
 have b:=M.len_zero dc
 refine (fnk func143 (own:=[4])) ?_
 refine Br.of (fun e=>?_) (fun e=>?_)
 ·refine hK _ ⟨?_,?_,hc⟩
  ·grind
  grind
 ·refine hK _ ⟨?_,?_,hc⟩
  ·grind
  grind
def Ts(i:NI h s A n c z)(hK:K (I z.sign) h):aV prog 106 #[.agg #[.bool s,.slice A n c]] h K:=by
 have b:=i.zero_iff
 have a:=i.sg
 refine (fnk func106 (own:=[1])) ?_
 refine Br.of (fun e=>?_) (fun e=>?_)
 ·grind
 ·refine D6 (fun e=>?_) (fun e=>?_)
  ·grind
  grind
def Qq(i:NI h s A n c z)(hK:∀ s,NI h s A n c (-z)->K (.agg #[.bool s,.slice A n c]) h):aV prog 203 #[.agg #[.bool s,.slice A n c]] h K:=by
 refine (fnk func203 (own:=[1,2])) ?_
 refine R2 i.mag i.cap ?_
 intro b a
 refine ⟨_,_,_,_,rfl,hK _ ?_⟩
 have:(if (!s)=true then -(z.natAbs:Int) else (z.natAbs:Int))= -z:=by
  rw [i.sg]
  grind
 grind
def Tr(x y:Int)(p:Nat)(hs:s=decide (x<0))(hs':s'=decide (y<0)):(if (!(s==s'))=true then -(p:Int) else (p:Int))=x.sign*y.sign*p\/x=0\/y=0:=by
 grind
def Rf(x y:Int):x.tdiv y=x.sign*y.sign*((x.natAbs/y.natAbs:Nat):Int):=by
 have key:∀ a b:Nat,(a:Int).tdiv b=(a:Int).sign*(b:Int).sign*((a/b:Nat):Int):=by
  intro a b
  by_cases c:a=0
  ·simp_all
  grind
 obtain ⟨a,rfl|rfl⟩:=Int.eq_nat_or_neg x<;>obtain ⟨b,rfl|rfl⟩:=Int.eq_nat_or_neg y<;>simp only [Int.neg_tdiv,Int.tdiv_neg,Int.sign_neg,Int.natAbs_neg,aF,key]<;>grind
def He(ia:NI h s A n c x)(ib:NI h s' B n' c' y)(hy0:y≠0)(hx:ZB m x)(hy:ZB m y)(hm:m<=575000000000000)(hK:∀ s A n c s' B n' c' h',h.le h'->NI h' s A n c (x.tdiv y)->NI h' s' B n' c' (x.tmod y)->K (.tuple #[.agg #[.bool s,.slice A n c],.agg #[.bool s',.slice B n' c']]) h'):aV prog 206 #[.agg #[.bool s,.slice A n c],.agg #[.bool s',.slice B n' c']] h K:=by
 refine (fnk func206 (os:=[(2,[0,1,2,3,4,5,7,8,9,6,10,11,12])]) (own:=[2,3,4,5])) ?_
 refine Hv ia.mag ib.mag o (ia.len hx hm) (ib.len hy hm) ?_
 intro A1 C D A2 q l r a d b M1 M2
 refine ⟨_,_,_,_,_,_,rfl,?_⟩
 refine R2 M1 d ?_
 intro z i
 refine ⟨_,_,_,_,rfl,B3 _,?_⟩
 refine R2 M2 b ?_
 intro p u
 refine ⟨_,_,_,_,rfl,B3 _,hK _ _ _ _ _ _ _ _ _ a ?_ ?_⟩
 ·have:(if (!(s==s'))=true then -((x.natAbs:Int)/y.natAbs) else (x.natAbs:Int)/y.natAbs)=x.tdiv y:=by
   rcases Tr x y (x.natAbs/y.natAbs) ia.sg ib.sg with e|e|e
   ·rw [aN] at e
    rw [e,Rf,aN]
   ·simp_all
   omega
  grind
 ·have:(if s=true then -((x.natAbs:Int)%y.natAbs) else (x.natAbs:Int)%y.natAbs)=x.tmod y:=by
   rw [ia.sg]
   by_cases w:x<0
   ·obtain ⟨k,rfl⟩:∃ k:Nat,x= -(k:Int):=⟨x.natAbs,o⟩
    rw [Int.neg_tmod,Int.natAbs_neg,aF]
    congr 1
    rw [<- aU o]
    by_cases g:y<0
    ·obtain ⟨j,rfl⟩:∃ j:Nat,y= -(j:Int):=⟨y.natAbs,o⟩
     simp_all
    grind
   ·rw [iN gz0]
    rw [Int.natAbs_of_nonneg o,<- aU o]
    by_cases g:y<0
    ·obtain ⟨j,rfl⟩:∃ j:Nat,y= -(j:Int):=⟨y.natAbs,o⟩
     simp_all
    grind
  grind
end
def H8(n:Nat):Nat:=if n=0 then 0 else Nat.log2 n+1
def Ns:H8 0=0:=rfl
def Wd{n:Nat}(h:n≠0):H8 n=H8 (n/2)+1:=by
 unfold H8
 rw [iN h]
 by_cases a:n/2=0
 ·have:n=1:=o
  subst this;rfl
 ·rw [iN a,Nat.log2_def n,iP o]
def S3{n:Nat}(h:n≠0):2^(H8 n-1)<=n/\n<2^H8 n:=by
 unfold H8
 rw [iN h,Nat.add_sub_cancel]
 exact ⟨Nat.log2_self_le h,Nat.lt_log2_self⟩
def Pq{n k:Nat}(h1:2^k<=n)(h2:n<2^(k+1)):H8 n=k+1:=by
 have c:n≠0:=o
 unfold H8
 rw [iN c]
 have a:=(Nat.le_log2 c).2 h1
 have b:=(Nat.log2_lt c).2 h2
 omega
def Jp{l t j:Nat}(hl:l<2^j)(ht:t≠0):H8 (l+2^j*t)=j+H8 t:=by
 obtain ⟨a,b⟩:=S3 ht
 have c:H8 t=H8 t-1+1:=gz0
 rw [c,<- Nat.add_assoc]
 apply Pq
 ·rw [Nat.pow_add]
  have:=aK (2^j) a
  omega
 ·have:=aK (2^j) (show t+1<=2^H8 t from o)
  grind
def Y7{n k:Nat}(h:n<2^k):H8 n<=k:=by
 by_cases a:n=0
 ·subst a;rw [Ns];omega
 ·unfold H8;rw [iN a];have:=(Nat.log2_lt a).2 h;omega
def Ra{n:Nat}:H8 n=1↔n=1:=by
 constructor
 ·intro h
  by_cases a:n=0
  ·subst a;cases h
  ·have:=S3 a
   grind
 ·rintro rfl;rfl
def Pr{n:Nat}:1<H8 n↔1<n:=by
 by_cases b:n=0
 ·subst b;rfl
 by_cases a:n=1
 ·subst a;decide
 ·have c:H8 n≠0:=by unfold H8;grind
  have d:H8 n≠1:=fun e=>a (Ra.1 e)
  omega
section
variable {h h':aX} {K:VP} {A B:Option aS} {n c n' c':Nat} {s s':Bool} {x y z:Int} {m:Nat}
def Yl(ia:NI h s A n c x)(ib:NI h s' B n' c' y)(hx:ZB m x)(hy:ZB m y)(hm:m<=575000000000000)(hK:∀ s A n c h',h.le h'->NI h' s A n c (aH x y)->K (.agg #[.bool s,.slice A n c]) h'):aV prog 204 #[.agg #[.bool s,.slice A n c],.agg #[.bool s',.slice B n' c']] h K:=by
 refine (fnk func204 [(2,[5,6],[],[.slice none 0 0,.slice none 0 0])] (own:=[2,3,4])) ?_
 refine ⟨fun l b=>∃ (A B:Option aS) (n c n' c' X Y:Nat),l=[.slice A n c,.slice B n' c']/\h.le b/\Mg b A n X/\Mg b B n' Y/\n<=c/\n'<=c'/\Nat.gcd X Y=aH x y/\n<=18000000000000/\n'<=18000000000000,fun l b=>match l with|[_,.slice A n _]=>Uu b32 b A n|_=>0,⟨_,_,_,_,_,_,_,_,rfl,B3 h,ia.mag,ib.mag,ia.cap,ib.cap,rfl,ia.len hx hm,ib.len hy hm⟩,?_⟩
 rintro A1 L F B1 p G b ⟨A1',B1',k,e,d,g,X,Y,Q,i,M1,M2,u,H,z,C,r⟩
 obtain ⟨⟨rfl,rfl,rfl⟩,rfl,rfl,rfl⟩:(A1=A1'/\L=k/\F=e)/\B1=B1'/\p=d/\G=g:=gz0
 have O:=M2.len_zero dc
 refine B5 (fun D=>?_) (fun D=>?_)
 ·have q:Y≠0:=o
  refine Hv M1 M2 o C r ?_
  intro A3 M R A4 S T h' a N E M3 M4
  have w:=Nat.mod_lt X (Nat.pos_of_ne_zero q)
  refine ⟨_,_,_,_,_,_,rfl,⟨_,_,_,_,_,_,Y,X%Y,rfl,A0 i a,M2.mono a,M4,H,E,?_,r,?_⟩,?_⟩
  ·rw [<- z,Nat.gcd_comm X Y,Nat.gcd_rec Y X,Nat.gcd_comm]
  ·have:=M4.len_le dc (j:=p) (Int.lt_trans (show ((X%Y:Nat):Int)<(Y:Int) from o) (M2.lt dc))
   omega
  ·simp only [P6 M4,P6 M2];omega
 ·have q:Y=0:=o
  refine R2 M1 u ?_
  grind
def Nt(i:NI h s A n c z)(hz:ZB m z)(hm:m<=575000000000000)(hK:K (I (H8 z.natAbs)) h):aV prog 205 #[.agg #[.bool s,.slice A n c]] h K:=by
 have R:=i.len hz hm
 have u:=i.zero_iff
 refine (fnk func205 [(5,[3,4],[],[I 0,U32 0])] (own:=[1])) ?_
 refine D6 (fun e=>?_) (fun e=>?_)
 ·have:z=0:=u.1 o
  subst this;exact hK
 ·obtain ⟨a,d,E,p,M,W⟩:=i.mag
  obtain ⟨k,hk⟩:∃ k,a.length=k+1:=⟨a.length-1,o⟩
  have G:B6 ((n:Int)-1)=(k:Int):=by rw [B4 o o];omega
  have C:B6 (32*(k:Int))=((32*k:Nat):Int):=by rw [B4 o o];omega
  rw [G,C]
  refine E.load d o o ?_
  have T:=S6 p k
  have O:=Lu hk M
  have w:32*k+H8 (a.getD k 0).toNat=H8 z.natAbs:=by
   have Q:=E5 b32 a k
   have D:=H1 dc (p.take k)
   have N:=C2 dc (p.take k)
   rw [List.length_take,Nat.min_eq_left o] at D
   have V:b32^k=((2^(32*k):Nat):Int):=by
    rw [show b32=(2:Int)^32 from dc,<- Int.pow_mul];simp
   have j:z.natAbs=(val b32 (a.take k)).toNat+2^(32*k)*(a.getD k 0).toNat:=by
    grind
   rw [j,Jp o o]
  refine ⟨fun l q=>∃ (t k:Nat),l=[I k,U32 t]/\q=h/\k+H8 t=H8 z.natAbs/\t<4294967296,fun l _=>(iAt l 1).toNat,⟨(a.getD k 0).toNat,32*k,?_,rfl,w,o⟩,?_⟩
  ·grind
  ·rintro F r q ⟨t,b,L,rfl,g,x⟩
   obtain ⟨rfl,rfl⟩:F=(b:Int)/\r=(t:Int):=gz0
   have y:H8 z.natAbs<=m:=Y7 hz
   refine B5 (fun B=>?_) (fun B=>?_)
   ·have j:Int.fdiv (t:Int) (2^(min ((1:Int)).toNat 32))=((t/2:Nat):Int):=by
     grind
    have S:=Wd (n:=t) o
    have H:B6 ((b:Int)+1)=((b+1:Nat):Int):=by rw [B4 o o];omega
    rw [j,H]
    exact ⟨⟨t/2,b+1,rfl,rfl,o,o⟩,by simp only [iAt,aW,List.getElem?_cons_succ];omega⟩
   ·have:t=0:=o
    subst this
    rw [Ns,Nat.add_zero] at g
    grind
end
structure QV where
 s:Bool
 A:Option aS
 n:Nat
 c:Nat
 s2:Bool
 A2:Option aS
 n2:Nat
 c2:Nat
abbrev QV.v(w:QV):Value:=.agg #[.bool w.s,.slice w.A w.n w.c,.bool w.s2,.slice w.A2 w.n2 w.c2]
structure NQ (h:aX) (w:QV) (q:Rat):Prop where
 num:NI h w.s w.A w.n w.c q.num
 den:NI h w.s2 w.A2 w.n2 w.c2 (if q.den=1 then 0 else (q.den:Int))
structure Sz (m:Nat) (q:Rat):Prop where
 num:ZB m q.num
 den:ZB m q.den
def Sz.mono{m n:Nat}{q:Rat}(h:Sz m q)(hm:m<=n):Sz n q:=⟨h.num.mono hm,h.den.mono hm⟩
def Sz.neg{m:Nat}{q:Rat}(h:Sz m q):Sz m (-q):=⟨by exact h.num.neg,by exact h.den⟩
def Dw{a b:Int}(hb:b≠0):(aE a b).num.natAbs<=a.natAbs/\(aE a b).den<=b.natAbs:=by
 rw [Rat.num_divInt,Rat.den_divInt,iN hb]
 constructor
 ·have c:(aH b a:Int)∣b.sign*a:=Int.dvd_mul_of_dvd_right (Int.gcd_dvd_right b a)
  rw [Int.natAbs_ediv_of_dvd c,Int.natAbs_mul,aF]
  have:b.sign.natAbs=1:=by
   grind
  rw [this,Nat.one_mul]
  exact Nat.div_le_self _ _
 ·exact Nat.div_le_self _ _
def Ii{m:Nat}{a b:Int}(hb:b≠0)(h1:ZB m a)(h2:ZB m b):Sz m (aE a b):=by
 have:=Dw (a:=a) hb
 exact ⟨h1.le this.1,h2.le o⟩
def Fh(p q:Rat):p+q=aE (p.num*q.den+q.num*p.den) (p.den*q.den):=by
 rw [Rat.add_def',<- Int.natCast_mul,aM]
def Jg(p q:Rat):p*q=aE (p.num*q.num) (p.den*q.den):=by
 rw [Rat.mul_def',<- Int.natCast_mul,aM]
def Sf(z:Int):aE z 1=(z:Rat):=by
 show aE z ((1:Nat):Int)=_
 rw [aM]
 apply Rat.ext
 ·rw [Rat.num_mkRat];simp
 ·rw [Rat.den_mkRat];simp
def den_ne(q:Rat):(q.den:Int)≠0:=by have:=q.den_nz;omega
def Se(p q:Rat):p/q=aE (p.num*q.den) (p.den*q.num):=by
 rw [Rat.div_def,<- Rat.num_divInt_den p,<- Rat.num_divInt_den q,Rat.inv_divInt,Rat.divInt_mul_divInt]
 simp_all
def Sz.add{m n:Nat}{p q:Rat}(hp:Sz m p)(hq:Sz n q):Sz (m+n+1) (p+q):=by
 rw [Fh]
 refine Ii (Int.mul_ne_zero (den_ne p) (den_ne q)) ?_ ((hp.den.mul hq.den).mono o)
 exact (hp.num.mul hq.den).add ((hq.num.mul hp.den).mono o)
def Sz.sub{m n:Nat}{p q:Rat}(hp:Sz m p)(hq:Sz n q):Sz (m+n+1) (p-q):=by
 rw [Rat.sub_eq_add_neg];exact hp.add hq.neg
def Sz.mul{m n:Nat}{p q:Rat}(hp:Sz m p)(hq:Sz n q):Sz (m+n) (p*q):=by
 rw [Jg]
 exact Ii (Int.mul_ne_zero (den_ne p) (den_ne q)) (hp.num.mul hq.num) (hp.den.mul hq.den)
def Sz.zero{m:Nat}(hm:1<=m):Sz m 0:=⟨ZB.zero,ZB.one hm⟩
def Sz.inv{m:Nat}{q:Rat}(h:Sz m q)(hm:1<=m):Sz m q⁻¹:=by
 constructor
 ·rw [Rat.num_inv]
  refine h.den.le ?_
  grind
 ·rw [Rat.den_inv]
  split
  ·exact ZB.one hm
  ·have:=h.num
   assumption
def Sz.div{m n:Nat}{p q:Rat}(hp:Sz m p)(hq:Sz n q)(hn:1<=n):Sz (m+n) (p/q):=by
 exact hp.mul (hq.inv hn)
def Sz.int{m:Nat}{z:Int}(h:ZB m z)(hm:1<=m):Sz m (z:Rat):=⟨by assumption,by simpa using ZB.one hm⟩
section
variable {h h':aX} {K:VP} {A B:Option aS} {n c n' c':Nat} {s s':Bool} {x y z:Int} {m:Nat} {p q:Rat} {a b w:QV}
def NQ.whole(i:NI h s A n c z){B:Option aS}:NQ h ⟨s,A,n,c,false,B,0,0⟩ (z:Rat):=⟨by assumption,by simpa using NI.nil⟩
def NQ.den_zero(i:NQ h w q):w.n2=0↔q.den=1:=by
 rw [i.den.zero_iff]
 have:=q.den_nz
 omega
def NQ.zero:NQ h ⟨false,none,0,0,false,none,0,0⟩ 0:=⟨NI.nil,NI.nil⟩
def Vi(ix:NI h s A n c x)(iy:NI h s' B n' c' y)(hy0:y≠0)(hx:ZB m x)(hy:ZB m y)(hm:m<=575000000000000)(hK:∀ w h',h.le h'->NQ h' w (aE x y)->K w.v h'):aV prog 144 #[.agg #[.bool s,.slice A n c],.agg #[.bool s',.slice B n' c']] h K:=by
 refine (fnk func144 (cs:=[(3,[],[(2,2),(3,2)],[.bool false,.slice none 0 0,.bool false,.slice none 0 0]),(7,[],[(2,2),(3,2)],[.bool false,.slice none 0 0,.bool false,.slice none 0 0]),(9,[],[(3,2)],[.bool false,.slice none 0 0])]) (os:=[(2,[0,2,1,3,4,5])]) (own:=[2,3,4,5])) ?_
 refine ⟨fun l p=>∃ s A n c s' B n' c' g d,l=[.bool s,.slice A n c,.bool s',.slice B n' c']/\h.le p/\NI p s A n c g/\NI p s' B n' c' d/\0<d/\aE g d=aE x y/\ZB m g/\ZB m d,Br.of (fun e=>?_) (fun e=>?_),?_⟩
 ·have ak:y<0:=by have:=iy.sg;grind
  refine Qq ix ?_
  intro s1 F
  refine ⟨_,_,_,_,rfl,B3 h,?_⟩
  refine Qq iy ?_
  intro s2 D
  exact ⟨_,_,_,_,rfl,B3 h,_,_,_,_,_,_,_,_,-x,-y,rfl,B3 h,F,D,o,Rat.neg_divInt_neg x y,hx.neg,hy.neg⟩
 ·have j:0<y:=by have:=iy.sg;grind
  exact ⟨_,_,_,_,_,_,_,_,x,y,rfl,B3 h,ix,iy,j,rfl,hx,hy⟩
 rintro s1 A1 n1 c1 s2 A2 n2 c2 an ⟨N,A1',ag,S,T,A2',Q,aa,g,d,hl,G,F,D,j,hq,C,r⟩
 obtain ⟨rfl,⟨rfl,rfl,rfl⟩,rfl,rfl,rfl,rfl⟩:s1=N/\(A1=A1'/\n1=ag/\c1=S)/\s2=T/\A2=A2'/\n2=Q/\c2=aa:=gz0
 refine Yl F D C r o ?_
 intro s3 A3 n3 c3 h3 z i3
 refine ⟨_,_,_,_,rfl,?_⟩
 rw [<- hq] at hK
 generalize hqq:aE g d=q at *
 have i:q.num=g/(aH g d:Int):=by
  rw [<- hqq,Rat.num_divInt,Int.sign_eq_one_of_pos j,Int.one_mul,Int.gcd_comm]
 have k:(q.den:Int)=d/(aH g d:Int):=by
  rw [<- hqq,Rat.den_divInt,iN o,Int.gcd_comm,aN,Int.natAbs_of_nonneg o]
 have am:0<aH g d:=Int.gcd_pos_of_ne_zero_right g o
 have u:ZB m (aH g d:Int):=by
  refine r.le ?_
  exact Nat.le_of_dvd o (by have:=Int.gcd_dvd_right g d;exact Int.ofNat_dvd_left.1 this)
 refine ⟨fun l p=>∃ s A n c s' B n' c',l=[.bool s,.slice A n c,.bool s',.slice B n' c']/\h.le p/\NI p s A n c q.num/\NI p s' B n' c' q.den,?_,?_⟩
 ·refine Nt i3 u o ⟨_,rfl,?_⟩
  rw [aF]
  refine B5 (fun e=>?_) (fun e=>?_)
  ·refine He (F.mono z) i3 o C u o ?_
   intro O A4 V c4 s5 A5 n5 c5 h4 l4 H _
   refine ⟨_,_,_,_,_,_,_,_,rfl,?_⟩
   refine He ((D.mono z).mono l4) (i3.mono l4) o r u o ?_
   intro M A6 n6 c6 s7 A7 n7 c7 h5 l5 L _
   have e1:g.tdiv (aH g d:Int)=q.num:=by rw [i,Int.tdiv_eq_ediv_of_dvd (Int.gcd_dvd_left g d)]
   have e2:d.tdiv (aH g d:Int)=q.den:=gz0
   rw [e1] at H
   rw [e2] at L
   exact ⟨_,_,_,_,_,_,_,_,rfl,_,_,_,_,_,_,_,_,rfl,A0 G (A0 z (A0 l4 l5)),H.mono l5,L⟩
  ·have hg:aH g d=1:=by
    have:¬ 1<H8 (aH g d):=o
    rw [Pr] at this;omega
   rw [hg] at i k
   simp at i k
   exact ⟨_,_,_,_,_,_,_,_,rfl,A0 G z,by rw [i];exact F.mono z,by rw [k];exact D.mono z⟩
 rintro O A4 V c4 s5 A5 n5 c5 af ⟨ab,A4',ah,R,X,A5',ai,ae,al,E,H,i5⟩
 obtain ⟨rfl,⟨rfl,rfl,rfl⟩,rfl,rfl,rfl,rfl⟩:O=ab/\(A4=A4'/\V=ah/\c4=R)/\s5=X/\A5=A5'/\n5=ai/\c5=ae:=gz0
 have ac:ZB m (q.den:Int):=by
  refine r.le ?_
  have:=(Dw (a:=g) (b:=d) o).2
  grind
 refine ⟨fun l p=>∃ s' B n' c',l=[.bool s',.slice B n' c']/\p=af/\NI p s' B n' c' (if q.den=1 then 0 else (q.den:Int)),?_,?_⟩
 ·refine Nt i5 ac o ⟨_,rfl,?_⟩
  rw [aF]
  refine D6 (fun e=>?_) (fun e=>?_)
  ·have:q.den=1:=Ra.1 o
   exact ⟨_,_,_,_,rfl,rfl,by rw [iP this];exact NI.nil⟩
  ·have:¬ q.den=1:=fun e1=>e (by rw [e1];rfl)
   grind
 rintro M A6 n6 c6 ap ⟨aj,A6',W,ad,ao,rfl,L⟩
 obtain ⟨rfl,rfl,rfl,rfl⟩:M=aj/\A6=A6'/\n6=W/\c6=ad:=gz0
 exact hK ⟨O,A4,V,c4,M,A6,n6,c6⟩ _ E ⟨H,L⟩
end
def dch(d:Nat):UInt8:=UInt8.ofNat (48+d)
def V4{d:Nat}(h:d<10):(dch d).toNat=48+d:=by
 unfold dch;rw [UInt8.toNat_ofNat'];omega
def E6(c:UInt8):Prop:=48<=c.toNat/\c.toNat<=57
instance (c:UInt8):Decidable (E6 c):=by unfold E6;infer_instance
def A1j{d:Nat}(h:d<10):E6 (dch d):=by unfold E6;rw [V4 h];omega
def A00{c:UInt8}(h:E6 c):dch (c.toNat-48)=c:=by
 unfold E6 at h
 apply UInt8.toNat_inj.1
 rw [V4 o];omega
def dd(n:Nat):List UInt8:=if _h:n=0 then [] else dd (n/10)++[dch (n%10)]
def E9:dd 0=[]:=by unfold dd;simp
def L3{n:Nat}(h:n≠0):dd n=dd (n/10)++[dch (n%10)]:=by rw [dd];simp [h]
def F9(l:List UInt8):Nat:=l.foldl (fun a c=>10*a+(c.toNat-48)) 0
def Bc(l:List UInt8)(c:UInt8):F9 (l++[c])=10*F9 l+(c.toNat-48):=by simp [F9]
def A1f(l:List UInt8):∀ a,l.foldl (fun a c=>10*a+(c.toNat-48)) a=a*10^l.length+F9 l:=by
 induction l with
 | nil=>intro a;simp [F9]
 | cons c l ih=>
  intro a
  unfold F9
  rw [List.foldl_cons,List.foldl_cons,ih,ih,List.length_cons,aG]
  grind
def Y5(a b:List UInt8):F9 (a++b)=F9 a*10^b.length+F9 b:=by
 unfold F9;rw [List.foldl_append,A1f b];rfl
def Vp(c:UInt8)(l:List UInt8):F9 (c::l)=(c.toNat-48)*10^l.length+F9 l:=by
 rw [<- List.singleton_append,Y5];simp [F9]
def U1{l:List UInt8}(h:∀ c∈l,E6 c):F9 l<10^l.length:=by
 induction l with
 | nil=>simp [F9]
 | cons c l ih=>
  have d:=ih fun x b=>h x (by simp [b])
  have a:=h c (by simp)
  unfold E6 at a
  rw [Vp,List.length_cons,aG]
  have:(c.toNat-48)*10^l.length<=9*10^l.length:=Nat.mul_le_mul_right _ o
  omega
def A1g(n:Nat):F9 (dd n)=n:=by
 induction n using aR with
 | _ n ih=>
  by_cases h:n=0
  ·subst h;rw [E9];rfl
  ·rw [L3 h,Bc,ih _ o,V4 o];omega
def A3v(n:Nat):∀ c∈dd n,E6 c:=by
 induction n using aR with
 | _ n ih=>
  by_cases h:n=0
  ·subst h;rw [E9];simp
  ·rw [L3 h]
   intro c b
   rcases List.mem_append.1 b with a|a
   ·exact ih _ o c a
   ·rw [List.mem_singleton.1 a];exact A1j o
def Yq{n:Nat}(h:n≠0):dd n≠[]:=by rw [L3 h];simp
def Vw(n:Nat)(h:n≠0):(dd n).head? ≠ some 48:=by
 induction n using aR with
 | _ n ih=>
  rw [L3 h]
  by_cases a:n/10=0
  ·rw [a,E9]
   simp only [List.nil_append,List.head?_cons,ne_eq,Option.some.injEq]
   intro e
   have:=V4 (d:=n%10) o
   rw [e] at this
   simp at this
   omega
  ·have:=ih _ o a
   obtain ⟨c,r,e⟩:=aT (Yq a)
   rw [e] at this ⊢
   simpa using this
def Vx{l:List UInt8}(h:∀ c∈l,E6 c)(h0:l.head? ≠ some 48):dd (F9 l)=l:=by
 obtain ⟨n,i⟩:∃ n,l.length=n:=⟨_,rfl⟩
 induction n generalizing l with
 | zero=>rw [aP i];exact E9
 | succ n ih=>
  obtain ⟨m,c,rfl⟩:∃ m c,l=m++[c]:=by
   refine ⟨l.dropLast,l.getLast (by rintro rfl;simp at i),?_⟩
   rw [List.dropLast_concat_getLast]
  have g:=h c (by simp)
  have b:=g
  unfold E6 at b
  rw [Bc]
  cases m with
  | nil=>
   simp at h0
   have p:c.toNat-48≠0:=by
    intro e
    apply h0
    apply UInt8.toNat_inj.1
    show c.toNat=48
    omega
   rw [L3 (by simp [F9];omega)]
   simp only [F9,List.foldl_nil,List.nil_append]
   rw [show (10*0+(c.toNat-48))/10=0 from o,E9,show (10*0+(c.toNat-48))%10=c.toNat-48 from o,A00 g];rfl
  | cons d m=>
   have a:=ih (l:=d::m) (fun x k=>h x (by simp at k ⊢;rcases k with h|h<;>simp [h])) (by simpa using h0) (by simpa using i)
   have j:F9 (d::m)≠0:=by
    intro e
    rw [e,E9] at a
    cases a
   rw [L3 o,show (10*F9 (d::m)+(c.toNat-48))/10=F9 (d::m) from o,a,show (10*F9 (d::m)+(c.toNat-48))%10=c.toNat-48 from o,A00 g]
def J0{n k:Nat}:(dd n).length<=k↔n<10^k:=by
 induction k generalizing n with
 | zero=>
  constructor
  ·intro h
   have:dd n=[]:=aP o
   by_cases a:n=0
   ·subst a;decide
   ·exact absurd this (Yq a)
  ·intro h
   have:n=0:=by simp at h;exact h
   subst this;rw [E9];simp
 | succ k ih=>
  by_cases a:n=0
  ·subst a;rw [E9];simp [aI]
  ·rw [L3 a,aL,List.length_singleton,Nat.add_le_add_iff_right,ih,aG]
   omega
def pad(w n:Nat):List UInt8:=List.replicate (w-(dd n).length) 48++dd n
def Qn(n:Nat):pad 0 n=dd n:=by simp [pad]
def Jd{w n:Nat}(h:n<10^w):(pad w n).length=w:=by
 have:=J0.2 h
 simp [pad];omega
def Gr(w n:Nat):pad (w+1) n=pad w (n/10)++[dch (n%10)]:=by
 unfold pad
 by_cases h:n=0
 ·subst h
  rw [E9]
  simp only [List.length_nil,Nat.sub_zero,List.append_nil,Nat.zero_mod]
  rw [List.replicate_succ'];rfl
 ·rw [L3 h,aL,List.length_singleton,Nat.add_sub_add_right,aJ]
def A3u{h l k:Nat}(h0:h≠0)(hl:l<10^k):dd (h*10^k+l)=dd h++pad k l:=by
 induction k generalizing l with
 | zero=>
  have:l=0:=by simpa using hl
  subst this;simp [pad,E9]
 | succ k ih=>
  have d:0<10^k:=aI dc
  have a:h*10^(k+1)+l≠0:=by
   have:0<h*10^(k+1):=Nat.mul_pos o (aI dc)
   omega
  have c:(h*10^(k+1)+l)/10=h*10^k+l/10:=by
   rw [aG,<- Nat.mul_assoc];omega
  have b:(h*10^(k+1)+l)%10=l%10:=by
   rw [aG,<- Nat.mul_assoc];omega
  rw [L3 a,c,b,ih (by rw [aG] at hl;omega),Gr,aJ]
def Mt{w h l k:Nat}(hl:l<10^k)(hw:h≠0\/k<=w):pad w (h*10^k+l)=pad (w-k) h++pad k l:=by
 by_cases b:h=0
 ·subst b
  have c:k<=w:=by
   rcases hw with h|h
   ·exact absurd rfl h
   ·exact h
  have:=J0.2 hl
  unfold pad
  rw [E9]
  simp only [Nat.zero_mul,Nat.zero_add,List.length_nil,Nat.sub_zero,List.append_nil,<- aJ,List.replicate_append_replicate]
  congr 2;omega
 ·have e:=A3u b hl
  have a:=Jd hl
  unfold pad at a
  unfold pad at e ⊢
  rw [e,aL,a,<- aJ]
  congr 3;omega
def H2(n:Nat):List UInt8:=if n=0 then [48] else dd n
def T4{n:Nat}(h:n≠0):H2 n=dd n:=by simp [H2,h]
def O8(n:Nat):F9 (H2 n)=n:=by
 unfold H2;split
 ·rename_i h;subst h;rfl
 ·exact A1g n
def Dz(n:Nat):∀ c∈H2 n,E6 c:=by
 unfold H2;split
 ·intro c a;rw [List.mem_singleton.1 a];decide
 ·exact A3v n
def Hw(n:Nat):H2 n≠[]:=by
 unfold H2;split
 ·simp
 ·rename_i h;exact Yq h
def Yp{a b:Nat}(h:H2 a=H2 b):a=b:=by rw [<- O8 a,h,O8]
def Dy{l:List UInt8}(h:∀ c∈l,E6 c)(hn:l≠[])(h0:l.head? ≠ some 48\/l=[48]):H2 (F9 l)=l:=by
 rcases h0 with h0|h0
 ·have:=Vx h h0
  rw [T4,this]
  intro e
  rw [e,E9] at this
  exact hn this.symm
 ·subst h0;rfl
def Dx{n k:Nat}(hk:0<k):(H2 n).length<=k↔n<10^k:=by
 by_cases h:n=0
 ·subst h;have:0<10^k:=aI dc;simp [H2];omega
 ·rw [T4 h];exact J0
def Ag(z:Int):List UInt8:=if z<0 then 45::H2 z.natAbs else H2 z.natAbs
def D5(q:Rat):List UInt8:=Ag q.num++(if q.den=1 then [] else 47::H2 q.den)
structure Form (s:List UInt8) (neg:Bool) (a b:List UInt8):Prop where
 eq:s=(if neg then [45] else [])++a++(if b=[] then [] else 47::b)
 da:∀ c∈a,E6 c
 db:∀ c∈b,E6 c
 ne:a≠[]
 ha:a.head? ≠ some 48\/(a=[48]/\neg=false/\b=[])
 hb:b.head? ≠ some 48
 b1:b≠[49]
def Qu{c:UInt8}(h:E6 c):c≠45/\c≠47:=by
 unfold E6 at h
 constructor<;>(rintro rfl;grind)
def X6{a r:List UInt8}(h:∀ c∈a,E6 c)(hr:∀ c,r.head? = some c->¬ E6 c):(a++r).takeWhile (fun c=>decide (E6 c))=a/\(a++r).dropWhile (fun c=>decide (E6 c))=r:=by
 induction a with
 | nil=>
  cases r with
  | nil=>simp
  | cons c r=>
   simp_all
 | cons c a ih=>
  simp_all
def Form.head{s:List UInt8}{neg:Bool}{a b:List UInt8}(f:Form s neg a b):neg=(s.head? == some 45):=by
 obtain ⟨c,r,e⟩:=aT f.ne
 have d:=(Qu (f.da c (by simp [e]))).1
 rw [f.eq,e]
 grind
def Form.unique{s:List UInt8}{neg neg':Bool}{a b a' b':List UInt8}(f:Form s neg a b)(g:Form s neg' a' b'):neg=neg'/\a=a'/\b=b':=by
 have l:neg=neg':=by rw [f.head,g.head]
 have e:=f.eq.symm.trans g.eq
 have i:∀ b:List UInt8,∀ c,(if b=[] then [] else 47::b:List UInt8).head? = some c->¬ E6 c:=by
  intro b c d
  split at d
  ·grind
  ·simp at d;subst d;decide
 have k:=X6 f.da (i b)
 have j:=X6 g.da (i b')
 grind
def Hx{q:Rat}(h:q.num=0):q.den=1:=by
 simp_all
def U6(q:Rat):Form (D5 q) (decide (q.num<0)) (H2 q.num.natAbs) (if q.den=1 then [] else H2 q.den):=by
 constructor
 ·unfold D5 Ag
  by_cases a:q.num<0<;>by_cases b:q.den=1<;>simp [a,b,Hw]
 ·exact Dz _
 ·split
  ·simp
  ·exact Dz _
 ·exact Hw _
 ·by_cases h:q.num=0
  ·right
   rw [Hx h,h];simp [H2]
  ·left
   rw [T4 o];exact Vw _ o
 ·split
  ·simp
  ·rw [T4 q.den_nz];exact Vw _ q.den_nz
 ·split
  ·simp
  ·rename_i h
   intro e
   have c:H2 q.den=H2 1:=by rw [e];simp [H2,L3,E9,dch]
   exact h (Yp c)
def Gd(neg:Bool)(a:List UInt8):Int:=if neg then -(F9 a:Int) else F9 a
def Cv(b:List UInt8):Nat:=if b=[] then 1 else F9 b
def Ht{b:List UInt8}(h:∀ c∈b,E6 c)(hn:b≠[])(h0:b.head? ≠ some 48):F9 b≠0:=by
 intro e
 have:=Vx h h0
 rw [e,E9] at this
 grind
def Form.den_ne{s:List UInt8}{neg:Bool}{a b:List UInt8}(f:Form s neg a b):Cv b≠0:=by
 unfold Cv;split
 ·decide
 ·rename_i h;exact Ht f.db h f.hb
def Form.txt{s:List UInt8}{neg:Bool}{a b:List UInt8}(f:Form s neg a b){q:Rat}(h1:q.num=Gd neg a)(h2:q.den=Cv b):s=D5 q:=by
 have k:H2 (F9 a)=a:=Dy f.da f.ne (f.ha.imp id fun h=>h.1)
 have d:(Gd neg a).natAbs=F9 a:=by unfold Gd;omega
 have c:(Gd neg a<0)↔neg=true:=by
  unfold Gd
  cases neg
  ·simp
  ·simp only [if_true]
   constructor
   ·grind
   ·intro _
    have:F9 a≠0:=by
     rcases f.ha with h|h
     ·exact Ht f.da f.ne h
     grind
    omega
 have j:(Cv b=1)↔b=[]:=by
  unfold Cv
  split
  ·grind
  ·rename_i h
   constructor
   ·intro e
    exfalso
    have g:=Dy f.db h (Or.inl f.hb)
    rw [e] at g
    apply f.b1
    rw [<- g];simp [H2,L3,E9,dch]
   grind
 rw [f.eq]
 unfold D5 Ag
 by_cases i:b=[]
 ·grind
 ·have l:H2 (Cv b)=b:=by
   unfold Cv;rw [iN i];exact Dy f.db i (Or.inl f.hb)
  grind
def Form.of_txt{s:List UInt8}{neg:Bool}{a b:List UInt8}(f:Form s neg a b){q:Rat}(e:s=D5 q):q.num=Gd neg a/\q.den=Cv b:=by
 subst e
 obtain ⟨g,d,c⟩:=f.unique (U6 q)
 subst g d c
 constructor
 ·unfold Gd
  rw [O8]
  grind
 ·unfold Cv
  by_cases h:q.den=1
  ·simp [h]
  ·simp [h,Hw,O8]
def Bt{p q:Rat}(e:D5 p=D5 q):p=q:=by
 have f:=U6 p
 have a:=f.of_txt rfl
 have b:=f.of_txt e
 exact Rat.ext (a.1.trans b.1.symm) (a.2.trans b.2.symm)
def IsNum(s:List UInt8):Prop:=∃ q,s=D5 q
def Form.isNum{s:List UInt8}{neg:Bool}{a b:List UInt8}(f:Form s neg a b):IsNum s↔Nat.gcd (F9 a) (Cv b)=1:=by
 have c:(Gd neg a).natAbs=F9 a:=by unfold Gd;omega
 constructor
 ·rintro ⟨q,e⟩
  have:=f.of_txt e
  have d:=q.reduced
  grind
 ·intro h
  exact ⟨⟨Gd neg a,Cv b,f.den_ne,gz0⟩,f.txt rfl rfl⟩
def IsNum.form{s:List UInt8}(h:IsNum s):∃ neg a b,Form s neg a b:=by
 obtain ⟨q,rfl⟩:=h
 exact ⟨_,_,_,U6 q⟩
def Xm(s:List UInt8):Rat:=
 let neg:=s.head? == some 45
 let t:=if neg then s.drop 1 else s
 mkRat (Gd neg (t.takeWhile fun c=>decide (E6 c))) (Cv ((t.dropWhile fun c=>decide (E6 c)).drop 1))
def rv(s:List UInt8):Rat:=if D5 (Xm s)=s then Xm s else 0
def C3(q:Rat):rv (D5 q)=q:=by
 have f:=U6 q
 have k:=f.head
 have d:∀ b:List UInt8,∀ c,(if b=[] then [] else 47::b:List UInt8).head? = some c->¬ E6 c:=by
  intro b c a
  split at a
  ·grind
  ·simp at a;subst a;decide
 have e:Xm (D5 q)=q:=by
  unfold Xm
  simp only [<- k]
  generalize hb:(if q.den=1 then [] else H2 q.den)=b at f
  have j:(if decide (q.num<0)=true then (D5 q).drop 1 else D5 q)=H2 q.num.natAbs++(if b=[] then [] else 47::b):=by
   rw [f.eq]
   grind
  rw [j,(X6 f.da (d b)).1,(X6 f.da (d b)).2]
  have g:=f.of_txt rfl
  have i:(if b=[] then [] else 47::b:List UInt8).drop 1=b:=by
   grind
  rw [i,<- g.1,<- g.2,Rat.mkRat_self]
 unfold rv
 grind
def Qg{s:List UInt8}(h:¬ IsNum s):rv s=0:=by
 unfold rv
 rw [iN (fun e=>h ⟨_,e.symm⟩)]
def Form.rv_num{s:List UInt8}{neg:Bool}{a b:List UInt8}(f:Form s neg a b)(h:IsNum s):(rv s).num=Gd neg a/\(rv s).den=Cv b:=by
 obtain ⟨q,rfl⟩:=h
 rw [C3];exact f.of_txt rfl
