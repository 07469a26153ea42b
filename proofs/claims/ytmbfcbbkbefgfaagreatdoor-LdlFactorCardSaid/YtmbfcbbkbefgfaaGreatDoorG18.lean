/- A part. -/
import Derived.Test.YtmbfcbbkbefgfaaGreatDoorG16
import Derived.Test.YtmbfcbbkbefgfaaGreatDoorG17
open Go.Proofs.Tryz
set_option linter.all false
open Int renaming mul_le_mul_of_nonneg_right->aC,sign_eq_one_of_pos->aD,natAbs_natCast->aE,le_of_lt->aG,sign_eq_neg_one_of_neg->aH,gcd->aL,natAbs_of_nonneg->aN,mul_ne_zero->aO,natAbs_neg->aQ,toNat_natCast->aR,natCast_mul->aS,mul_one->aU,toNat_of_nonneg->aW,mul_comm->aY,gcd_dvd_right->aZ,natCast_ediv->bD,mul_le_mul_of_nonneg_left->bG,mul_lt_mul_of_pos_right->bK,tmod_eq_emod_of_nonneg->bM,natAbs_mul->bN,tdiv_eq_ediv_of_dvd->bV
open List renaming append_assoc->aI,length_append->aX,take_length->bC,eq_nil_of_length_eq_zero->bF,nil_append->bJ,exists_cons_of_ne_nil->bL,getElem?_cons_zero->bU
open Nat renaming pow_pos->aJ,pow_succ->aK,le_refl->aT,mul_le_mul_left->aV,strongRecOn->bH,min_eq_left->bI
open Rat renaming divInt->aF,num_divInt_den->aP,divInt_ofNat->bB
open _root_.Go renaming Addr->bO
open _root_.Go.Proofs.YtmbfcbbkbefgfaaGreatDoor renaming FCall->aM,Heap->bW
namespace Go.Proofs.YtmbfcbbkbefgfaaGreatDoor
set_option maxRecDepth 20000
open Go
section
variable {h g:bW} {K:VP} {A B:Option bO} {ac bc:Nat}
def C1i{P:Program}{t e:TypeId}{z:Value}{bytes:Nat}(s:SliceT P t e z 1 bytes){u v:Value}(hu:u.cells=#[u])(hv:v.cells=#[v]){K:VP}{h:bW}
 (x:∀ b,h b=none->K (.slice (some ⟨b,0,none⟩) 2 2) (h.put b (.cells #[u,v] e))):wpH P (Instr.buildSlice t 2 #[(0,u),(1,v)]) K h:=by
 refine Cm s (by omega) (cells:=#[u,v]) ?_ x
 have a:(G0 z.cells 2).size=2:=by simp [G0,s.cells]
 have:G0 z.cells 2=#[(G0 z.cells 2)[0]'(by omega),(G0 z.cells 2)[1]'(by omega)]:=by
  apply Array.ext
  ·simpa using a
  ·intro i d c
   match i with
   | 0=>rfl
   | 1=>rfl
   | i+2=>simp at c;omega
 rw [this]
 simp [Instr.fill,hu,hv]
def Cn{B:Int}(hB:0<B){xs:List Int}(d:Dig B xs){m:Nat}(hl:xs.length=m+1):val B xs<(xs.getD m 0+1)*B^m/\xs.getD m 0*B^m<=val B xs:=by
 have a:=H8 B xs m
 rw [show m+1=xs.length by omega,bC] at a
 have b:=N4 hB (d.take m)
 have e:=C9 hB (d.take m)
 rw [List.length_take,bI (by omega)] at b
 have f:(xs.getD m 0+1)*B^m=B^m*xs.getD m 0+B^m:=by grind
 have c:xs.getD m 0*B^m=B^m*xs.getD m 0:=aY _ _
 omega
def A2v{xs:List Int}{m:Nat}(hl:xs.length=m+1)(hn:Norm xs):xs.getD m 0≠0:=by
 intro a
 have e:=Hs (xs:=xs) (i:=m) (by omega)
 rw [<- hl,bC,a] at e
 apply hn
 rw [e];simp
def Vs{x y:Int}{an bn:Nat}(ma:Mg h A an x)(mb:Mg h B bn y)(hy:y≠0)(hl:an<=100000000)(hl2:bn<=100000000)
 (hK:∀ A1 m1 c1 A2 m2 c2 h',h.le h'->m1<=c1->m2<=c2->Mg h' A1 m1 (x/y)->Mg h' A2 m2 (x%y)->K (.tuple #[.slice A1 m1 c1,.slice A2 m2 c2]) h'):aM prog Oi #[.slice A an ac,.slice B bn bc] h K:=by
 have Z:=ma.nonneg (by decide)
 have ae:=mb.nonneg (by decide)
 have az:=mb.len_zero (by decide)
 have M:=ma.lt (by decide)
 have a1:=mb.lt (by decide)
 refine B0y _ _ _ _ _ _ ?_
 unfold B5j
 refine Vy ma mb (by omega) ⟨_,rfl,B8 (fun Q=>?_) (fun Q=>E5 (fun h2=>?_) (fun h2=>?_))⟩
 ·have E:x<y:=by
   by_cases f:x<y
   ·exact f
   ·rw [iN f] at Q
    by_cases T:x>y
    ·rw [iP T] at Q;omega
    ·rw [iN T] at Q;omega
  rw [Int.ediv_eq_zero_of_lt Z E,Int.emod_eq_of_lt Z E] at hK
  obtain ⟨xs,rfl,sx,dx,nx,rfl⟩:=ma
  refine Qb Ps ?_
  intro b hb
  refine ⟨_,_,_,rfl,?_⟩
  have g:=Heap.le_put (h:=h) (b:=b) (.cells #[] C6) hb
  have ak:=SlI.mono g sx
  refine Oy Ps (Priv.nil _ _ _ _) (ys:=xs.map (Value.int .u32)) (by simp) ak (fun v hv=>?_) (by omega) (by omega) ?_
  ·obtain ⟨a,_,rfl⟩:=List.mem_map.1 hv;rfl
  ·intro A' c' h' g' hg S
   rw [bJ] at S
   have z:=S.slV
   simp only [Nat.zero_add] at S ⊢
   exact ⟨_,_,_,rfl,hK none 0 0 A' xs.length c' h' (B0 g (B0 hg S.le)) (aT _) S.2.1 Mag.zero ⟨xs,rfl,z,dx,nx,rfl⟩⟩
 ·obtain ⟨ys,rfl,sy,V,ny,rfl⟩:=mb
  have R:ys.length=1:=by omega
  obtain ⟨d,rfl⟩:∃ d,ys=[d]:=by
   cases ys with
   | nil=>simp at R
   | cons d r=>
    cases r with
    | nil=>exact ⟨d,rfl⟩
    | cons _ _=>simp at R
  rw [Z1] at hy ae hK
  have hd:=V d (by simp)
  refine sy.load rfl (by omega) (by simp) ?_
  show aM _ _ #[_,U32 d] _ _
  refine Nh ma ⟨by omega,hd.2⟩ hl ?_
  intro A' m c' h' g hm a0 hM
  refine ⟨_,_,_,_,rfl,?_⟩
  refine Bi Ps rfl ?_
  intro b hb
  refine ⟨_,_,_,rfl,?_⟩
  have q:=Heap.le_put (h:=h') (b:=b) (.cells #[U32 (x%d)] C6) hb
  have hr:0<=x%d/\x%d<4294967296:=by
   have h3:=Int.emod_nonneg x (show d≠0 by omega)
   have h4:=Int.emod_lt_of_pos x (show 0<d by omega)
   have h5:=hd.2
   show _/\_<b32
   omega
  refine Ak (xs:=[x%d]) (SlI.new h' b [x%d] C6 _) (Dig.one hr) (aT _) (by simp) ?_
  intro m2 w o
  rw [Z1] at o
  exact ⟨_,_,_,rfl,hK _ _ _ _ _ _ _ (B0 g q) hm (by simpa using w) (hM.mono q) o⟩
 ·have af:y<=x:=by
   by_cases f:x<y
   ·rw [iP f] at Q;omega
   ·omega
  have ay:bn<=an:=mb.len_le (by decide) (Int.lt_of_le_of_lt af M)
  obtain ⟨xs,rfl,sx,dx,nx,rfl⟩:=ma
  obtain ⟨ys,rfl,sy,V,ny,rfl⟩:=mb
  obtain ⟨mm,hmm⟩:∃ mm,ys.length=mm+2:=⟨ys.length-2,by omega⟩
  have gt:=Cl V (mm+1)
  have aw:=A2v (m:=mm+1) hmm ny
  obtain ⟨ao,W⟩:=Cn (B:=b32) (by decide) V (m:=mm+1) hmm
  unfold A4v
  refine ⟨fun l h'=>∃ s:Nat,l=[U s]/\h'=h/\s<32/\ys.getD (mm+1) 0*2^s<4294967296,fun l _=>32-(iAt l 0).toNat,⟨0,rfl,rfl,by omega,by rw [Int.pow_zero,aU];exact gt.2⟩,?_⟩
  rintro si ad ⟨s,ab,rfl,z,am⟩
  obtain rfl:=sI1 ab
  have e1:B7 ((ys.length:Int)-1)=((mm+1:Nat):Int):=by rw [C0 (by omega) (by omega)];omega
  rw [e1]
  refine sy.load rfl (by omega) (by omega) ?_
  refine B8 (fun e=>absurd e (by omega)) (fun _=>?_)
  have c:0<(2:Int)^s:=Int.pow_pos (by decide)
  have av:2^s<=ys.getD (mm+1) 0*2^s:=by
   have:=aC (show 1<=ys.getD (mm+1) 0 by omega) (aG c);omega
  have e2:G9 (ys.getD (((mm+1:Nat):Int)).toNat 0*2^(min ((s:Int)).toNat 32))=ys.getD (mm+1) 0*2^s:=by
   rw [aR,aR,bI (by omega),P0 (by omega) am]
  refine B8 (fun h3=>?_) (fun h3=>?_)
  ·rw [e2] at h3
   have C:s+1<32:=by
    by_cases f:s+1<32
    ·exact f
    ·have:s=31:=by omega
     subst this
     have:(2:Int)^31=2147483648:=by decide
     omega
   have e3:C3 ((s:Int)+1)=((s+1:Nat):Int):=by rw [C5 (by omega) (by omega)];omega
   rw [e3]
   refine ⟨⟨s+1,rfl,rfl,C,?_⟩,by simp only [iAt,bU];omega⟩
   rw [Int.pow_succ,<- Int.mul_assoc];omega
  ·rw [e2] at h3
   have ai:val b32 ys*2^s<b32^(mm+2):=by
    have G:=Na (Nat.le_of_lt z)
    have t1:ys.getD (mm+1) 0+1<=2^(32-s):=by
     by_cases f:ys.getD (mm+1) 0+1<=2^(32-s)
     ·exact f
     ·have:=aC (show (2:Int)^(32-s)<=ys.getD (mm+1) 0 by omega) (aG c)
      rw [aY,G] at this;omega
    have t2:val b32 ys*2^s<(ys.getD (mm+1) 0+1)*b32^(mm+1)*2^s:=bK ao c
    have t3:(ys.getD (mm+1) 0+1)*b32^(mm+1)*2^s=(ys.getD (mm+1) 0+1)*2^s*b32^(mm+1):=by grind
    have t4:(ys.getD (mm+1) 0+1)*2^s*b32^(mm+1)<=4294967296*b32^(mm+1):=by
     apply aC _ (aG (D8 (by decide) _))
     rw [<- G,aY (2^s)]
     exact aC t1 (aG c)
    rw [Int.pow_succ b32 (mm+1),aY (b32^(mm+1))]
    show _<(4294967296:Int)*_
    omega
   have ax:2147483648*b32^(mm+1)<=val b32 ys*2^s:=by
    have t1:ys.getD (mm+1) 0*b32^(mm+1)*2^s<=val b32 ys*2^s:=aC W (aG c)
    have t2:2147483648*b32^(mm+1)<=ys.getD (mm+1) 0*2^s*b32^(mm+1):=aC (by omega) (aG (D8 (by decide) _))
    have t3:ys.getD (mm+1) 0*2^s*b32^(mm+1)=ys.getD (mm+1) 0*b32^(mm+1)*2^s:=by grind
    omega
   refine Kl sy V z (by omega) ?_
   intro bv zv al F aa ah
   refine ⟨_,_,_,rfl,?_⟩
   rw [<- F]
   refine Ak (Dt _ _ _ _ _) aa (aT _) (by omega) ?_
   intro n hn p
   refine ⟨_,_,_,rfl,?_⟩
   rw [ah] at p
   have ap:n=mm+2:=by
    have l1:=p.len_le (by decide) ai
    have l2:=p.lt (by decide)
    by_cases f:n=mm+2
    ·exact f
    ·have:=D4 (B:=b32) (by decide) (show n<=mm+1 by omega)
     have:=D8 (B:=b32) (by decide) (mm+1)
     omega
   subst ap
   obtain ⟨vs,H,sv,dv,nv,u⟩:=p
   have aj:4294967296<=2*vs.getD (mm+1) 0:=by
    obtain ⟨q1,q2⟩:=Cn (B:=b32) (by decide) dv (m:=mm+1) H.symm
    rw [u] at q1
    have:2147483648<vs.getD (mm+1) 0+1:=by
     by_cases f:2147483648<vs.getD (mm+1) 0+1
     ·exact f
     ·have:=aC (show vs.getD (mm+1) 0+1<=2147483648 by omega) (aG (D8 (B:=b32) (by decide) (mm+1)));omega
    omega
   have t:=Y7 (k:=.u32) (e:=C6) al zv
   refine Kl (SlI.mono t sx) dx z (by omega) ?_
   intro bu D ag ar L X
   refine ⟨_,_,_,rfl,?_⟩
   obtain ⟨nq,hnq⟩:∃ nq,xs.length+1=nq+(mm+2):=⟨xs.length+1-(mm+2),by omega⟩
   have e4:B7 (B7 (B7 (((xs.length+1:Nat):Int)-((mm+2:Nat):Int))-1)+1)=(nq:Int):=by
    rw [C0 (n:=((xs.length+1:Nat):Int)-((mm+2:Nat):Int)) (by omega) (by omega),C0 (n:=_-(1:Int)) (by omega) (by omega),C0 (by omega) (by omega)];omega
   rw [e4]
   refine K8 Ps (by omega) (by omega) (by omega) ?_
   intro bq j
   rw [aR]
   refine ⟨_,_,_,rfl,?_⟩
   have O:bu≠bq:=by
    rintro rfl
    unfold blk at j
    rw [C2] at j;cases j
   have J:blk .u32 C6 ad bv zv bq=none:=by
    have:=j
    unfold blk at this ⊢
    rwa [B9 _ _ O.symm] at this
   refine B0j (us0:=D) (N:=xs.length+1) ag J O sv dv H.symm aj z u rfl L ar X hnq (by omega) (by omega) ?_ ?_
   ·have s1:=G1 b32 D (i:=nq) (by omega)
    have s2:=C9 (by decide) (L.take nq)
    have s3:val b32 D<b32^xs.length*2^s:=by
     rw [X];exact bK M c
    have s4:b32^(mm+1)<=val b32 ys:=by
     have:=aC (show 1<=ys.getD (mm+1) 0 by omega) (aG (D8 (B:=b32) (by decide) (mm+1)));omega
    have s5:b32^nq*(b32^(mm+1)*2^s)<=b32^nq*(val b32 ys*2^s):=bG (aC s4 (aG c)) (aG (D8 (by decide) nq))
    have s6:b32^nq*(b32^(mm+1)*2^s)=b32^xs.length*2^s:=by
     rw [<- Int.mul_assoc,<- Int.pow_add,show nq+(mm+1)=xs.length by omega]
    by_cases f:val b32 (D.drop nq)<val b32 ys*2^s
    ·exact f
    ·have:=bG (show val b32 ys*2^s<=val b32 (D.drop nq) by omega) (aG (D8 (B:=b32) (by decide) nq));omega
   ·intro A1 m1 c1 A2 m2 c2 h' g au w aq o
    exact hK _ _ _ _ _ _ _ (B0 t g) au w aq o
end
def A8m(h:bW)(A:Option bO)(len:Nat):List Int:=(List.range len).map fun i=>
 match A with
 | some a=>(match h.cell? (a.add i) with|some (.int _ n)=>n|_=>0)
 | none=>0
def B2v(B:Int)(h:bW)(A:Option bO)(len:Nat):Nat:=(val B (A8m h A len)).toNat
def B4e{k:IntKind}{h:bW}{A:Option bO}{xs:List Int}(s:SlI k h A xs):A8m h A xs.length=xs:=by
 apply List.ext_getElem
 ·simp [A8m]
 ·intro i e d
  obtain ⟨a,c,b⟩:=SlV.at s (i:=i) (by simpa using d)
  subst c
  simp [A8m,b]
def Bh{k:IntKind}{B:Int}{h:bW}{A:Option bO}{len:Nat}{n:Int}(m:Mag k B h A len n):B2v B h A len=n.toNat:=by
 obtain ⟨a,rfl,s,_,_,rfl⟩:=m
 unfold B2v
 rw [B4e s]
def ZB(m:Nat)(z:Int):Prop:=z.natAbs<2^m
def ZB.mono{m n:Nat}{z:Int}(h:ZB m z)(hm:m<=n):ZB n z:=Nat.lt_of_lt_of_le h (Nat.pow_le_pow_right (by decide) hm)
def ZB.neg{m:Nat}{z:Int}(h:ZB m z):ZB m (-z):=by unfold ZB at *;rwa [aQ]
def ZB.add{m:Nat}{x y:Int}(hx:ZB m x)(hy:ZB m y):ZB (m+1) (x+y):=by
 unfold ZB at *;rw [aK]
 have:=Int.natAbs_add_le x y;omega
def ZB.sub{m:Nat}{x y:Int}(hx:ZB m x)(hy:ZB m y):ZB (m+1) (x-y):=by
 rw [Int.sub_eq_add_neg];exact hx.add hy.neg
def ZB.mul{m n:Nat}{x y:Int}(hx:ZB m x)(hy:ZB n y):ZB (m+n) (x*y):=by
 unfold ZB at *;rw [bN,Nat.pow_add]
 have a:x.natAbs*y.natAbs<=x.natAbs*2^n:=aV _ (Nat.le_of_lt hy)
 have b:x.natAbs*2^n<2^m*2^n:=Nat.mul_lt_mul_of_pos_right hx (aJ (by decide))
 omega
def ZB.le{m:Nat}{x y:Int}(hx:ZB m x)(h:y.natAbs<=x.natAbs):ZB m y:=Nat.lt_of_le_of_lt h hx
def ZB.one{m:Nat}(h:1<=m):ZB m 1:=ZB.mono (m:=1) (by unfold ZB;decide) h
def ZB.zero{m:Nat}:ZB m 0:=aJ (by decide)
def B32{k:IntKind}{j:Nat}(hj:0<j){h:bW}{A:Option bO}{n m:Nat}{x:Int}(M:Mag k ((2:Int)^j) h A n x)(hx:x<2^m):n<=m/j+1:=by
 refine M.len_le ?_ ?_
 ·have:=D4 (B:=2) (by decide) hj;omega
 ·have e:((2:Int)^j)^(m/j+1)=2^(j*(m/j+1)):=by rw [Int.pow_mul]
  rw [e]
  have:m<=j*(m/j+1):=by
   have a:=Nat.div_add_mod m j
   have b:=Nat.mod_lt m hj
   rw [Nat.mul_add];omega
  have:=D4 (B:=2) (by decide) this
  omega
structure NI (h:bW) (s:Bool) (A:Option bO) (n c:Nat) (z:Int):Prop where
 mag:Mg h A n (z.natAbs:Int)
 sg:s=decide (z<0)
 cap:n<=c
section
variable {h h':bW} {K:VP} {A B:Option bO} {n c n' c':Nat} {s s':Bool} {x y z:Int} {m:Nat}
def NI.mono(hl:h.le h')(i:NI h s A n c z):NI h' s A n c z:=⟨i.mag.mono hl,i.sg,i.cap⟩
def NI.len(i:NI h s A n c z)(hz:ZB m z)(hm:m<=1000000000):n<=100000000:=by
 have:=B32 (j:=32) (by decide) i.mag (m:=m) (by unfold ZB at hz;have:((z.natAbs:Nat):Int)<((2^m:Nat):Int):=by omega
                                                simpa using this)
 omega
def NI.zero_iff(i:NI h s A n c z):n=0↔z=0:=by
 have:=i.mag.len_zero (by decide)
 omega
def NI.nil:NI h false A 0 0 0:=⟨Mag.zero,rfl,aT _⟩
def O5{neg:Bool}{x:Int}(M:Mg h A n x)(hc:n<=c)(hK:∀ s,NI h s A n c (if neg then -x else x)->K (.agg #[.bool s,.slice A n c]) h):aM prog T2 #[.bool neg,.slice A n c] h K:=by
 have a:=M.nonneg (by decide)
 have b:=M.len_zero (by decide)
 refine B5i _ _ _ _ ?_
 unfold C09
 refine Br.of (fun e=>?_) (fun e=>?_)
 ·subst e
  refine hK _ ⟨?_,?_,hc⟩
  ·have:(((if true=true then -x else x).natAbs:Nat):Int)=x:=by simp;omega
   rw [this];exact M
  ·simp;omega
 ·subst e
  refine hK _ ⟨?_,?_,hc⟩
  ·have:(((if false=true then -x else x).natAbs:Nat):Int)=x:=by simp;omega
   rw [this];exact M
  ·simp;omega
def Rq(hz: -9223372036854775808<=z/\z<=9223372036854775807)(hK:∀ s A n c h',h.le h'->NI h' s A n c z->K (.agg #[.bool s,.slice A n c]) h'):aM prog Jv #[I z] h K:=by
 refine A76 _ ?_
 unfold A8y
 refine ⟨fun l h'=>l=[U z.natAbs]/\h'=h,B8 (fun q=>⟨?_,rfl⟩) (fun q=>⟨?_,rfl⟩),?_⟩
 ·have:C3 (0-C3 z)=z.natAbs:=by rw [F6,F6];omega
  rw [this]
 ·have:C3 z=z.natAbs:=by rw [F6];omega
  rw [this]
 ·rintro u k ⟨p,rfl⟩
  obtain rfl:u=(z.natAbs:Int):=by simpa using p
  rw [Ai,Xf,P0 (n:=(z.natAbs:Int)/4294967296) (by omega) (by omega)]
  refine C1i Ps rfl rfl ?_
  intro b j
  refine ⟨_,_,_,rfl,?_⟩
  have a:Dig b32 [(z.natAbs:Int)%4294967296,(z.natAbs:Int)/4294967296]:=by
   intro d a
   simp only [List.mem_cons,List.not_mem_nil,or_false] at a
   show _/\_<(4294967296:Int)
   rcases a with rfl|rfl<;>omega
  refine Ak (xs:=[(z.natAbs:Int)%4294967296,(z.natAbs:Int)/4294967296]) (SlI.new k b _ C6 _) a (aT _) (by simp) ?_
  intro m o e
  have g:val b32 [(z.natAbs:Int)%4294967296,(z.natAbs:Int)/4294967296]=z.natAbs:=by
   simp only [val]
   show _+(4294967296:Int)*(_+4294967296*0)=_
   omega
  rw [g] at e
  refine ⟨_,_,_,rfl,?_⟩
  refine O5 e (by simpa using o) ?_
  intro s i
  refine ⟨_,_,_,_,rfl,hK _ _ _ _ _ (Heap.le_put _ j) ?_⟩
  have:(if decide (z<0)=true then -(z.natAbs:Int) else (z.natAbs:Int))=z:=by
   by_cases f:z<0
   ·rw [iP (by simpa using f)];omega
   ·rw [iN (by simpa using f)];omega
  rw [this] at i
  exact i
def A37(i:NI h s A n c z)(hK:K (I z.sign) h):aM prog A18 #[.agg #[.bool s,.slice A n c]] h K:=by
 have d:=i.zero_iff
 have b:=i.sg
 refine B8e _ _ _ _ ?_
 unfold C4d
 refine Br.of (fun e=>?_) (fun e=>?_)
 ·have a:z<0:=by rw [b] at e;simpa using e
  rw [aH a] at hK;exact hK
 ·have a:¬ z<0:=by rw [b] at e;simpa using e
  refine E5 (fun e=>?_) (fun e=>?_)
  ·have:z=0:=by omega
   subst this;exact hK
  ·rw [aD (by omega)] at hK;exact hK
def A0l(i:NI h s A n c z)(hK:∀ s,NI h s A n c (-z)->K (.agg #[.bool s,.slice A n c]) h):aM prog A42 #[.agg #[.bool s,.slice A n c]] h K:=by
 refine C2j _ _ _ _ ?_
 unfold C7e
 refine O5 i.mag i.cap ?_
 intro d b
 refine ⟨_,_,_,_,rfl,hK _ ?_⟩
 have:(if (!s)=true then -(z.natAbs:Int) else (z.natAbs:Int))= -z:=by
  rw [i.sg]
  by_cases a:z<0
  ·rw [iN (by simpa using a)];omega
  ·rw [iP (by simpa using a)];omega
 rw [this] at b;exact b
def A8p(ia:NI h s A n c x)(ib:NI h s' B n' c' y)(hx:ZB m x)(hy:ZB m y)(hm:m<=1000000000)(hK:∀ s A n c h',h.le h'->NI h' s A n c (x+y)->K (.agg #[.bool s,.slice A n c]) h'):aM prog A8c #[.agg #[.bool s,.slice A n c],.agg #[.bool s',.slice B n' c']] h K:=by
 have u:=ia.len hx hm
 have w:=ib.len hy hm
 refine C2m _ _ _ _ _ _ _ _ ?_
 unfold C7h
 have g:=ia.sg
 have a:=ib.sg
 refine Br.of (fun e=>?_) (fun e=>?_)
 ·have l:s=s':=by simpa using e
  refine Wi ia.mag ib.mag u w ?_
  intro A' C c1 o b i r
  refine ⟨_,_,_,rfl,b,?_⟩
  refine O5 r i ?_
  intro z k
  refine ⟨_,_,_,_,rfl,B5 _,hK _ _ _ _ _ b ?_⟩
  have:(if s=true then -((x.natAbs:Int)+y.natAbs) else (x.natAbs:Int)+y.natAbs)=x+y:=by
   rw [l] at g
   by_cases f:x<0
   ·have:s=true:=by rw [l,g];simpa using f
    rw [iP this]
    have:y<0:=by rw [a] at g;simpa [f] using g
    omega
   ·have:¬ s=true:=by rw [l,g];simpa using f
    rw [iN this]
    have:¬ y<0:=by rw [a] at g;simpa [f] using g
    omega
  rw [this] at k;exact k
 ·have l:s≠s':=by simpa using e
  refine Vy ia.mag ib.mag (by omega) ⟨_,rfl,B8 (fun o=>?_) (fun o=>?_)⟩
  ·have p:(y.natAbs:Int)<=x.natAbs:=by
    by_cases t:(x.natAbs:Int)<y.natAbs
    ·rw [iP t] at o;omega
    ·omega
   refine Ub ia.mag ib.mag p u ?_
   intro A' C c1 o b i r
   refine ⟨_,_,_,rfl,b,?_⟩
   refine O5 r i ?_
   intro z k
   refine ⟨_,_,_,_,rfl,B5 _,hK _ _ _ _ _ b ?_⟩
   have:(if s=true then -((x.natAbs:Int)-y.natAbs) else (x.natAbs:Int)-y.natAbs)=x+y:=by
    by_cases f:x<0
    ·have d:s=true:=by rw [g];simpa using f
     rw [iP d]
     have:¬ y<0:=by intro j;apply l;rw [g,a];simp [f,j]
     omega
    ·have d:¬ s=true:=by rw [g];simpa using f
     rw [iN d]
     have:y<0:=by
      by_cases j:y<0
      ·exact j
      ·exact absurd (by rw [g,a];simp [f,j]) l
     omega
   rw [this] at k;exact k
  ·have p:(x.natAbs:Int)<=y.natAbs:=by
    by_cases t:(x.natAbs:Int)<y.natAbs
    ·omega
    ·rw [iN t] at o
     by_cases q:(x.natAbs:Int)>y.natAbs
     ·rw [iP q] at o;omega
     ·rw [iN q] at o;omega
   refine Ub ib.mag ia.mag p w ?_
   intro A' C c1 o b i r
   refine ⟨_,_,_,rfl,b,?_⟩
   refine O5 r i ?_
   intro z k
   refine ⟨_,_,_,_,rfl,B5 _,hK _ _ _ _ _ b ?_⟩
   have:(if s'=true then -((y.natAbs:Int)-x.natAbs) else (y.natAbs:Int)-x.natAbs)=x+y:=by
    by_cases f:y<0
    ·have d:s'=true:=by rw [a];simpa using f
     rw [iP d]
     have:¬ x<0:=by intro j;apply l;rw [g,a];simp [f,j]
     omega
    ·have d:¬ s'=true:=by rw [a];simpa using f
     rw [iN d]
     have:x<0:=by
      by_cases j:x<0
      ·exact j
      ·exact absurd (by rw [g,a];simp [f,j]) l
     omega
   rw [this] at k;exact k
def A36(x y:Int)(p:Nat)(hs:s=decide (x<0))(hs':s'=decide (y<0)):(if (!(s==s'))=true then -(p:Int) else (p:Int))=x.sign*y.sign*p\/x=0\/y=0:=by
 by_cases c:x=0
 ·right;left;exact c
 by_cases d:y=0
 ·right;right;exact d
 left
 by_cases a:x<0<;>by_cases b:y<0
 ·rw [aH a,aH b,iN (by rw [hs,hs'];simp [a,b])];omega
 ·rw [aH a,aD (by omega),iP (by rw [hs,hs'];simp [a,b])];omega
 ·rw [aD (by omega),aH b,iP (by rw [hs,hs'];simp [a,b])];omega
 ·rw [aD (by omega),aD (by omega),iN (by rw [hs,hs'];simp [a,b])];omega
def A9f(x y:Int):x.tdiv y=x.sign*y.sign*((x.natAbs/y.natAbs:Nat):Int):=by
 have key:∀ a b:Nat,(a:Int).tdiv b=(a:Int).sign*(b:Int).sign*((a/b:Nat):Int):=by
  intro a b
  rw [<- Int.ofNat_tdiv]
  by_cases d:a=0
  ·subst d;simp
  by_cases c:b=0
  ·subst c;simp
  rw [aD (by omega),aD (by omega),Int.one_mul,Int.one_mul]
 obtain ⟨a,rfl|rfl⟩:=Int.eq_nat_or_neg x<;>obtain ⟨b,rfl|rfl⟩:=Int.eq_nat_or_neg y<;>simp only [Int.neg_tdiv,Int.tdiv_neg,Int.sign_neg,aQ,aE,key]<;>grind
def Do{m':Nat}(ia:NI h s A n c x)(ib:NI h s' B n' c' y)(hx:ZB m x)(hy:ZB m' y)(hm:m<=1000000000)(hm':m'<=1000000000)(hK:∀ s A n c h',h.le h'->NI h' s A n c (x*y)->K (.agg #[.bool s,.slice A n c]) h'):aM prog Kn #[.agg #[.bool s,.slice A n c],.agg #[.bool s',.slice B n' c']] h K:=by
 refine C2k _ _ _ _ _ _ _ _ ?_
 unfold C7f
 refine Up ia.mag ib.mag (ia.len hx hm) (ib.len hy hm') ?_
 intro A' j c1 l a b f
 refine ⟨_,_,_,rfl,a,?_⟩
 refine O5 f b ?_
 intro k d
 refine ⟨_,_,_,_,rfl,B5 _,hK _ _ _ _ _ a ?_⟩
 have:(if (!(s==s'))=true then -((x.natAbs:Int)*y.natAbs) else (x.natAbs:Int)*y.natAbs)=x*y:=by
  rcases A36 x y (x.natAbs*y.natAbs) ia.sg ib.sg with e|e|e
  ·rw [aS] at e
   rw [e]
   have i:=Int.sign_mul_natAbs x
   have g:=Int.sign_mul_natAbs y
   have:x.sign*y.sign*((x.natAbs:Int)*y.natAbs)=(x.sign*x.natAbs)*(y.sign*y.natAbs):=by grind
   rw [this,i,g]
  ·subst e;simp
  ·subst e;simp
 rw [this] at d;exact d
def Uh(ia:NI h s A n c x)(ib:NI h s' B n' c' y)(hy0:y≠0)(hx:ZB m x)(hy:ZB m y)(hm:m<=1000000000)(hK:∀ s A n c s' B n' c' h',h.le h'->NI h' s A n c (x.tdiv y)->NI h' s' B n' c' (x.tmod y)->K (.tuple #[.agg #[.bool s,.slice A n c],.agg #[.bool s',.slice B n' c']]) h'):aM prog Og #[.agg #[.bool s,.slice A n c],.agg #[.bool s',.slice B n' c']] h K:=by
 refine B0w _ _ _ _ _ _ _ _ ?_
 unfold B5f
 refine Vs ia.mag ib.mag (by omega) (ia.len hx hm) (ib.len hy hm) ?_
 intro A1 p c1 A2 r c2 t d b a M1 M2
 refine ⟨_,_,_,_,_,_,rfl,?_⟩
 refine O5 M1 b ?_
 intro q i
 refine ⟨_,_,_,_,rfl,B5 _,?_⟩
 refine O5 M2 a ?_
 intro o f
 refine ⟨_,_,_,_,rfl,B5 _,hK _ _ _ _ _ _ _ _ _ d ?_ ?_⟩
 ·have:(if (!(s==s'))=true then -((x.natAbs:Int)/y.natAbs) else (x.natAbs:Int)/y.natAbs)=x.tdiv y:=by
   rcases A36 x y (x.natAbs/y.natAbs) ia.sg ib.sg with e|e|e
   ·rw [bD] at e
    rw [e,A9f,bD]
   ·subst e;simp
   ·exact absurd e hy0
  rw [this] at i;exact i
 ·have:(if s=true then -((x.natAbs:Int)%y.natAbs) else (x.natAbs:Int)%y.natAbs)=x.tmod y:=by
   rw [ia.sg]
   by_cases g:x<0
   ·rw [iP (by simpa using g)]
    obtain ⟨k,rfl⟩:∃ k:Nat,x= -(k:Int):=⟨x.natAbs,by omega⟩
    rw [Int.neg_tmod,aQ,aE]
    congr 1
    rw [<- bM (by omega)]
    by_cases l:y<0
    ·obtain ⟨j,rfl⟩:∃ j:Nat,y= -(j:Int):=⟨y.natAbs,by omega⟩
     rw [Int.tmod_neg,aQ,aE]
    ·rw [aN (by omega)]
   ·rw [iN (by simpa using g)]
    rw [aN (by omega),<- bM (by omega)]
    by_cases l:y<0
    ·obtain ⟨j,rfl⟩:∃ j:Nat,y= -(j:Int):=⟨y.natAbs,by omega⟩
     rw [Int.tmod_neg,aQ,aE]
    ·rw [aN (by omega)]
  rw [this] at f;exact f
end
def O8(n:Nat):Nat:=if n=0 then 0 else Nat.log2 n+1
def A4b:O8 0=0:=rfl
def B4g{n:Nat}(h:n≠0):O8 n=O8 (n/2)+1:=by
 unfold O8
 rw [iN h]
 by_cases a:n/2=0
 ·have:n=1:=by omega
  subst this;rfl
 ·rw [iN a,Nat.log2_def n,iP (by omega)]
def Ff{n:Nat}(h:n≠0):2^(O8 n-1)<=n/\n<2^O8 n:=by
 unfold O8
 rw [iN h,Nat.add_sub_cancel]
 exact ⟨Nat.log2_self_le h,Nat.lt_log2_self⟩
def A6u{n k:Nat}(h1:2^k<=n)(h2:n<2^(k+1)):O8 n=k+1:=by
 have c:n≠0:=by have:=aJ (n:=k) (show 0<2 by decide);omega
 unfold O8
 rw [iN c]
 have a:=(Nat.le_log2 c).2 h1
 have b:=(Nat.log2_lt c).2 h2
 omega
def Zb{l t j:Nat}(hl:l<2^j)(ht:t≠0):O8 (l+2^j*t)=j+O8 t:=by
 obtain ⟨a,b⟩:=Ff ht
 have c:O8 t=O8 t-1+1:=by unfold O8;rw [iN ht];omega
 have d:0<2^j:=aJ (by decide)
 rw [c,<- Nat.add_assoc]
 apply A6u
 ·rw [Nat.pow_add]
  have:=aV (2^j) a
  omega
 ·rw [Nat.add_assoc,<- c,Nat.pow_add]
  have:=aV (2^j) (show t+1<=2^O8 t by omega)
  rw [Nat.mul_add] at this;omega
def Iw{n k:Nat}(h:n<2^k):O8 n<=k:=by
 by_cases a:n=0
 ·subst a;rw [A4b];omega
 ·unfold O8;rw [iN a];have:=(Nat.log2_lt a).2 h;omega
def A8n{n:Nat}:O8 n=1↔n=1:=by
 constructor
 ·intro h
  by_cases a:n=0
  ·subst a;cases h
  ·have:=Ff a
   rw [h] at this;simp at this;omega
 ·rintro rfl;rfl
def A6v{n:Nat}:1<O8 n↔1<n:=by
 by_cases a:n=0
 ·subst a;simp [O8]
 by_cases b:n=1
 ·subst b;decide
 ·have d:O8 n≠0:=by unfold O8;rw [iN a];omega
  have c:O8 n≠1:=fun e=>b (A8n.1 e)
  omega
section
variable {h h':bW} {K:VP} {A B:Option bO} {n c n' c':Nat} {s s':Bool} {x y z:Int} {m:Nat}
def B7i(ia:NI h s A n c x)(ib:NI h s' B n' c' y)(hx:ZB m x)(hy:ZB m y)(hm:m<=1000000000)(hK:∀ s A n c h',h.le h'->NI h' s A n c (aL x y)->K (.agg #[.bool s,.slice A n c]) h'):aM prog B3o #[.agg #[.bool s,.slice A n c],.agg #[.bool s',.slice B n' c']] h K:=by
 refine C2l _ _ _ _ _ _ _ _ ?_
 unfold C7g
 refine ⟨fun l b=>∃ (A B:Option bO) (n c n' c' X Y:Nat),l=[.slice A n c,.slice B n' c']/\h.le b/\Mg b A n X/\Mg b B n' Y/\n<=c/\n'<=c'/\Nat.gcd X Y=aL x y/\n<=100000000/\n'<=100000000,fun l b=>match l with|[_,.slice A n _]=>B2v b32 b A n|_=>0,⟨_,_,_,_,_,_,_,_,rfl,B5 h,ia.mag,ib.mag,ia.cap,ib.cap,rfl,ia.len hx hm,ib.len hy hm⟩,?_⟩
 rintro A1 F c1 B1 r c2 b ⟨A1',B1',p,i,k,o,X,Y,G,e,M1,M2,E,z,g,u,t⟩
 obtain ⟨⟨rfl,rfl,rfl⟩,rfl,rfl,rfl⟩:(A1=A1'/\F=p/\c1=i)/\B1=B1'/\r=k/\c2=o:=by simpa using G
 have M:=M2.len_zero (by decide)
 refine B8 (fun w=>?_) (fun w=>?_)
 ·have f:Y≠0:=by omega
  refine Vs M1 M2 (by omega) u t ?_
  intro A3 L c3 A4 J c4 h' a N C M3 M4
  have d:((X:Int)%(Y:Int))=((X%Y:Nat):Int):=by omega
  rw [d] at M4
  have D:=Nat.mod_lt X (Nat.pos_of_ne_zero f)
  refine ⟨_,_,_,_,_,_,rfl,⟨_,_,_,_,_,_,Y,X%Y,rfl,B0 e a,M2.mono a,M4,z,C,?_,t,?_⟩,?_⟩
  ·rw [<- g,Nat.gcd_comm X Y,Nat.gcd_rec Y X,Nat.gcd_comm]
  ·have:=M4.len_le (by decide) (j:=r) (Int.lt_trans (show ((X%Y:Nat):Int)<(Y:Int) by omega) (M2.lt (by decide)))
   omega
  ·simp only [Bh M4,Bh M2];omega
 ·have f:Y=0:=by omega
  subst f
  rw [Nat.gcd_zero_right] at g
  refine O5 M1 E ?_
  intro H q
  refine ⟨_,_,_,_,rfl,hK _ _ _ _ _ e ?_⟩
  rw [g] at q
  exact q
def A4c(i:NI h s A n c z)(hz:ZB m z)(hm:m<=1000000000)(hK:K (I (O8 z.natAbs)) h):aM prog A1b #[.agg #[.bool s,.slice A n c]] h K:=by
 have T:=i.len hz hm
 have N:=i.zero_iff
 refine B8o _ _ _ _ ?_
 unfold C4n
 refine E5 (fun e=>?_) (fun e=>?_)
 ·have:z=0:=N.1 (by omega)
  subst this;exact hK
 ·obtain ⟨a,o,L,f,J,F⟩:=i.mag
  obtain ⟨k,hk⟩:∃ k,a.length=k+1:=⟨a.length-1,by omega⟩
  have C:B7 ((n:Int)-1)=(k:Int):=by rw [C0 (by omega) (by omega)];omega
  have G:B7 (32*(k:Int))=((32*k:Nat):Int):=by rw [C0 (by omega) (by omega)];omega
  rw [C,G]
  refine L.load o (by omega) (by omega) ?_
  rw [aR]
  have p:=Cl f k
  have S:=A2v hk J
  have y:32*k+O8 (a.getD k 0).toNat=O8 z.natAbs:=by
   have r:=H8 b32 a k
   rw [<- hk,bC] at r
   have M:=N4 (by decide) (f.take k)
   have Q:=C9 (by decide) (f.take k)
   rw [List.length_take,bI (by omega)] at M
   have H:b32^k=((2^(32*k):Nat):Int):=by
    rw [show b32=(2:Int)^32 by decide,<- Int.pow_mul];simp
   have g:z.natAbs=(val b32 (a.take k)).toNat+2^(32*k)*(a.getD k 0).toNat:=by
    have:((z.natAbs:Nat):Int)=(((val b32 (a.take k)).toNat+2^(32*k)*(a.getD k 0).toNat:Nat):Int):=by
     rw [<- F,r,Int.natCast_add,aS,<- H,aW Q,aW p.1]
    omega
   rw [g,Zb (by omega) (by omega)]
  refine ⟨fun l q=>∃ (t k:Nat),l=[I k,U32 t]/\q=h/\k+O8 t=O8 z.natAbs/\t<4294967296,fun l _=>(iAt l 1).toNat,⟨(a.getD k 0).toNat,32*k,?_,rfl,y,by omega⟩,?_⟩
  ·rw [aW p.1]
  ·rintro E O q ⟨t,d,j,rfl,b,B⟩
   obtain ⟨rfl,rfl⟩:E=(d:Int)/\O=(t:Int):=by simpa using j
   have w:O8 z.natAbs<=m:=Iw hz
   refine B8 (fun D=>?_) (fun D=>?_)
   ·have g:Int.fdiv (t:Int) (2^(min ((1:Int)).toNat 32))=((t/2:Nat):Int):=by
     rw [show (2:Int)^(min ((1:Int)).toNat 32)=2 by decide,Int.fdiv_eq_ediv_of_nonneg _ (by decide)];omega
    have R:=B4g (n:=t) (by omega)
    have u:B7 ((d:Int)+1)=((d+1:Nat):Int):=by rw [C0 (by omega) (by omega)];omega
    rw [g,u]
    exact ⟨⟨t/2,d+1,rfl,rfl,by omega,by omega⟩,by simp only [iAt,bU,List.getElem?_cons_succ];omega⟩
   ·have:t=0:=by omega
    subst this
    rw [A4b,Nat.add_zero] at b
    rw [b];exact hK
end
structure QV where
 s:Bool
 A:Option bO
 n:Nat
 c:Nat
 s2:Bool
 A2:Option bO
 n2:Nat
 c2:Nat
abbrev QV.v(w:QV):Value:=.agg #[.bool w.s,.slice w.A w.n w.c,.bool w.s2,.slice w.A2 w.n2 w.c2]
structure NQ (h:bW) (w:QV) (q:Rat):Prop where
 num:NI h w.s w.A w.n w.c q.num
 den:NI h w.s2 w.A2 w.n2 w.c2 (if q.den=1 then 0 else (q.den:Int))
structure Sz (m:Nat) (q:Rat):Prop where
 num:ZB m q.num
 den:ZB m q.den
def Sz.mono{m n:Nat}{q:Rat}(h:Sz m q)(hm:m<=n):Sz n q:=⟨h.num.mono hm,h.den.mono hm⟩
def Sz.neg{m:Nat}{q:Rat}(h:Sz m q):Sz m (-q):=⟨by rw [Rat.neg_num];exact h.num.neg,by rw [Rat.neg_den];exact h.den⟩
def A46{a b:Int}(hb:b≠0):(aF a b).num.natAbs<=a.natAbs/\(aF a b).den<=b.natAbs:=by
 have d:0<aL b a:=Int.gcd_pos_of_ne_zero_left a hb
 rw [Rat.num_divInt,Rat.den_divInt,iN hb]
 constructor
 ·have c:(aL b a:Int)∣b.sign*a:=Int.dvd_mul_of_dvd_right (aZ b a)
  rw [Int.natAbs_ediv_of_dvd c,bN,aE]
  have:b.sign.natAbs=1:=by
   rw [Int.natAbs_sign];simp [hb]
  rw [this,Nat.one_mul]
  exact Nat.div_le_self _ _
 ·exact Nat.div_le_self _ _
def U3{m:Nat}{a b:Int}(hb:b≠0)(h1:ZB m a)(h2:ZB m b):Sz m (aF a b):=by
 have:=A46 (a:=a) hb
 exact ⟨h1.le this.1,h2.le (by simpa using this.2)⟩
def Qy(p q:Rat):p+q=aF (p.num*q.den+q.num*p.den) (p.den*q.den):=by
 rw [Rat.add_def',<- aS,bB]
def Pz(p q:Rat):p*q=aF (p.num*q.num) (p.den*q.den):=by
 rw [Rat.mul_def',<- aS,bB]
def Ke(z:Int):aF z 1=(z:Rat):=by
 show aF z ((1:Nat):Int)=_
 rw [bB]
 apply Rat.ext
 ·rw [Rat.num_mkRat];simp
 ·rw [Rat.den_mkRat];simp
def den_ne(q:Rat):(q.den:Int)≠0:=by have:=q.den_nz;omega
def B0b(p q:Rat):p/q=aF (p.num*q.den) (p.den*q.num):=by
 rw [Rat.div_def,<- aP p,<- aP q,Rat.inv_divInt,Rat.divInt_mul_divInt]
 rw [aP,aP]
def Sz.add{m n:Nat}{p q:Rat}(hp:Sz m p)(hq:Sz n q):Sz (m+n+1) (p+q):=by
 rw [Qy]
 refine U3 (aO (den_ne p) (den_ne q)) ?_ ((hp.den.mul hq.den).mono (by omega))
 exact (hp.num.mul hq.den).add ((hq.num.mul hp.den).mono (by omega))
def Sz.sub{m n:Nat}{p q:Rat}(hp:Sz m p)(hq:Sz n q):Sz (m+n+1) (p-q):=by
 rw [Rat.sub_eq_add_neg];exact hp.add hq.neg
def Sz.mul{m n:Nat}{p q:Rat}(hp:Sz m p)(hq:Sz n q):Sz (m+n) (p*q):=by
 rw [Pz]
 exact U3 (aO (den_ne p) (den_ne q)) (hp.num.mul hq.num) (hp.den.mul hq.den)
def Sz.zero{m:Nat}(hm:1<=m):Sz m 0:=⟨ZB.zero,ZB.one hm⟩
def Sz.inv{m:Nat}{q:Rat}(h:Sz m q)(hm:1<=m):Sz m q⁻¹:=by
 constructor
 ·rw [Rat.num_inv]
  refine h.den.le ?_
  rw [bN]
  by_cases a:q.num=0
  ·rw [a];simp
  ·rw [Int.natAbs_sign];simp [a]
 ·rw [Rat.den_inv]
  split
  ·exact ZB.one hm
  ·have:=h.num
   unfold ZB at *
   simpa using this
def Sz.div{m n:Nat}{p q:Rat}(hp:Sz m p)(hq:Sz n q)(hn:1<=n):Sz (m+n) (p/q):=by
 rw [Rat.div_def];exact hp.mul (hq.inv hn)
def Sz.int{m:Nat}{z:Int}(h:ZB m z)(hm:1<=m):Sz m (z:Rat):=⟨by simpa using h,by simpa using ZB.one hm⟩
section
variable {h h':bW} {K:VP} {A B:Option bO} {n c n' c':Nat} {s s':Bool} {x y z:Int} {m:Nat} {p q:Rat} {a b w:QV}
def NQ.mono(hl:h.le h')(i:NQ h w q):NQ h' w q:=⟨i.num.mono hl,i.den.mono hl⟩
def NQ.whole(i:NI h s A n c z){B:Option bO}:NQ h ⟨s,A,n,c,false,B,0,0⟩ (z:Rat):=⟨by simpa using i,by simpa using NI.nil⟩
def NQ.den_zero(i:NQ h w q):w.n2=0↔q.den=1:=by
 rw [i.den.zero_iff]
 have:=q.den_nz
 split<;>omega
def NQ.zero:NQ h ⟨false,none,0,0,false,none,0,0⟩ 0:=⟨NI.nil,NI.nil⟩
def Bc(i:NQ h w q)(hK:∀ s A n c h',h.le h'->NI h' s A n c q.den->K (.agg #[.bool s,.slice A n c]) h'):aM prog Ed #[w.v] h K:=by
 refine B8n _ _ _ _ _ _ _ _ ?_
 unfold C4m
 have a:=i.den_zero
 refine E5 (fun e=>?_) (fun e=>?_)
 ·refine Rq (by decide) ?_
  intro s A n c j d f
  refine ⟨_,_,_,_,rfl,hK _ _ _ _ _ d ?_⟩
  rw [a.1 (by omega)];exact f
 ·have b:=i.den
  rw [iN (fun g=>e (by have:=a.2 g;omega))] at b
  exact hK _ _ _ _ _ (B5 h) b
def Nz(ix:NI h s A n c x)(iy:NI h s' B n' c' y)(hy0:y≠0)(hx:ZB m x)(hy:ZB m y)(hm:m<=1000000000)(hK:∀ w h',h.le h'->NQ h' w (aF x y)->K w.v h'):aM prog Ql #[.agg #[.bool s,.slice A n c],.agg #[.bool s',.slice B n' c']] h K:=by
 refine B8m _ _ _ _ _ _ _ _ ?_
 unfold C4l
 refine ⟨fun l k=>∃ s A n c s' B n' c' d f,l=[.bool s,.slice A n c,.bool s',.slice B n' c']/\h.le k/\NI k s A n c d/\NI k s' B n' c' f/\0<f/\aF d f=aF x y/\ZB m d/\ZB m f,Br.of (fun e=>?_) (fun e=>?_),?_⟩
 ·have aj:y<0:=by have:=iy.sg;rw [e] at this;simpa using this.symm
  refine A0l ix ?_
  intro s1 t
  refine ⟨_,_,_,_,rfl,B5 h,?_⟩
  refine A0l iy ?_
  intro s2 C
  exact ⟨_,_,_,_,rfl,B5 h,_,_,_,_,_,_,_,_,-x,-y,rfl,B5 h,t,C,by omega,Rat.neg_divInt_neg x y,hx.neg,hy.neg⟩
 ·have j:0<y:=by have:=iy.sg;rw [e] at this;have:¬ y<0:=by simpa using this.symm
                 omega
  exact ⟨_,_,_,_,_,_,_,_,x,y,rfl,B5 h,ix,iy,j,rfl,hx,hy⟩
 rintro s1 A1 n1 c1 s2 A2 n2 c2 ak ⟨W,A1',ae,O,af,A2',X,ab,d,f,hl,u,t,C,j,hq,z,o⟩
 obtain ⟨rfl,⟨rfl,rfl,rfl⟩,rfl,rfl,rfl,rfl⟩:s1=W/\(A1=A1'/\n1=ae/\c1=O)/\s2=af/\A2=A2'/\n2=X/\c2=ab:=by simpa using hl
 refine B7i t C z o hm ?_
 intro s3 A3 n3 c3 h3 r Q
 refine ⟨_,_,_,_,rfl,?_⟩
 rw [<- hq] at hK
 generalize hqq:aF d f=q at *
 have g:q.num=d/(aL d f:Int):=by
  rw [<- hqq,Rat.num_divInt,aD j,Int.one_mul,Int.gcd_comm]
 have i:(q.den:Int)=f/(aL d f:Int):=by
  rw [<- hqq,Rat.den_divInt,iN (by omega),Int.gcd_comm,bD,aN (by omega)]
 have am:0<aL d f:=Int.gcd_pos_of_ne_zero_right d (by omega)
 have p:ZB m (aL d f:Int):=by
  refine o.le ?_
  rw [aE]
  exact Nat.le_of_dvd (by omega) (by have:=aZ d f;exact Int.ofNat_dvd_left.1 this)
 refine ⟨fun l k=>∃ s A n c s' B n' c',l=[.bool s,.slice A n c,.bool s',.slice B n' c']/\h.le k/\NI k s A n c q.num/\NI k s' B n' c' q.den,?_,?_⟩
 ·refine A4c Q p hm ⟨_,rfl,?_⟩
  rw [aE]
  refine B8 (fun e=>?_) (fun e=>?_)
  ·refine Uh (t.mono r) Q (by omega) z p hm ?_
   intro N A4 J c4 s5 A5 n5 c5 h4 l4 E _
   refine ⟨_,_,_,_,_,_,_,_,rfl,?_⟩
   refine Uh ((C.mono r).mono l4) (Q.mono l4) (by omega) o p hm ?_
   intro M A6 n6 c6 s7 A7 n7 c7 h5 l5 F _
   have R:d.tdiv (aL d f:Int)=q.num:=by rw [g,bV (Int.gcd_dvd_left d f)]
   have e2:f.tdiv (aL d f:Int)=q.den:=by rw [i,bV (aZ d f)]
   rw [R] at E
   rw [e2] at F
   exact ⟨_,_,_,_,_,_,_,_,rfl,_,_,_,_,_,_,_,_,rfl,B0 u (B0 r (B0 l4 l5)),E.mono l5,F⟩
  ·have hg:aL d f=1:=by
    have:¬ 1<O8 (aL d f):=by omega
    rw [A6v] at this;omega
   rw [hg] at g i
   simp at g i
   exact ⟨_,_,_,_,_,_,_,_,rfl,B0 u r,by rw [g];exact t.mono r,by rw [i];exact C.mono r⟩
 rintro N A4 J c4 s5 A5 n5 c5 G ⟨ah,A4',aa,L,ai,A5',H,S,V,D,E,i5⟩
 obtain ⟨rfl,⟨rfl,rfl,rfl⟩,rfl,rfl,rfl,rfl⟩:N=ah/\(A4=A4'/\J=aa/\c4=L)/\s5=ai/\A5=A5'/\n5=H/\c5=S:=by simpa using V
 have ag:ZB m (q.den:Int):=by
  refine o.le ?_
  have:=(A46 (a:=d) (b:=f) (by omega)).2
  rw [hqq] at this
  simpa using this
 refine ⟨fun l k=>∃ s' B n' c',l=[.bool s',.slice B n' c']/\k=G/\NI k s' B n' c' (if q.den=1 then 0 else (q.den:Int)),?_,?_⟩
 ·refine A4c i5 ag hm ⟨_,rfl,?_⟩
  rw [aE]
  refine E5 (fun e=>?_) (fun e=>?_)
  ·have:q.den=1:=A8n.1 (by omega)
   exact ⟨_,_,_,_,rfl,rfl,by rw [iP this];exact NI.nil⟩
  ·have:¬ q.den=1:=fun R=>e (by rw [R];rfl)
   exact ⟨_,_,_,_,rfl,rfl,by rw [iN this];exact i5⟩
 rintro M A6 n6 c6 al ⟨ac,A6',ad,Z,T,rfl,F⟩
 obtain ⟨rfl,rfl,rfl,rfl⟩:M=ac/\A6=A6'/\n6=ad/\c6=Z:=by simpa using T
 exact hK ⟨N,A4,J,c4,M,A6,n6,c6⟩ _ D ⟨E,F⟩
def B2a(hz: -9223372036854775808<=z/\z<=9223372036854775807)(hK:∀ w h',h.le h'->NQ h' w (z:Rat)->K w.v h'):aM prog C58 #[I z] h K:=by
 refine C6e _ ?_
 unfold NR
 refine Rq hz ?_
 intro s A n c d a b
 exact ⟨_,_,_,_,rfl,hK ⟨s,A,n,c,false,none,0,0⟩ _ a (NQ.whole b)⟩
def Q7(i:NQ h w q)(hK:K (I q.num.sign) h):aM prog U4 #[w.v] h K:=by
 refine B5e _ _ _ _ _ _ _ _ ?_
 unfold C08
 exact A37 i.num ⟨_,rfl,hK⟩
def A3b(i:NQ h w q)(hK:∀ w,NQ h w (-q)->K w.v h):aM prog A1a #[w.v] h K:=by
 refine B8h _ _ _ _ _ _ _ _ ?_
 unfold C4g
 refine A0l i.num ?_
 intro a b
 exact ⟨_,_,_,_,rfl,B5 h,hK ⟨a,w.A,w.n,w.c,w.s2,w.A2,w.n2,w.c2⟩ ⟨b,i.den⟩⟩
def No(ia:NQ h a p)(ib:NQ h b q)(hp:Sz m p)(hq:Sz m q)(hm:m<=400000000)(hK:∀ w h',h.le h'->NQ h' w (p+q)->K w.v h'):aM prog Qk #[a.v,b.v] h K:=by
 have n:=ia.den_zero
 have R:=ib.den_zero
 refine B8k _ _ _ _ _ _ _ _ _ _ _ _ _ _ _ _ ?_
 unfold C4j
 refine ⟨fun l h'=>l=[.bool (decide (p.den=1/\q.den=1))]/\h'=h,E5 (fun e=>?_) (fun e=>?_),?_⟩
 ·have k:p.den=1:=n.1 (by omega)
  refine ⟨?_,rfl⟩
  have:((b.n2:Int)==0)=decide (p.den=1/\q.den=1):=by
   rw [Bool.eq_iff_iff];simp [k];omega
  rw [this]
 ·have k:¬ p.den=1:=fun L=>e (by have:=n.2 L;omega)
  exact ⟨by simp [k],rfl⟩
 rintro t M ⟨V,rfl⟩
 obtain rfl:t=decide (p.den=1/\q.den=1):=by simpa using V
 have g:=hp.num;have c:=hp.den;have f:=hq.num;have d:=hq.den
 refine B8 (fun e=>?_) (fun e=>?_)
 ·refine A8p ia.num ib.num g f (by omega) ?_
  intro C A1 G c1 k j u
  refine ⟨_,_,_,_,rfl,hK ⟨C,A1,G,c1,false,none,0,0⟩ _ j ?_⟩
  have:p+q=((p.num+q.num:Int):Rat):=by
   rw [Qy,e.1,e.2]
   show aF (p.num*1+q.num*1) (1*1)=_
   rw [aU,aU,aU,Ke]
  rw [this];exact NQ.whole u
 ·refine Bc ib ?_
  intro C A1 G c1 k j u
  refine ⟨_,_,_,_,rfl,j,?_⟩
  refine Do (ia.num.mono j) u g d (by omega) (by omega) ?_
  intro X A2 n2 c2 h2 z N
  refine ⟨_,_,_,_,rfl,z,?_⟩
  refine Bc (ia.mono (B0 j z)) ?_
  intro s3 A3 n3 c3 h3 A J
  refine ⟨_,_,_,_,rfl,A,?_⟩
  have o:=B0 j (B0 z A)
  refine Do (ib.num.mono o) J f c (by omega) (by omega) ?_
  intro s4 A4 Z c4 h4 B S
  refine ⟨_,_,_,_,rfl,B,?_⟩
  refine A8p (N.mono (B0 A B)) S (g.mul d) (f.mul c) (by omega) ?_
  intro s5 A5 n5 c5 h5 E Q
  refine ⟨_,_,_,_,rfl,E,?_⟩
  have i:=B0 o (B0 B E)
  refine Bc (ia.mono i) ?_
  intro s6 A6 n6 c6 h6 s T
  refine ⟨_,_,_,_,rfl,s,?_⟩
  refine Bc (ib.mono (B0 i s)) ?_
  intro s7 A7 n7 c7 h7 r H
  refine ⟨_,_,_,_,rfl,r,?_⟩
  refine Do (T.mono r) H c d (by omega) (by omega) ?_
  intro W A8 n8 c8 h8 y O
  refine ⟨_,_,_,_,rfl,y,?_⟩
  refine Nz (m:=m+m+1) (Q.mono (B0 s (B0 r y))) O (aO (den_ne p) (den_ne q)) ((g.mul d).add (f.mul c)) ((c.mul d).mono (by omega)) (by omega) ?_
  intro w h9 F D
  rw [<- Qy] at D
  exact ⟨_,_,_,_,_,_,_,_,rfl,F,hK w _ (B0 i (B0 s (B0 r (B0 y F)))) D⟩
def Hy(ia:NQ h a p)(ib:NQ h b q)(hp:Sz m p)(hq:Sz m q)(hm:m<=400000000)(hK:∀ w h',h.le h'->NQ h' w (p-q)->K w.v h'):aM prog Lr #[a.v,b.v] h K:=by
 refine B8g _ _ _ _ _ _ _ _ _ _ _ _ _ _ _ _ ?_
 unfold C4f
 refine A3b ib ?_
 intro w i
 refine ⟨_,_,_,_,_,_,_,_,rfl,B5 h,?_⟩
 refine No ia i hp hq.neg hm ?_
 intro e f d c
 rw [<- Rat.sub_eq_add_neg] at c
 exact ⟨_,_,_,_,_,_,_,_,rfl,d,hK e _ d c⟩
def Ia(ia:NQ h a p)(ib:NQ h b q)(hp:Sz m p)(hq:Sz m q)(hm:m<=400000000)(hK:∀ w h',h.le h'->NQ h' w (p*q)->K w.v h'):aM prog Ls #[a.v,b.v] h K:=by
 have i:=ia.den_zero
 have F:=ib.den_zero
 refine B8i _ _ _ _ _ _ _ _ _ _ _ _ _ _ _ _ ?_
 unfold C4h
 refine ⟨fun l h'=>l=[.bool (decide (p.den=1/\q.den=1))]/\h'=h,E5 (fun e=>?_) (fun e=>?_),?_⟩
 ·have g:p.den=1:=i.1 (by omega)
  refine ⟨?_,rfl⟩
  have:((b.n2:Int)==0)=decide (p.den=1/\q.den=1):=by
   rw [Bool.eq_iff_iff];simp [g];omega
  rw [this]
 ·have g:¬ p.den=1:=fun C=>e (by have:=i.2 C;omega)
  exact ⟨by simp [g],rfl⟩
 rintro t D ⟨H,rfl⟩
 obtain rfl:t=decide (p.den=1/\q.den=1):=by simpa using H
 have d:=hp.num;have j:=hp.den;have c:=hq.num;have k:=hq.den
 refine B8 (fun e=>?_) (fun e=>?_)
 ·refine Do ia.num ib.num d c (by omega) (by omega) ?_
  intro u A1 A c1 g f r
  refine ⟨_,_,_,_,rfl,hK ⟨u,A1,A,c1,false,none,0,0⟩ _ f ?_⟩
  have:p*q=((p.num*q.num:Int):Rat):=by
   rw [Pz,e.1,e.2]
   show aF (p.num*q.num) (1*1)=_
   rw [aU,Ke]
  rw [this];exact NQ.whole r
 ·refine Do ia.num ib.num d c (by omega) (by omega) ?_
  intro u A1 A c1 g f r
  refine ⟨_,_,_,_,rfl,f,?_⟩
  refine Bc (ia.mono f) ?_
  intro J A2 Q c2 T n E
  refine ⟨_,_,_,_,rfl,n,?_⟩
  refine Bc (ib.mono (B0 f n)) ?_
  intro S A3 O c3 N o B
  refine ⟨_,_,_,_,rfl,o,?_⟩
  refine Do (E.mono o) B j k (by omega) (by omega) ?_
  intro M A4 L c4 V s G
  refine ⟨_,_,_,_,rfl,s,?_⟩
  refine Nz (m:=m+m) (r.mono (B0 n (B0 o s))) G (aO (den_ne p) (den_ne q)) (d.mul c) (j.mul k) (by omega) ?_
  intro w R z y
  rw [<- Pz] at y
  exact ⟨_,_,_,_,_,_,_,_,rfl,z,hK w _ (B0 f (B0 n (B0 o (B0 s z)))) y⟩
def Ue(ia:NQ h a p)(ib:NQ h b q)(hp:Sz m p)(hq:Sz m q)(hm:m<=400000000)(hK:∀ w h',h.le h'->NQ h' w (p/q)->K w.v h'):aM prog Vg #[a.v,b.v] h K:=by
 refine B8j _ _ _ _ _ _ _ _ _ _ _ _ _ _ _ _ ?_
 unfold C4i
 have i:=hp.num;have d:=hp.den;have f:=hq.num;have g:=hq.den
 refine Q7 ib ⟨_,rfl,E5 (fun e=>?_) (fun e=>?_)⟩
 ·have A:q=0:=Rat.num_eq_zero.1 (Int.sign_eq_zero_iff_zero.1 e)
  have:=hK ⟨false,none,0,0,false,none,0,0⟩ h (B5 h) (by rw [A,Rat.div_def,Rat.inv_zero,Rat.mul_zero];exact NQ.zero)
  exact this
 ·have n:q.num≠0:=fun y=>e (by rw [y];rfl)
  refine Bc ib ?_
  intro E A1 Q c1 H j t
  refine ⟨_,_,_,_,rfl,j,?_⟩
  refine Do (ia.num.mono j) t i g (by omega) (by omega) ?_
  intro C A2 L c2 O k z
  refine ⟨_,_,_,_,rfl,k,?_⟩
  refine Bc (ia.mono (B0 j k)) ?_
  intro N A3 J c3 G l u
  refine ⟨_,_,_,_,rfl,l,?_⟩
  have c:=B0 j (B0 k l)
  refine Do u (ib.num.mono c) d f (by omega) (by omega) ?_
  intro F A4 D c4 R o B
  refine ⟨_,_,_,_,rfl,o,?_⟩
  refine Nz (m:=m+m) (z.mono (B0 l o)) B (aO (den_ne p) n) (i.mul g) (d.mul f) (by omega) ?_
  intro w M s r
  rw [<- B0b] at r
  exact ⟨_,_,_,_,_,_,_,_,rfl,s,hK w _ (B0 c (B0 o s)) r⟩
end
def dch(d:Nat):UInt8:=UInt8.ofNat (48+d)
def Fb{d:Nat}(h:d<10):(dch d).toNat=48+d:=by
 unfold dch;rw [UInt8.toNat_ofNat'];omega
def J2(c:UInt8):Prop:=48<=c.toNat/\c.toNat<=57
instance (c:UInt8):Decidable (J2 c):=by unfold J2;infer_instance
def C1x{d:Nat}(h:d<10):J2 (dch d):=by unfold J2;rw [Fb h];omega
def B9r{c:UInt8}(h:J2 c):dch (c.toNat-48)=c:=by
 unfold J2 at h
 apply UInt8.toNat_inj.1
 rw [Fb (by omega)];omega
def dd(n:Nat):List UInt8:=if _h:n=0 then [] else dd (n/10)++[dch (n%10)]
def K7:dd 0=[]:=by unfold dd;simp
def By{n:Nat}(h:n≠0):dd n=dd (n/10)++[dch (n%10)]:=by rw [dd];simp [h]
def N8(l:List UInt8):Nat:=l.foldl (fun a c=>10*a+(c.toNat-48)) 0
def Oq(l:List UInt8)(c:UInt8):N8 (l++[c])=10*N8 l+(c.toNat-48):=by simp [N8]
def C1q(l:List UInt8):∀ a,l.foldl (fun a c=>10*a+(c.toNat-48)) a=a*10^l.length+N8 l:=by
 induction l with
 | nil=>intro a;simp [N8]
 | cons c l ih=>
  intro a
  unfold N8
  rw [List.foldl_cons,List.foldl_cons,ih,ih,List.length_cons,aK]
  grind
def Gt(a b:List UInt8):N8 (a++b)=N8 a*10^b.length+N8 b:=by
 unfold N8;rw [List.foldl_append,C1q b];rfl
def B40(c:UInt8)(l:List UInt8):N8 (c::l)=(c.toNat-48)*10^l.length+N8 l:=by
 rw [<- List.singleton_append,Gt];simp [N8]
def Qq{l:List UInt8}(h:∀ c∈l,J2 c):N8 l<10^l.length:=by
 induction l with
 | nil=>simp [N8]
 | cons c l ih=>
  have d:=ih fun x a=>h x (by simp [a])
  have b:=h c (by simp)
  unfold J2 at b
  rw [B40,List.length_cons,aK]
  have:(c.toNat-48)*10^l.length<=9*10^l.length:=Nat.mul_le_mul_right _ (by omega)
  omega
def C1r(n:Nat):N8 (dd n)=n:=by
 induction n using bH with
 | _ n ih=>
  by_cases h:n=0
  ·subst h;rw [K7];rfl
  ·rw [By h,Oq,ih _ (by omega),Fb (by omega)];omega
def C3x(n:Nat):∀ c∈dd n,J2 c:=by
 induction n using bH with
 | _ n ih=>
  by_cases h:n=0
  ·subst h;rw [K7];simp
  ·rw [By h]
   intro c b
   rcases List.mem_append.1 b with a|a
   ·exact ih _ (by omega) c a
   ·rw [List.mem_singleton.1 a];exact C1x (by omega)
def B7u{n:Nat}(h:n≠0):dd n≠[]:=by rw [By h];simp
def B49(n:Nat)(h:n≠0):(dd n).head? ≠ some 48:=by
 induction n using bH with
 | _ n ih=>
  rw [By h]
  by_cases a:n/10=0
  ·rw [a,K7]
   simp only [bJ,List.head?_cons,ne_eq,Option.some.injEq]
   intro e
   have:=Fb (d:=n%10) (by omega)
   rw [e] at this
   simp at this
   omega
  ·have:=ih _ (by omega) a
   obtain ⟨c,r,e⟩:=bL (B7u a)
   rw [e] at this ⊢
   simpa using this
def B4a{l:List UInt8}(h:∀ c∈l,J2 c)(h0:l.head? ≠ some 48):dd (N8 l)=l:=by
 obtain ⟨n,g⟩:∃ n,l.length=n:=⟨_,rfl⟩
 induction n generalizing l with
 | zero=>rw [bF g];exact K7
 | succ n ih=>
  obtain ⟨m,c,rfl⟩:∃ m c,l=m++[c]:=by
   refine ⟨l.dropLast,l.getLast (by rintro rfl;simp at g),?_⟩
   rw [List.dropLast_concat_getLast]
  have f:=h c (by simp)
  have b:=f
  unfold J2 at b
  rw [Oq]
  cases m with
  | nil=>
   simp at h0
   have k:c.toNat-48≠0:=by
    intro e
    apply h0
    apply UInt8.toNat_inj.1
    show c.toNat=48
    omega
   rw [By (by simp [N8];omega)]
   simp only [N8,List.foldl_nil,bJ]
   rw [show (10*0+(c.toNat-48))/10=0 by omega,K7,show (10*0+(c.toNat-48))%10=c.toNat-48 by omega,B9r f];rfl
  | cons d m=>
   have a:=ih (l:=d::m) (fun x i=>h x (by simp at i ⊢;rcases i with h|h<;>simp [h])) (by simpa using h0) (by simpa using g)
   have j:N8 (d::m)≠0:=by
    intro e
    rw [e,K7] at a
    cases a
   rw [By (by omega),show (10*N8 (d::m)+(c.toNat-48))/10=N8 (d::m) by omega,a,show (10*N8 (d::m)+(c.toNat-48))%10=c.toNat-48 by omega,B9r f]
def S4{n k:Nat}:(dd n).length<=k↔n<10^k:=by
 induction k generalizing n with
 | zero=>
  constructor
  ·intro h
   have:dd n=[]:=bF (by omega)
   by_cases a:n=0
   ·subst a;decide
   ·exact absurd this (B7u a)
  ·intro h
   have:n=0:=by simp at h;exact h
   subst this;rw [K7];simp
 | succ k ih=>
  by_cases a:n=0
  ·subst a;rw [K7];simp [aJ]
  ·rw [By a,aX,List.length_singleton,Nat.add_le_add_iff_right,ih,aK]
   omega
def pad(w n:Nat):List UInt8:=List.replicate (w-(dd n).length) 48++dd n
def A7w(n:Nat):pad 0 n=dd n:=by simp [pad]
def Yl{w n:Nat}(h:n<10^w):(pad w n).length=w:=by
 have:=S4.2 h
 simp [pad];omega
def Tc(w n:Nat):pad (w+1) n=pad w (n/10)++[dch (n%10)]:=by
 unfold pad
 by_cases h:n=0
 ·subst h
  rw [K7]
  simp only [List.length_nil,Nat.sub_zero,List.append_nil,Nat.zero_mod]
  rw [List.replicate_succ'];rfl
 ·rw [By h,aX,List.length_singleton,Nat.add_sub_add_right,aI]
def C3w{h l k:Nat}(h0:h≠0)(hl:l<10^k):dd (h*10^k+l)=dd h++pad k l:=by
 induction k generalizing l with
 | zero=>
  have:l=0:=by simpa using hl
  subst this;simp [pad,K7]
 | succ k ih=>
  have d:0<10^k:=aJ (by decide)
  have a:h*10^(k+1)+l≠0:=by
   have:0<h*10^(k+1):=Nat.mul_pos (by omega) (aJ (by decide))
   omega
  have b:(h*10^(k+1)+l)/10=h*10^k+l/10:=by
   rw [aK,<- Nat.mul_assoc];omega
  have c:(h*10^(k+1)+l)%10=l%10:=by
   rw [aK,<- Nat.mul_assoc];omega
  rw [By a,b,c,ih (by rw [aK] at hl;omega),Tc,aI]
def A3l{w h l k:Nat}(hl:l<10^k)(hw:h≠0\/k<=w):pad w (h*10^k+l)=pad (w-k) h++pad k l:=by
 by_cases b:h=0
 ·subst b
  have c:k<=w:=by
   rcases hw with h|h
   ·exact absurd rfl h
   ·exact h
  have:=S4.2 hl
  unfold pad
  rw [K7]
  simp only [Nat.zero_mul,Nat.zero_add,List.length_nil,Nat.sub_zero,List.append_nil,<- aI,List.replicate_append_replicate]
  congr 2;omega
 ·have e:=C3w b hl
  have a:=Yl hl
  unfold pad at a
  unfold pad at e ⊢
  rw [e,aX,a,<- aI]
  congr 3;omega
def O9(n:Nat):List UInt8:=if n=0 then [48] else dd n
def Ao{n:Nat}(h:n≠0):O9 n=dd n:=by simp [O9,h]
def Bb(n:Nat):N8 (O9 n)=n:=by
 unfold O9;split
 ·rename_i h;subst h;rfl
 ·exact C1r n
def Ov(n:Nat):∀ c∈O9 n,J2 c:=by
 unfold O9;split
 ·intro c a;rw [List.mem_singleton.1 a];decide
 ·exact C3x n
def Vt(n:Nat):O9 n≠[]:=by
 unfold O9;split
 ·simp
 ·rename_i h;exact B7u h
def B7t{a b:Nat}(h:O9 a=O9 b):a=b:=by rw [<- Bb a,h,Bb]
def Ou{l:List UInt8}(h:∀ c∈l,J2 c)(hn:l≠[])(h0:l.head? ≠ some 48\/l=[48]):O9 (N8 l)=l:=by
 rcases h0 with h0|h0
 ·have:=B4a h h0
  rw [Ao,this]
  intro e
  rw [e,K7] at this
  exact hn this.symm
 ·subst h0;rfl
def Tp{n k:Nat}(hk:0<k):(O9 n).length<=k↔n<10^k:=by
 by_cases h:n=0
 ·subst h;have:0<10^k:=aJ (by decide);simp [O9];omega
 ·rw [Ao h];exact S4
def Mz(z:Int):List UInt8:=if z<0 then 45::O9 z.natAbs else O9 z.natAbs
def K9(q:Rat):List UInt8:=Mz q.num++(if q.den=1 then [] else 47::O9 q.den)
structure Form (s:List UInt8) (neg:Bool) (a b:List UInt8):Prop where
 eq:s=(if neg then [45] else [])++a++(if b=[] then [] else 47::b)
 da:∀ c∈a,J2 c
 db:∀ c∈b,J2 c
 ne:a≠[]
 ha:a.head? ≠ some 48\/(a=[48]/\neg=false/\b=[])
 hb:b.head? ≠ some 48
 b1:b≠[49]
def A85{c:UInt8}(h:J2 c):c≠45/\c≠47:=by
 unfold J2 at h
 constructor<;>(rintro rfl;revert h;decide)
def Ft{a r:List UInt8}(h:∀ c∈a,J2 c)(hr:∀ c,r.head? = some c->¬ J2 c):(a++r).takeWhile (fun c=>decide (J2 c))=a/\(a++r).dropWhile (fun c=>decide (J2 c))=r:=by
 induction a with
 | nil=>
  cases r with
  | nil=>simp
  | cons c r=>
   have:=hr c rfl
   simp [this]
 | cons c a ih=>
  have b:=h c (by simp)
  have:=ih fun x d=>h x (by simp [d])
  simp [b,this]
def Form.head{s:List UInt8}{neg:Bool}{a b:List UInt8}(f:Form s neg a b):neg=(s.head? == some 45):=by
 obtain ⟨c,r,e⟩:=bL f.ne
 have d:=(A85 (f.da c (by simp [e]))).1
 rw [f.eq,e]
 cases neg<;>simp [d]
def Form.unique{s:List UInt8}{neg neg':Bool}{a b a' b':List UInt8}(f:Form s neg a b)(g:Form s neg' a' b'):neg=neg'/\a=a'/\b=b':=by
 have q:neg=neg':=by rw [f.head,g.head]
 subst q
 have e:=f.eq.symm.trans g.eq
 rw [aI,aI] at e
 have o:=List.append_cancel_left e
 have k:∀ b:List UInt8,∀ c,(if b=[] then [] else 47::b:List UInt8).head? = some c->¬ J2 c:=by
  intro b c d
  split at d
  ·simp at d
  ·simp at d;subst d;decide
 have j:=Ft f.da (k b)
 have m:=Ft g.da (k b')
 rw [o] at j
 have p:a=a':=j.1.symm.trans m.1
 have l:=j.2.symm.trans m.2
 refine ⟨rfl,p,?_⟩
 by_cases n:b=[]<;>by_cases i:b'=[]<;>simp [n,i] at l ⊢
 exact l
def Vv{q:Rat}(h:q.num=0):q.den=1:=by
 have:=q.reduced
 rw [h] at this
 simpa using this
def Hq(q:Rat):Form (K9 q) (decide (q.num<0)) (O9 q.num.natAbs) (if q.den=1 then [] else O9 q.den):=by
 constructor
 ·unfold K9 Mz
  by_cases b:q.num<0<;>by_cases c:q.den=1<;>simp [b,c,Vt]
 ·exact Ov _
 ·split
  ·simp
  ·exact Ov _
 ·exact Vt _
 ·by_cases h:q.num=0
  ·right
   rw [Vv h,h];simp [O9]
  ·left
   rw [Ao (by omega)];exact B49 _ (by omega)
 ·split
  ·simp
  ·rw [Ao q.den_nz];exact B49 _ q.den_nz
 ·split
  ·simp
  ·rename_i h
   intro e
   have a:O9 q.den=O9 1:=by rw [e];simp [O9,By,K7,dch]
   exact h (B7t a)
def Xc(neg:Bool)(a:List UInt8):Int:=if neg then -(N8 a:Int) else N8 a
def Yu(b:List UInt8):Nat:=if b=[] then 1 else N8 b
def Vq{b:List UInt8}(h:∀ c∈b,J2 c)(hn:b≠[])(h0:b.head? ≠ some 48):N8 b≠0:=by
 intro e
 have:=B4a h h0
 rw [e,K7] at this
 exact hn this.symm
def Form.den_ne{s:List UInt8}{neg:Bool}{a b:List UInt8}(f:Form s neg a b):Yu b≠0:=by
 unfold Yu;split
 ·decide
 ·rename_i h;exact Vq f.db h f.hb
def Form.txt{s:List UInt8}{neg:Bool}{a b:List UInt8}(f:Form s neg a b){q:Rat}(h1:q.num=Xc neg a)(h2:q.den=Yu b):s=K9 q:=by
 have l:O9 (N8 a)=a:=Ou f.da f.ne (f.ha.imp id fun h=>h.1)
 have g:(Xc neg a).natAbs=N8 a:=by unfold Xc;split<;>simp
 have c:(Xc neg a<0)↔neg=true:=by
  unfold Xc
  cases neg
  ·simp
  ·simp only [if_true]
   constructor
   ·intro _;trivial
   ·intro _
    have:N8 a≠0:=by
     rcases f.ha with h|h
     ·exact Vq f.da f.ne h
     ·exact absurd h.2.1 (by simp)
    omega
 have i:(Yu b=1)↔b=[]:=by
  unfold Yu
  split
  ·rename_i h;simp [h]
  ·rename_i h
   constructor
   ·intro e
    exfalso
    have j:=Ou f.db h (Or.inl f.hb)
    rw [e] at j
    apply f.b1
    rw [<- j];simp [O9,By,K7,dch]
   ·intro e;exact absurd e h
 rw [f.eq]
 unfold K9 Mz
 rw [h1,h2,g,l]
 by_cases d:b=[]
 ·rw [iP d,iP (i.2 d)]
  cases neg
  ·rw [iN (fun e=>Bool.noConfusion (c.1 e))];simp
  ·rw [iP (c.2 rfl)];simp
 ·rw [iN d,iN (fun e=>d (i.1 e))]
  have k:O9 (Yu b)=b:=by
   unfold Yu;rw [iN d];exact Ou f.db d (Or.inl f.hb)
  rw [k]
  cases neg
  ·rw [iN (fun e=>Bool.noConfusion (c.1 e))];simp
  ·rw [iP (c.2 rfl)];simp
def Form.of_txt{s:List UInt8}{neg:Bool}{a b:List UInt8}(f:Form s neg a b){q:Rat}(e:s=K9 q):q.num=Xc neg a/\q.den=Yu b:=by
 subst e
 obtain ⟨c,d,g⟩:=f.unique (Hq q)
 subst c d g
 constructor
 ·unfold Xc
  rw [Bb]
  by_cases h:q.num<0
  ·simp [h];omega
  ·simp [h];omega
 ·unfold Yu
  by_cases h:q.den=1
  ·simp [h]
  ·simp [h,Vt,Bb]
def IsNum(s:List UInt8):Prop:=∃ q,s=K9 q
def Form.isNum{s:List UInt8}{neg:Bool}{a b:List UInt8}(f:Form s neg a b):IsNum s↔Nat.gcd (N8 a) (Yu b)=1:=by
 have c:(Xc neg a).natAbs=N8 a:=by unfold Xc;split<;>simp
 constructor
 ·rintro ⟨q,e⟩
  have:=f.of_txt e
  have d:=q.reduced
  rw [this.1,this.2,c] at d
  exact d
 ·intro h
  exact ⟨⟨Xc neg a,Yu b,f.den_ne,by rw [c];exact h⟩,f.txt rfl rfl⟩
def IsNum.form{s:List UInt8}(h:IsNum s):∃ neg a b,Form s neg a b:=by
 obtain ⟨q,rfl⟩:=h
 exact ⟨_,_,_,Hq q⟩
def B77(s:List UInt8):Rat:=
 let neg:=s.head? == some 45
 let t:=if neg then s.drop 1 else s
 mkRat (Xc neg (t.takeWhile fun c=>decide (J2 c))) (Yu ((t.dropWhile fun c=>decide (J2 c)).drop 1))
def rv(s:List UInt8):Rat:=if K9 (B77 s)=s then B77 s else 0
def Hx(q:Rat):rv (K9 q)=q:=by
 have f:=Hq q
 have j:=f.head
 have g:∀ b:List UInt8,∀ c,(if b=[] then [] else 47::b:List UInt8).head? = some c->¬ J2 c:=by
  intro b c a
  split at a
  ·simp at a
  ·simp at a;subst a;decide
 have e:B77 (K9 q)=q:=by
  unfold B77
  simp only [<- j]
  generalize hb:(if q.den=1 then [] else O9 q.den)=b at f
  have k:(if decide (q.num<0)=true then (K9 q).drop 1 else K9 q)=O9 q.num.natAbs++(if b=[] then [] else 47::b):=by
   rw [f.eq]
   by_cases d:q.num<0<;>simp [d]
  rw [k,(Ft f.da (g b)).1,(Ft f.da (g b)).2]
  have i:=f.of_txt rfl
  have l:(if b=[] then [] else 47::b:List UInt8).drop 1=b:=by
   by_cases d:b=[]<;>simp [d]
  rw [l,<- i.1,<- i.2,Rat.mkRat_self]
 unfold rv
 rw [e,iP rfl]
def B25{s:List UInt8}(h:¬ IsNum s):rv s=0:=by
 unfold rv
 rw [iN (fun e=>h ⟨_,e.symm⟩)]
def Form.rv_num{s:List UInt8}{neg:Bool}{a b:List UInt8}(f:Form s neg a b)(h:IsNum s):(rv s).num=Xc neg a/\(rv s).den=Yu b:=by
 obtain ⟨q,rfl⟩:=h
 rw [Hx];exact f.of_txt rfl
