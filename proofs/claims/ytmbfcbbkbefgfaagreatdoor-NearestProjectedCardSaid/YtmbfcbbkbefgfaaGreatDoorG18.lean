/- A part. -/
import Derived.Test.YtmbfcbbkbefgfaaGreatDoorG16
import Derived.Test.YtmbfcbbkbefgfaaGreatDoorG17
open Go.Proofs.Tryz
set_option linter.all false
open Int renaming mul_le_mul_of_nonneg_right->aC,sign_eq_one_of_pos->aD,natAbs_natCast->aE,le_of_lt->aG,sign_eq_neg_one_of_neg->aH,gcd->aL,natAbs_of_nonneg->aN,mul_ne_zero->aO,natAbs_neg->aQ,toNat_natCast->aR,natCast_mul->aS,mul_one->aU,toNat_of_nonneg->aW,mul_comm->aY,gcd_dvd_right->aZ,natCast_ediv->bD,mul_le_mul_of_nonneg_left->bG,mul_lt_mul_of_pos_right->bK,tmod_eq_emod_of_nonneg->bM,natAbs_mul->bN,tdiv_eq_ediv_of_dvd->bV
open List renaming append_assoc->aI,length_append->aX,take_length->bC,eq_nil_of_length_eq_zero->bF,nil_append->bJ,exists_cons_of_ne_nil->bL,getElem?_cons_zero->bU
open Nat renaming pow_pos->aJ,pow_succ->aK,le_refl->aT,mul_le_mul_left->aV,strongRecOn->bH,min_eq_left->bI
open Rat renaming divInt->aF,num_divInt_den->aP,divInt_ofNat->bB
open _root_.Go renaming Addr->bO
open _root_.Go.Proofs.YtmbfcbbkbefgfaaGreatDoor renaming FCall->aM,Heap->bW
namespace Go.Proofs.YtmbfcbbkbefgfaaGreatDoor
set_option maxRecDepth 20000
open Go
section
variable {h g:bW} {K:VP} {A B:Option bO} {ac bc:Nat}
def C1w{P:Program}{t e:TypeId}{z:Value}{bytes:Nat}(s:SliceT P t e z 1 bytes){u v:Value}(hu:u.cells=#[u])(hv:v.cells=#[v]){K:VP}{h:bW}
 (x:∀ b,h b=none->K (.slice (some ⟨b,0,none⟩) 2 2) (h.put b (.cells #[u,v] e))):wpH P (Instr.buildSlice t 2 #[(0,u),(1,v)]) K h:=by
 refine Cg s (by omega) (cells:=#[u,v]) ?_ x
 have a:(F3 z.cells 2).size=2:=by simp [F3,s.cells]
 have:F3 z.cells 2=#[(F3 z.cells 2)[0]'(by omega),(F3 z.cells 2)[1]'(by omega)]:=by
  apply Array.ext
  ·simpa using a
  ·intro i d c
   match i with
   | 0=>rfl
   | 1=>rfl
   | i+2=>simp at c;omega
 rw [this]
 simp [Instr.fill,hu,hv]
def Ci{B:Int}(hB:0<B){xs:List Int}(d:Dig B xs){m:Nat}(hl:xs.length=m+1):val B xs<(xs.getD m 0+1)*B^m/\xs.getD m 0*B^m<=val B xs:=by
 have a:=G7 B xs m
 rw [show m+1=xs.length by omega,bC] at a
 have b:=L6 hB (d.take m)
 have f:=C7 hB (d.take m)
 rw [List.length_take,bI (by omega)] at b
 have c:(xs.getD m 0+1)*B^m=B^m*xs.getD m 0+B^m:=by grind
 have e:xs.getD m 0*B^m=B^m*xs.getD m 0:=aY _ _
 omega
def A2z{xs:List Int}{m:Nat}(hl:xs.length=m+1)(hn:Norm xs):xs.getD m 0≠0:=by
 intro a
 have e:=If (xs:=xs) (i:=m) (by omega)
 rw [<- hl,bC,a] at e
 apply hn
 rw [e];simp
def Vr{x y:Int}{an bn:Nat}(ma:Mg h A an x)(mb:Mg h B bn y)(hy:y≠0)(hl:an<=100000000)(hl2:bn<=100000000)
 (hK:∀ A1 m1 c1 A2 m2 c2 h',h.le h'->m1<=c1->m2<=c2->Mg h' A1 m1 (x/y)->Mg h' A2 m2 (x%y)->K (.tuple #[.slice A1 m1 c1,.slice A2 m2 c2]) h'):aM prog Ot #[.slice A an ac,.slice B bn bc] h K:=by
 have G:=ma.nonneg (by decide)
 have au:=mb.nonneg (by decide)
 have ay:=mb.len_zero (by decide)
 have O:=ma.lt (by decide)
 have a2:=mb.lt (by decide)
 refine B1f _ _ _ _ _ _ ?_
 unfold B69
 refine Vx ma mb (by omega) ⟨_,rfl,B6 (fun W=>?_) (fun W=>D9 (fun h2=>?_) (fun h2=>?_))⟩
 ·have M:x<y:=by
   by_cases f:x<y
   ·exact f
   ·rw [iN f] at W
    by_cases V:x>y
    ·rw [iP V] at W;omega
    ·rw [iN V] at W;omega
  rw [Int.ediv_eq_zero_of_lt G M,Int.emod_eq_of_lt G M] at hK
  obtain ⟨xs,rfl,sx,dx,nx,rfl⟩:=ma
  refine A6p Qb ?_
  intro b hb
  refine ⟨_,_,_,rfl,?_⟩
  have g:=Heap.le_put (h:=h) (b:=b) (.cells #[] C4) hb
  have aj:=SlI.mono g sx
  refine Pf Qb (Priv.nil _ _ _ _) (ys:=xs.map (Value.int .u32)) (by simp) aj (fun v hv=>?_) (by omega) (by omega) ?_
  ·obtain ⟨a,_,rfl⟩:=List.mem_map.1 hv;rfl
  ·intro A' c' h' g' hg Z
   rw [bJ] at Z
   have z:=Z.slV
   simp only [Nat.zero_add] at Z ⊢
   exact ⟨_,_,_,rfl,hK none 0 0 A' xs.length c' h' (B0 g (B0 hg Z.le)) (aT _) Z.2.1 Mag.zero ⟨xs,rfl,z,dx,nx,rfl⟩⟩
 ·obtain ⟨ys,rfl,sy,S,ny,rfl⟩:=mb
  have E:ys.length=1:=by omega
  obtain ⟨d,rfl⟩:∃ d,ys=[d]:=by
   cases ys with
   | nil=>simp at E
   | cons d r=>
    cases r with
    | nil=>exact ⟨d,rfl⟩
    | cons _ _=>simp at E
  rw [X4] at hy au hK
  have hd:=S d (by simp)
  refine sy.load rfl (by omega) (by simp) ?_
  show aM _ _ #[_,U32 d] _ _
  refine Nq ma ⟨by omega,hd.2⟩ hl ?_
  intro A' m c' h' g hm ax hM
  refine ⟨_,_,_,_,rfl,?_⟩
  refine Ba Qb rfl ?_
  intro b hb
  refine ⟨_,_,_,rfl,?_⟩
  have q:=Heap.le_put (h:=h') (b:=b) (.cells #[U32 (x%d)] C4) hb
  have hr:0<=x%d/\x%d<4294967296:=by
   have h3:=Int.emod_nonneg x (show d≠0 by omega)
   have h4:=Int.emod_lt_of_pos x (show 0<d by omega)
   have h5:=hd.2
   show _/\_<b32
   omega
  refine Z8 (xs:=[x%d]) (SlI.new h' b [x%d] C4 _) (Dig.one hr) (aT _) (by simp) ?_
  intro m2 w j
  rw [X4] at j
  exact ⟨_,_,_,rfl,hK _ _ _ _ _ _ _ (B0 g q) hm (by simpa using w) (hM.mono q) j⟩
 ·have aq:y<=x:=by
   by_cases f:x<y
   ·rw [iP f] at W;omega
   ·omega
  have az:bn<=an:=mb.len_le (by decide) (Int.lt_of_le_of_lt aq O)
  obtain ⟨xs,rfl,sx,dx,nx,rfl⟩:=ma
  obtain ⟨ys,rfl,sy,S,ny,rfl⟩:=mb
  obtain ⟨mm,hmm⟩:∃ mm,ys.length=mm+2:=⟨ys.length-2,by omega⟩
  have gt:=Cf S (mm+1)
  have a0:=A2z (m:=mm+1) hmm ny
  obtain ⟨ak,H⟩:=Ci (B:=b32) (by decide) S (m:=mm+1) hmm
  unfold A5e
  refine ⟨fun l h'=>∃ s:Nat,l=[U s]/\h'=h/\s<32/\ys.getD (mm+1) 0*2^s<4294967296,fun l _=>32-(iAt l 0).toNat,⟨0,rfl,rfl,by omega,by rw [Int.pow_zero,aU];exact gt.2⟩,?_⟩
  rintro si ag ⟨s,ah,rfl,z,al⟩
  obtain rfl:=sI1 ah
  have e1:B5 ((ys.length:Int)-1)=((mm+1:Nat):Int):=by rw [B7 (by omega) (by omega)];omega
  rw [e1]
  refine sy.load rfl (by omega) (by omega) ?_
  refine B6 (fun e=>absurd e (by omega)) (fun _=>?_)
  have c:0<(2:Int)^s:=Int.pow_pos (by decide)
  have aw:2^s<=ys.getD (mm+1) 0*2^s:=by
   have:=aC (show 1<=ys.getD (mm+1) 0 by omega) (aG c);omega
  have e2:F7 (ys.getD (((mm+1:Nat):Int)).toNat 0*2^(min ((s:Int)).toNat 32))=ys.getD (mm+1) 0*2^s:=by
   rw [aR,aR,bI (by omega),O4 (by omega) al]
  refine B6 (fun h3=>?_) (fun h3=>?_)
  ·rw [e2] at h3
   have L:s+1<32:=by
    by_cases f:s+1<32
    ·exact f
    ·have:s=31:=by omega
     subst this
     have:(2:Int)^31=2147483648:=by decide
     omega
   have e3:C0 ((s:Int)+1)=((s+1:Nat):Int):=by rw [C3 (by omega) (by omega)];omega
   rw [e3]
   refine ⟨⟨s+1,rfl,rfl,L,?_⟩,by simp only [iAt,bU];omega⟩
   rw [Int.pow_succ,<- Int.mul_assoc];omega
  ·rw [e2] at h3
   have ae:val b32 ys*2^s<b32^(mm+2):=by
    have Q:=Nm (Nat.le_of_lt z)
    have t1:ys.getD (mm+1) 0+1<=2^(32-s):=by
     by_cases f:ys.getD (mm+1) 0+1<=2^(32-s)
     ·exact f
     ·have:=aC (show (2:Int)^(32-s)<=ys.getD (mm+1) 0 by omega) (aG c)
      rw [aY,Q] at this;omega
    have t2:val b32 ys*2^s<(ys.getD (mm+1) 0+1)*b32^(mm+1)*2^s:=bK ak c
    have t3:(ys.getD (mm+1) 0+1)*b32^(mm+1)*2^s=(ys.getD (mm+1) 0+1)*2^s*b32^(mm+1):=by grind
    have t4:(ys.getD (mm+1) 0+1)*2^s*b32^(mm+1)<=4294967296*b32^(mm+1):=by
     apply aC _ (aG (D6 (by decide) _))
     rw [<- Q,aY (2^s)]
     exact aC t1 (aG c)
    rw [Int.pow_succ b32 (mm+1),aY (b32^(mm+1))]
    show _<(4294967296:Int)*_
    omega
   have a1:2147483648*b32^(mm+1)<=val b32 ys*2^s:=by
    have t1:ys.getD (mm+1) 0*b32^(mm+1)*2^s<=val b32 ys*2^s:=aC H (aG c)
    have t2:2147483648*b32^(mm+1)<=ys.getD (mm+1) 0*2^s*b32^(mm+1):=aC (by omega) (aG (D6 (by decide) _))
    have t3:ys.getD (mm+1) 0*2^s*b32^(mm+1)=ys.getD (mm+1) 0*b32^(mm+1)*2^s:=by grind
    omega
   refine Ky sy S z (by omega) ?_
   intro bv zv af J aa ao
   refine ⟨_,_,_,rfl,?_⟩
   rw [<- J]
   refine Z8 (Dt _ _ _ _ _) aa (aT _) (by omega) ?_
   intro n hn p
   refine ⟨_,_,_,rfl,?_⟩
   rw [ao] at p
   have ai:n=mm+2:=by
    have l1:=p.len_le (by decide) ae
    have l2:=p.lt (by decide)
    by_cases f:n=mm+2
    ·exact f
    ·have:=D0 (B:=b32) (by decide) (show n<=mm+1 by omega)
     have:=D6 (B:=b32) (by decide) (mm+1)
     omega
   subst ai
   obtain ⟨vs,D,sv,dv,nv,t⟩:=p
   have ap:4294967296<=2*vs.getD (mm+1) 0:=by
    obtain ⟨q1,q2⟩:=Ci (B:=b32) (by decide) dv (m:=mm+1) D.symm
    rw [t] at q1
    have:2147483648<vs.getD (mm+1) 0+1:=by
     by_cases f:2147483648<vs.getD (mm+1) 0+1
     ·exact f
     ·have:=aC (show vs.getD (mm+1) 0+1<=2147483648 by omega) (aG (D6 (B:=b32) (by decide) (mm+1)));omega
    omega
   have u:=W9 (k:=.u32) (e:=C4) af zv
   refine Ky (SlI.mono u sx) dx z (by omega) ?_
   intro bu R ad ar F C
   refine ⟨_,_,_,rfl,?_⟩
   obtain ⟨nq,hnq⟩:∃ nq,xs.length+1=nq+(mm+2):=⟨xs.length+1-(mm+2),by omega⟩
   have e4:B5 (B5 (B5 (((xs.length+1:Nat):Int)-((mm+2:Nat):Int))-1)+1)=(nq:Int):=by
    rw [B7 (n:=((xs.length+1:Nat):Int)-((mm+2:Nat):Int)) (by omega) (by omega),B7 (n:=_-(1:Int)) (by omega) (by omega),B7 (by omega) (by omega)];omega
   rw [e4]
   refine J6 Qb (by omega) (by omega) (by omega) ?_
   intro bq o
   rw [aR]
   refine ⟨_,_,_,rfl,?_⟩
   have T:bu≠bq:=by
    rintro rfl
    unfold blk at o
    rw [C2] at o;cases o
   have X:blk .u32 C4 ag bv zv bq=none:=by
    have:=o
    unfold blk at this ⊢
    rwa [B8 _ _ T.symm] at this
   refine B0z (us0:=R) (N:=xs.length+1) ad X T sv dv D.symm ap z t rfl F ar C hnq (by omega) (by omega) ?_ ?_
   ·have s1:=F4 b32 R (i:=nq) (by omega)
    have s2:=C7 (by decide) (F.take nq)
    have s3:val b32 R<b32^xs.length*2^s:=by
     rw [C];exact bK O c
    have s4:b32^(mm+1)<=val b32 ys:=by
     have:=aC (show 1<=ys.getD (mm+1) 0 by omega) (aG (D6 (B:=b32) (by decide) (mm+1)));omega
    have s5:b32^nq*(b32^(mm+1)*2^s)<=b32^nq*(val b32 ys*2^s):=bG (aC s4 (aG c)) (aG (D6 (by decide) nq))
    have s6:b32^nq*(b32^(mm+1)*2^s)=b32^xs.length*2^s:=by
     rw [<- Int.mul_assoc,<- Int.pow_add,show nq+(mm+1)=xs.length by omega]
    by_cases f:val b32 (R.drop nq)<val b32 ys*2^s
    ·exact f
    ·have:=bG (show val b32 ys*2^s<=val b32 (R.drop nq) by omega) (aG (D6 (B:=b32) (by decide) nq));omega
   ·intro A1 m1 c1 A2 m2 c2 h' g am w av j
    exact hK _ _ _ _ _ _ _ (B0 u g) am w av j
end
def A99(h:bW)(A:Option bO)(len:Nat):List Int:=(List.range len).map fun i=>
 match A with
 | some a=>(match h.cell? (a.add i) with|some (.int _ n)=>n|_=>0)
 | none=>0
def B3r(B:Int)(h:bW)(A:Option bO)(len:Nat):Nat:=(val B (A99 h A len)).toNat
def B52{k:IntKind}{h:bW}{A:Option bO}{xs:List Int}(s:SlI k h A xs):A99 h A xs.length=xs:=by
 apply List.ext_getElem
 ·simp [A99]
 ·intro i e c
  obtain ⟨a,d,b⟩:=SlV.at s (i:=i) (by simpa using c)
  subst d
  simp [A99,b]
def Az{k:IntKind}{B:Int}{h:bW}{A:Option bO}{len:Nat}{n:Int}(m:Mag k B h A len n):B3r B h A len=n.toNat:=by
 obtain ⟨a,rfl,s,_,_,rfl⟩:=m
 unfold B3r
 rw [B52 s]
def ZB(m:Nat)(z:Int):Prop:=z.natAbs<2^m
def ZB.mono{m n:Nat}{z:Int}(h:ZB m z)(hm:m<=n):ZB n z:=Nat.lt_of_lt_of_le h (Nat.pow_le_pow_right (by decide) hm)
def ZB.neg{m:Nat}{z:Int}(h:ZB m z):ZB m (-z):=by unfold ZB at *;rwa [aQ]
def ZB.add{m:Nat}{x y:Int}(hx:ZB m x)(hy:ZB m y):ZB (m+1) (x+y):=by
 unfold ZB at *;rw [aK]
 have:=Int.natAbs_add_le x y;omega
def ZB.sub{m:Nat}{x y:Int}(hx:ZB m x)(hy:ZB m y):ZB (m+1) (x-y):=by
 rw [Int.sub_eq_add_neg];exact hx.add hy.neg
def ZB.mul{m n:Nat}{x y:Int}(hx:ZB m x)(hy:ZB n y):ZB (m+n) (x*y):=by
 unfold ZB at *;rw [bN,Nat.pow_add]
 have b:x.natAbs*y.natAbs<=x.natAbs*2^n:=aV _ (Nat.le_of_lt hy)
 have a:x.natAbs*2^n<2^m*2^n:=Nat.mul_lt_mul_of_pos_right hx (aJ (by decide))
 omega
def ZB.le{m:Nat}{x y:Int}(hx:ZB m x)(h:y.natAbs<=x.natAbs):ZB m y:=Nat.lt_of_le_of_lt h hx
def ZB.one{m:Nat}(h:1<=m):ZB m 1:=ZB.mono (m:=1) (by unfold ZB;decide) h
def ZB.zero{m:Nat}:ZB m 0:=aJ (by decide)
def B3w{k:IntKind}{j:Nat}(hj:0<j){h:bW}{A:Option bO}{n m:Nat}{x:Int}(M:Mag k ((2:Int)^j) h A n x)(hx:x<2^m):n<=m/j+1:=by
 refine M.len_le ?_ ?_
 ·have:=D0 (B:=2) (by decide) hj;omega
 ·have e:((2:Int)^j)^(m/j+1)=2^(j*(m/j+1)):=by rw [Int.pow_mul]
  rw [e]
  have:m<=j*(m/j+1):=by
   have b:=Nat.div_add_mod m j
   have a:=Nat.mod_lt m hj
   rw [Nat.mul_add];omega
  have:=D0 (B:=2) (by decide) this
  omega
structure NI (h:bW) (s:Bool) (A:Option bO) (n c:Nat) (z:Int):Prop where
 mag:Mg h A n (z.natAbs:Int)
 sg:s=decide (z<0)
 cap:n<=c
section
variable {h h':bW} {K:VP} {A B:Option bO} {n c n' c':Nat} {s s':Bool} {x y z:Int} {m:Nat}
def NI.mono(hl:h.le h')(i:NI h s A n c z):NI h' s A n c z:=⟨i.mag.mono hl,i.sg,i.cap⟩
def NI.len(i:NI h s A n c z)(hz:ZB m z)(hm:m<=1000000000):n<=100000000:=by
 have:=B3w (j:=32) (by decide) i.mag (m:=m) (by unfold ZB at hz;have:((z.natAbs:Nat):Int)<((2^m:Nat):Int):=by omega
                                                simpa using this)
 omega
def NI.zero_iff(i:NI h s A n c z):n=0↔z=0:=by
 have:=i.mag.len_zero (by decide)
 omega
def NI.nil:NI h false A 0 0 0:=⟨Mag.zero,rfl,aT _⟩
def N9{neg:Bool}{x:Int}(M:Mg h A n x)(hc:n<=c)(hK:∀ s,NI h s A n c (if neg then -x else x)->K (.agg #[.bool s,.slice A n c]) h):aM prog S2 #[.bool neg,.slice A n c] h K:=by
 have a:=M.nonneg (by decide)
 have b:=M.len_zero (by decide)
 refine B68 _ _ _ _ ?_
 unfold C0q
 refine Br.of (fun e=>?_) (fun e=>?_)
 ·subst e
  refine hK _ ⟨?_,?_,hc⟩
  ·have:(((if true=true then -x else x).natAbs:Nat):Int)=x:=by simp;omega
   rw [this];exact M
  ·simp;omega
 ·subst e
  refine hK _ ⟨?_,?_,hc⟩
  ·have:(((if false=true then -x else x).natAbs:Nat):Int)=x:=by simp;omega
   rw [this];exact M
  ·simp;omega
def T9(hz: -9223372036854775808<=z/\z<=9223372036854775807)(hK:∀ s A n c h',h.le h'->NI h' s A n c z->K (.agg #[.bool s,.slice A n c]) h'):aM prog U4 #[I z] h K:=by
 refine A7s _ ?_
 unfold A9q
 refine ⟨fun l h'=>l=[U z.natAbs]/\h'=h,B6 (fun p=>⟨?_,rfl⟩) (fun p=>⟨?_,rfl⟩),?_⟩
 ·have:C0 (0-C0 z)=z.natAbs:=by rw [E6,E6];omega
  rw [this]
 ·have:C0 z=z.natAbs:=by rw [E6];omega
  rw [this]
 ·rintro u k ⟨g,rfl⟩
  obtain rfl:u=(z.natAbs:Int):=by simpa using g
  rw [Z5,Xd,O4 (n:=(z.natAbs:Int)/4294967296) (by omega) (by omega)]
  refine C1w Qb rfl rfl ?_
  intro b o
  refine ⟨_,_,_,rfl,?_⟩
  have a:Dig b32 [(z.natAbs:Int)%4294967296,(z.natAbs:Int)/4294967296]:=by
   intro d a
   simp only [List.mem_cons,List.not_mem_nil,or_false] at a
   show _/\_<(4294967296:Int)
   rcases a with rfl|rfl<;>omega
  refine Z8 (xs:=[(z.natAbs:Int)%4294967296,(z.natAbs:Int)/4294967296]) (SlI.new k b _ C4 _) a (aT _) (by simp) ?_
  intro m q e
  have j:val b32 [(z.natAbs:Int)%4294967296,(z.natAbs:Int)/4294967296]=z.natAbs:=by
   simp only [val]
   show _+(4294967296:Int)*(_+4294967296*0)=_
   omega
  rw [j] at e
  refine ⟨_,_,_,rfl,?_⟩
  refine N9 e (by simpa using q) ?_
  intro s i
  refine ⟨_,_,_,_,rfl,hK _ _ _ _ _ (Heap.le_put _ o) ?_⟩
  have:(if decide (z<0)=true then -(z.natAbs:Int) else (z.natAbs:Int))=z:=by
   by_cases f:z<0
   ·rw [iP (by simpa using f)];omega
   ·rw [iN (by simpa using f)];omega
  rw [this] at i
  exact i
def A3d(i:NI h s A n c z)(hK:K (I z.sign) h):aM prog A1e #[.agg #[.bool s,.slice A n c]] h K:=by
 have d:=i.zero_iff
 have a:=i.sg
 refine B95 _ _ _ _ ?_
 unfold C5b
 refine Br.of (fun e=>?_) (fun e=>?_)
 ·have b:z<0:=by rw [a] at e;simpa using e
  rw [aH b] at hK;exact hK
 ·have b:¬ z<0:=by rw [a] at e;simpa using e
  refine D9 (fun e=>?_) (fun e=>?_)
  ·have:z=0:=by omega
   subst this;exact hK
  ·rw [aD (by omega)] at hK;exact hK
def A0q(i:NI h s A n c z)(hK:∀ s,NI h s A n c (-z)->K (.agg #[.bool s,.slice A n c]) h):aM prog A4f #[.agg #[.bool s,.slice A n c]] h K:=by
 refine C3c _ _ _ _ ?_
 unfold C7u
 refine N9 i.mag i.cap ?_
 intro d b
 refine ⟨_,_,_,_,rfl,hK _ ?_⟩
 have:(if (!s)=true then -(z.natAbs:Int) else (z.natAbs:Int))= -z:=by
  rw [i.sg]
  by_cases a:z<0
  ·rw [iN (by simpa using a)];omega
  ·rw [iP (by simpa using a)];omega
 rw [this] at b;exact b
def A9d(ia:NI h s A n c x)(ib:NI h s' B n' c' y)(hx:ZB m x)(hy:ZB m y)(hm:m<=1000000000)(hK:∀ s A n c h',h.le h'->NI h' s A n c (x+y)->K (.agg #[.bool s,.slice A n c]) h'):aM prog A91 #[.agg #[.bool s,.slice A n c],.agg #[.bool s',.slice B n' c']] h K:=by
 have C:=ia.len hx hm
 have w:=ib.len hy hm
 refine C3f _ _ _ _ _ _ _ _ ?_
 unfold C7x
 have g:=ia.sg
 have b:=ib.sg
 refine Br.of (fun e=>?_) (fun e=>?_)
 ·have k:s=s':=by simpa using e
  refine Wc ia.mag ib.mag C w ?_
  intro A' u c1 l a i q
  refine ⟨_,_,_,rfl,a,?_⟩
  refine N9 q i ?_
  intro z o
  refine ⟨_,_,_,_,rfl,B4 _,hK _ _ _ _ _ a ?_⟩
  have:(if s=true then -((x.natAbs:Int)+y.natAbs) else (x.natAbs:Int)+y.natAbs)=x+y:=by
   rw [k] at g
   by_cases f:x<0
   ·have:s=true:=by rw [k,g];simpa using f
    rw [iP this]
    have:y<0:=by rw [b] at g;simpa [f] using g
    omega
   ·have:¬ s=true:=by rw [k,g];simpa using f
    rw [iN this]
    have:¬ y<0:=by rw [b] at g;simpa [f] using g
    omega
  rw [this] at o;exact o
 ·have k:s≠s':=by simpa using e
  refine Vx ia.mag ib.mag (by omega) ⟨_,rfl,B6 (fun l=>?_) (fun l=>?_)⟩
  ·have p:(y.natAbs:Int)<=x.natAbs:=by
    by_cases t:(x.natAbs:Int)<y.natAbs
    ·rw [iP t] at l;omega
    ·omega
   refine Uc ia.mag ib.mag p C ?_
   intro A' u c1 l a i q
   refine ⟨_,_,_,rfl,a,?_⟩
   refine N9 q i ?_
   intro z o
   refine ⟨_,_,_,_,rfl,B4 _,hK _ _ _ _ _ a ?_⟩
   have:(if s=true then -((x.natAbs:Int)-y.natAbs) else (x.natAbs:Int)-y.natAbs)=x+y:=by
    by_cases f:x<0
    ·have d:s=true:=by rw [g];simpa using f
     rw [iP d]
     have:¬ y<0:=by intro j;apply k;rw [g,b];simp [f,j]
     omega
    ·have d:¬ s=true:=by rw [g];simpa using f
     rw [iN d]
     have:y<0:=by
      by_cases j:y<0
      ·exact j
      ·exact absurd (by rw [g,b];simp [f,j]) k
     omega
   rw [this] at o;exact o
  ·have p:(x.natAbs:Int)<=y.natAbs:=by
    by_cases t:(x.natAbs:Int)<y.natAbs
    ·omega
    ·rw [iN t] at l
     by_cases r:(x.natAbs:Int)>y.natAbs
     ·rw [iP r] at l;omega
     ·rw [iN r] at l;omega
   refine Uc ib.mag ia.mag p w ?_
   intro A' u c1 l a i q
   refine ⟨_,_,_,rfl,a,?_⟩
   refine N9 q i ?_
   intro z o
   refine ⟨_,_,_,_,rfl,B4 _,hK _ _ _ _ _ a ?_⟩
   have:(if s'=true then -((y.natAbs:Int)-x.natAbs) else (y.natAbs:Int)-x.natAbs)=x+y:=by
    by_cases f:y<0
    ·have d:s'=true:=by rw [b];simpa using f
     rw [iP d]
     have:¬ x<0:=by intro j;apply k;rw [g,b];simp [f,j]
     omega
    ·have d:¬ s'=true:=by rw [b];simpa using f
     rw [iN d]
     have:x<0:=by
      by_cases j:x<0
      ·exact j
      ·exact absurd (by rw [g,b];simp [f,j]) k
     omega
   rw [this] at o;exact o
def A3c(x y:Int)(p:Nat)(hs:s=decide (x<0))(hs':s'=decide (y<0)):(if (!(s==s'))=true then -(p:Int) else (p:Int))=x.sign*y.sign*p\/x=0\/y=0:=by
 by_cases d:x=0
 ·right;left;exact d
 by_cases c:y=0
 ·right;right;exact c
 left
 by_cases b:x<0<;>by_cases a:y<0
 ·rw [aH b,aH a,iN (by rw [hs,hs'];simp [b,a])];omega
 ·rw [aH b,aD (by omega),iP (by rw [hs,hs'];simp [b,a])];omega
 ·rw [aD (by omega),aH a,iP (by rw [hs,hs'];simp [b,a])];omega
 ·rw [aD (by omega),aD (by omega),iN (by rw [hs,hs'];simp [b,a])];omega
def B00(x y:Int):x.tdiv y=x.sign*y.sign*((x.natAbs/y.natAbs:Nat):Int):=by
 have key:∀ a b:Nat,(a:Int).tdiv b=(a:Int).sign*(b:Int).sign*((a/b:Nat):Int):=by
  intro a b
  rw [<- Int.ofNat_tdiv]
  by_cases d:a=0
  ·subst d;simp
  by_cases c:b=0
  ·subst c;simp
  rw [aD (by omega),aD (by omega),Int.one_mul,Int.one_mul]
 obtain ⟨a,rfl|rfl⟩:=Int.eq_nat_or_neg x<;>obtain ⟨b,rfl|rfl⟩:=Int.eq_nat_or_neg y<;>simp only [Int.neg_tdiv,Int.tdiv_neg,Int.sign_neg,aQ,aE,key]<;>grind
def Di{m':Nat}(ia:NI h s A n c x)(ib:NI h s' B n' c' y)(hx:ZB m x)(hy:ZB m' y)(hm:m<=1000000000)(hm':m'<=1000000000)(hK:∀ s A n c h',h.le h'->NI h' s A n c (x*y)->K (.agg #[.bool s,.slice A n c]) h'):aM prog Lc #[.agg #[.bool s,.slice A n c],.agg #[.bool s',.slice B n' c']] h K:=by
 refine C3d _ _ _ _ _ _ _ _ ?_
 unfold C7v
 refine Ut ia.mag ib.mag (ia.len hx hm) (ib.len hy hm') ?_
 intro A' j c1 k a b f
 refine ⟨_,_,_,rfl,a,?_⟩
 refine N9 f b ?_
 intro l d
 refine ⟨_,_,_,_,rfl,B4 _,hK _ _ _ _ _ a ?_⟩
 have:(if (!(s==s'))=true then -((x.natAbs:Int)*y.natAbs) else (x.natAbs:Int)*y.natAbs)=x*y:=by
  rcases A3c x y (x.natAbs*y.natAbs) ia.sg ib.sg with e|e|e
  ·rw [aS] at e
   rw [e]
   have g:=Int.sign_mul_natAbs x
   have i:=Int.sign_mul_natAbs y
   have:x.sign*y.sign*((x.natAbs:Int)*y.natAbs)=(x.sign*x.natAbs)*(y.sign*y.natAbs):=by grind
   rw [this,g,i]
  ·subst e;simp
  ·subst e;simp
 rw [this] at d;exact d
def Ul(ia:NI h s A n c x)(ib:NI h s' B n' c' y)(hy0:y≠0)(hx:ZB m x)(hy:ZB m y)(hm:m<=1000000000)(hK:∀ s A n c s' B n' c' h',h.le h'->NI h' s A n c (x.tdiv y)->NI h' s' B n' c' (x.tmod y)->K (.tuple #[.agg #[.bool s,.slice A n c],.agg #[.bool s',.slice B n' c']]) h'):aM prog Oo #[.agg #[.bool s,.slice A n c],.agg #[.bool s',.slice B n' c']] h K:=by
 refine B1d _ _ _ _ _ _ _ _ ?_
 unfold B65
 refine Vr ia.mag ib.mag (by omega) (ia.len hx hm) (ib.len hy hm) ?_
 intro A1 o c1 A2 p c2 q b a d M1 M2
 refine ⟨_,_,_,_,_,_,rfl,?_⟩
 refine N9 M1 a ?_
 intro t i
 refine ⟨_,_,_,_,rfl,B4 _,?_⟩
 refine N9 M2 d ?_
 intro r g
 refine ⟨_,_,_,_,rfl,B4 _,hK _ _ _ _ _ _ _ _ _ b ?_ ?_⟩
 ·have:(if (!(s==s'))=true then -((x.natAbs:Int)/y.natAbs) else (x.natAbs:Int)/y.natAbs)=x.tdiv y:=by
   rcases A3c x y (x.natAbs/y.natAbs) ia.sg ib.sg with e|e|e
   ·rw [bD] at e
    rw [e,B00,bD]
   ·subst e;simp
   ·exact absurd e hy0
  rw [this] at i;exact i
 ·have:(if s=true then -((x.natAbs:Int)%y.natAbs) else (x.natAbs:Int)%y.natAbs)=x.tmod y:=by
   rw [ia.sg]
   by_cases f:x<0
   ·rw [iP (by simpa using f)]
    obtain ⟨k,rfl⟩:∃ k:Nat,x= -(k:Int):=⟨x.natAbs,by omega⟩
    rw [Int.neg_tmod,aQ,aE]
    congr 1
    rw [<- bM (by omega)]
    by_cases l:y<0
    ·obtain ⟨j,rfl⟩:∃ j:Nat,y= -(j:Int):=⟨y.natAbs,by omega⟩
     rw [Int.tmod_neg,aQ,aE]
    ·rw [aN (by omega)]
   ·rw [iN (by simpa using f)]
    rw [aN (by omega),<- bM (by omega)]
    by_cases l:y<0
    ·obtain ⟨j,rfl⟩:∃ j:Nat,y= -(j:Int):=⟨y.natAbs,by omega⟩
     rw [Int.tmod_neg,aQ,aE]
    ·rw [aN (by omega)]
  rw [this] at g;exact g
end
def O3(n:Nat):Nat:=if n=0 then 0 else Nat.log2 n+1
def A4p:O3 0=0:=rfl
def B53{n:Nat}(h:n≠0):O3 n=O3 (n/2)+1:=by
 unfold O3
 rw [iN h]
 by_cases a:n/2=0
 ·have:n=1:=by omega
  subst this;rfl
 ·rw [iN a,Nat.log2_def n,iP (by omega)]
def Fj{n:Nat}(h:n≠0):2^(O3 n-1)<=n/\n<2^O3 n:=by
 unfold O3
 rw [iN h,Nat.add_sub_cancel]
 exact ⟨Nat.log2_self_le h,Nat.lt_log2_self⟩
def A7d{n k:Nat}(h1:2^k<=n)(h2:n<2^(k+1)):O3 n=k+1:=by
 have c:n≠0:=by have:=aJ (n:=k) (show 0<2 by decide);omega
 unfold O3
 rw [iN c]
 have a:=(Nat.le_log2 c).2 h1
 have b:=(Nat.log2_lt c).2 h2
 omega
def Zc{l t j:Nat}(hl:l<2^j)(ht:t≠0):O3 (l+2^j*t)=j+O3 t:=by
 obtain ⟨a,b⟩:=Fj ht
 have c:O3 t=O3 t-1+1:=by unfold O3;rw [iN ht];omega
 have d:0<2^j:=aJ (by decide)
 rw [c,<- Nat.add_assoc]
 apply A7d
 ·rw [Nat.pow_add]
  have:=aV (2^j) a
  omega
 ·rw [Nat.add_assoc,<- c,Nat.pow_add]
  have:=aV (2^j) (show t+1<=2^O3 t by omega)
  rw [Nat.mul_add] at this;omega
def Jf{n k:Nat}(h:n<2^k):O3 n<=k:=by
 by_cases a:n=0
 ·subst a;rw [A4p];omega
 ·unfold O3;rw [iN a];have:=(Nat.log2_lt a).2 h;omega
def A9a{n:Nat}:O3 n=1↔n=1:=by
 constructor
 ·intro h
  by_cases a:n=0
  ·subst a;cases h
  ·have:=Fj a
   rw [h] at this;simp at this;omega
 ·rintro rfl;rfl
def A7e{n:Nat}:1<O3 n↔1<n:=by
 by_cases a:n=0
 ·subst a;simp [O3]
 by_cases b:n=1
 ·subst b;decide
 ·have c:O3 n≠0:=by unfold O3;rw [iN a];omega
  have d:O3 n≠1:=fun e=>b (A9a.1 e)
  omega
section
variable {h h':bW} {K:VP} {A B:Option bO} {n c n' c':Nat} {s s':Bool} {x y z:Int} {m:Nat}
def B80(ia:NI h s A n c x)(ib:NI h s' B n' c' y)(hx:ZB m x)(hy:ZB m y)(hm:m<=1000000000)(hK:∀ s A n c h',h.le h'->NI h' s A n c (aL x y)->K (.agg #[.bool s,.slice A n c]) h'):aM prog B4f #[.agg #[.bool s,.slice A n c],.agg #[.bool s',.slice B n' c']] h K:=by
 refine C3e _ _ _ _ _ _ _ _ ?_
 unfold C7w
 refine ⟨fun l b=>∃ (A B:Option bO) (n c n' c' X Y:Nat),l=[.slice A n c,.slice B n' c']/\h.le b/\Mg b A n X/\Mg b B n' Y/\n<=c/\n'<=c'/\Nat.gcd X Y=aL x y/\n<=100000000/\n'<=100000000,fun l b=>match l with|[_,.slice A n _]=>B3r b32 b A n|_=>0,⟨_,_,_,_,_,_,_,_,rfl,B4 h,ia.mag,ib.mag,ia.cap,ib.cap,rfl,ia.len hx hm,ib.len hy hm⟩,?_⟩
 rintro A1 G c1 B1 t c2 b ⟨A1',B1',i,o,f,p,X,Y,F,e,M1,M2,E,z,k,w,q⟩
 obtain ⟨⟨rfl,rfl,rfl⟩,rfl,rfl,rfl⟩:(A1=A1'/\G=i/\c1=o)/\B1=B1'/\t=f/\c2=p:=by simpa using F
 have J:=M2.len_zero (by decide)
 refine B6 (fun C=>?_) (fun C=>?_)
 ·have g:Y≠0:=by omega
  refine Vr M1 M2 (by omega) w q ?_
  intro A3 M L A4 O H h' a Q u M3 M4
  have d:((X:Int)%(Y:Int))=((X%Y:Nat):Int):=by omega
  rw [d] at M4
  have D:=Nat.mod_lt X (Nat.pos_of_ne_zero g)
  refine ⟨_,_,_,_,_,_,rfl,⟨_,_,_,_,_,_,Y,X%Y,rfl,B0 e a,M2.mono a,M4,z,u,?_,q,?_⟩,?_⟩
  ·rw [<- k,Nat.gcd_comm X Y,Nat.gcd_rec Y X,Nat.gcd_comm]
  ·have:=M4.len_le (by decide) (j:=t) (Int.lt_trans (show ((X%Y:Nat):Int)<(Y:Int) by omega) (M2.lt (by decide)))
   omega
  ·simp only [Az M4,Az M2];omega
 ·have g:Y=0:=by omega
  subst g
  rw [Nat.gcd_zero_right] at k
  refine N9 M1 E ?_
  intro N r
  refine ⟨_,_,_,_,rfl,hK _ _ _ _ _ e ?_⟩
  rw [k] at r
  exact r
def A4q(i:NI h s A n c z)(hz:ZB m z)(hm:m<=1000000000)(hK:K (I (O3 z.natAbs)) h):aM prog A1h #[.agg #[.bool s,.slice A n c]] h K:=by
 have S:=i.len hz hm
 have E:=i.zero_iff
 refine B9f _ _ _ _ ?_
 unfold C5l
 refine D9 (fun e=>?_) (fun e=>?_)
 ·have:z=0:=E.1 (by omega)
  subst this;exact hK
 ·obtain ⟨a,o,B,j,u,C⟩:=i.mag
  obtain ⟨k,hk⟩:∃ k,a.length=k+1:=⟨a.length-1,by omega⟩
  have y:B5 ((n:Int)-1)=(k:Int):=by rw [B7 (by omega) (by omega)];omega
  have L:B5 (32*(k:Int))=((32*k:Nat):Int):=by rw [B7 (by omega) (by omega)];omega
  rw [y,L]
  refine B.load o (by omega) (by omega) ?_
  rw [aR]
  have p:=Cf j k
  have Q:=A2z hk u
  have D:32*k+O3 (a.getD k 0).toNat=O3 z.natAbs:=by
   have q:=G7 b32 a k
   rw [<- hk,bC] at q
   have M:=L6 (by decide) (j.take k)
   have w:=C7 (by decide) (j.take k)
   rw [List.length_take,bI (by omega)] at M
   have x:b32^k=((2^(32*k):Nat):Int):=by
    rw [show b32=(2:Int)^32 by decide,<- Int.pow_mul];simp
   have f:z.natAbs=(val b32 (a.take k)).toNat+2^(32*k)*(a.getD k 0).toNat:=by
    have:((z.natAbs:Nat):Int)=(((val b32 (a.take k)).toNat+2^(32*k)*(a.getD k 0).toNat:Nat):Int):=by
     rw [<- C,q,Int.natCast_add,aS,<- x,aW w,aW p.1]
    omega
   rw [f,Zc (by omega) (by omega)]
  refine ⟨fun l r=>∃ (t k:Nat),l=[I k,U32 t]/\r=h/\k+O3 t=O3 z.natAbs/\t<4294967296,fun l _=>(iAt l 1).toNat,⟨(a.getD k 0).toNat,32*k,?_,rfl,D,by omega⟩,?_⟩
  ·rw [aW p.1]
  ·rintro F O r ⟨t,d,g,rfl,b,H⟩
   obtain ⟨rfl,rfl⟩:F=(d:Int)/\O=(t:Int):=by simpa using g
   have N:O3 z.natAbs<=m:=Jf hz
   refine B6 (fun G=>?_) (fun G=>?_)
   ·have f:Int.fdiv (t:Int) (2^(min ((1:Int)).toNat 32))=((t/2:Nat):Int):=by
     rw [show (2:Int)^(min ((1:Int)).toNat 32)=2 by decide,Int.fdiv_eq_ediv_of_nonneg _ (by decide)];omega
    have R:=B53 (n:=t) (by omega)
    have J:B5 ((d:Int)+1)=((d+1:Nat):Int):=by rw [B7 (by omega) (by omega)];omega
    rw [f,J]
    exact ⟨⟨t/2,d+1,rfl,rfl,by omega,by omega⟩,by simp only [iAt,bU,List.getElem?_cons_succ];omega⟩
   ·have:t=0:=by omega
    subst this
    rw [A4p,Nat.add_zero] at b
    rw [b];exact hK
end
structure QV where
 s:Bool
 A:Option bO
 n:Nat
 c:Nat
 s2:Bool
 A2:Option bO
 n2:Nat
 c2:Nat
abbrev QV.v(w:QV):Value:=.agg #[.bool w.s,.slice w.A w.n w.c,.bool w.s2,.slice w.A2 w.n2 w.c2]
structure NQ (h:bW) (w:QV) (q:Rat):Prop where
 num:NI h w.s w.A w.n w.c q.num
 den:NI h w.s2 w.A2 w.n2 w.c2 (if q.den=1 then 0 else (q.den:Int))
structure Sz (m:Nat) (q:Rat):Prop where
 num:ZB m q.num
 den:ZB m q.den
def Sz.mono{m n:Nat}{q:Rat}(h:Sz m q)(hm:m<=n):Sz n q:=⟨h.num.mono hm,h.den.mono hm⟩
def Sz.neg{m:Nat}{q:Rat}(h:Sz m q):Sz m (-q):=⟨by rw [Rat.neg_num];exact h.num.neg,by rw [Rat.neg_den];exact h.den⟩
def Vs{a b:Int}(hb:b≠0):(aF a b).num.natAbs<=a.natAbs/\(aF a b).den<=b.natAbs:=by
 have d:0<aL b a:=Int.gcd_pos_of_ne_zero_left a hb
 rw [Rat.num_divInt,Rat.den_divInt,iN hb]
 constructor
 ·have c:(aL b a:Int)∣b.sign*a:=Int.dvd_mul_of_dvd_right (aZ b a)
  rw [Int.natAbs_ediv_of_dvd c,bN,aE]
  have:b.sign.natAbs=1:=by
   rw [Int.natAbs_sign];simp [hb]
  rw [this,Nat.one_mul]
  exact Nat.div_le_self _ _
 ·exact Nat.div_le_self _ _
def Fo{m:Nat}{a b:Int}(hb:b≠0)(h1:ZB m a)(h2:ZB m b):Sz m (aF a b):=by
 have:=Vs (a:=a) hb
 exact ⟨h1.le this.1,h2.le (by simpa using this.2)⟩
def Fl(p q:Rat):p+q=aF (p.num*q.den+q.num*p.den) (p.den*q.den):=by
 rw [Rat.add_def',<- aS,bB]
def Kg(p q:Rat):p*q=aF (p.num*q.num) (p.den*q.den):=by
 rw [Rat.mul_def',<- aS,bB]
def Kp(z:Int):aF z 1=(z:Rat):=by
 show aF z ((1:Nat):Int)=_
 rw [bB]
 apply Rat.ext
 ·rw [Rat.num_mkRat];simp
 ·rw [Rat.den_mkRat];simp
def den_ne(q:Rat):(q.den:Int)≠0:=by have:=q.den_nz;omega
def Yx(p q:Rat):p/q=aF (p.num*q.den) (p.den*q.num):=by
 rw [Rat.div_def,<- aP p,<- aP q,Rat.inv_divInt,Rat.divInt_mul_divInt]
 rw [aP,aP]
def Sz.add{m n:Nat}{p q:Rat}(hp:Sz m p)(hq:Sz n q):Sz (m+n+1) (p+q):=by
 rw [Fl]
 refine Fo (aO (den_ne p) (den_ne q)) ?_ ((hp.den.mul hq.den).mono (by omega))
 exact (hp.num.mul hq.den).add ((hq.num.mul hp.den).mono (by omega))
def Sz.sub{m n:Nat}{p q:Rat}(hp:Sz m p)(hq:Sz n q):Sz (m+n+1) (p-q):=by
 rw [Rat.sub_eq_add_neg];exact hp.add hq.neg
def Sz.mul{m n:Nat}{p q:Rat}(hp:Sz m p)(hq:Sz n q):Sz (m+n) (p*q):=by
 rw [Kg]
 exact Fo (aO (den_ne p) (den_ne q)) (hp.num.mul hq.num) (hp.den.mul hq.den)
def Sz.zero{m:Nat}(hm:1<=m):Sz m 0:=⟨ZB.zero,ZB.one hm⟩
def Sz.inv{m:Nat}{q:Rat}(h:Sz m q)(hm:1<=m):Sz m q⁻¹:=by
 constructor
 ·rw [Rat.num_inv]
  refine h.den.le ?_
  rw [bN]
  by_cases a:q.num=0
  ·rw [a];simp
  ·rw [Int.natAbs_sign];simp [a]
 ·rw [Rat.den_inv]
  split
  ·exact ZB.one hm
  ·have:=h.num
   unfold ZB at *
   simpa using this
def Sz.div{m n:Nat}{p q:Rat}(hp:Sz m p)(hq:Sz n q)(hn:1<=n):Sz (m+n) (p/q):=by
 rw [Rat.div_def];exact hp.mul (hq.inv hn)
def Sz.int{m:Nat}{z:Int}(h:ZB m z)(hm:1<=m):Sz m (z:Rat):=⟨by simpa using h,by simpa using ZB.one hm⟩
section
variable {h h':bW} {K:VP} {A B:Option bO} {n c n' c':Nat} {s s':Bool} {x y z:Int} {m:Nat} {p q:Rat} {a b w:QV}
def NQ.mono(hl:h.le h')(i:NQ h w q):NQ h' w q:=⟨i.num.mono hl,i.den.mono hl⟩
def NQ.whole(i:NI h s A n c z){B:Option bO}:NQ h ⟨s,A,n,c,false,B,0,0⟩ (z:Rat):=⟨by simpa using i,by simpa using NI.nil⟩
def NQ.den_zero(i:NQ h w q):w.n2=0↔q.den=1:=by
 rw [i.den.zero_iff]
 have:=q.den_nz
 split<;>omega
def NQ.zero:NQ h ⟨false,none,0,0,false,none,0,0⟩ 0:=⟨NI.nil,NI.nil⟩
def At(i:NQ h w q)(hK:∀ s A n c h',h.le h'->NI h' s A n c q.den->K (.agg #[.bool s,.slice A n c]) h'):aM prog Ed #[w.v] h K:=by
 refine B9e _ _ _ _ _ _ _ _ ?_
 unfold C5k
 have a:=i.den_zero
 refine D9 (fun e=>?_) (fun e=>?_)
 ·refine T9 (by decide) ?_
  intro s A n c j g f
  refine ⟨_,_,_,_,rfl,hK _ _ _ _ _ g ?_⟩
  rw [a.1 (by omega)];exact f
 ·have b:=i.den
  rw [iN (fun d=>e (by have:=a.2 d;omega))] at b
  exact hK _ _ _ _ _ (B4 h) b
def Ez(ix:NI h s A n c x)(iy:NI h s' B n' c' y)(hy0:y≠0)(hx:ZB m x)(hy:ZB m y)(hm:m<=1000000000)(hK:∀ w h',h.le h'->NQ h' w (aF x y)->K w.v h'):aM prog Iu #[.agg #[.bool s,.slice A n c],.agg #[.bool s',.slice B n' c']] h K:=by
 refine B9d _ _ _ _ _ _ _ _ ?_
 unfold C5j
 refine ⟨fun l k=>∃ s A n c s' B n' c' d f,l=[.bool s,.slice A n c,.bool s',.slice B n' c']/\h.le k/\NI k s A n c d/\NI k s' B n' c' f/\0<f/\aF d f=aF x y/\ZB m d/\ZB m f,Br.of (fun e=>?_) (fun e=>?_),?_⟩
 ·have ak:y<0:=by have:=iy.sg;rw [e] at this;simpa using this.symm
  refine A0q ix ?_
  intro s1 t
  refine ⟨_,_,_,_,rfl,B4 h,?_⟩
  refine A0q iy ?_
  intro s2 z
  exact ⟨_,_,_,_,rfl,B4 h,_,_,_,_,_,_,_,_,-x,-y,rfl,B4 h,t,z,by omega,Rat.neg_divInt_neg x y,hx.neg,hy.neg⟩
 ·have j:0<y:=by have:=iy.sg;rw [e] at this;have:¬ y<0:=by simpa using this.symm
                 omega
  exact ⟨_,_,_,_,_,_,_,_,x,y,rfl,B4 h,ix,iy,j,rfl,hx,hy⟩
 rintro s1 A1 n1 c1 s2 A2 n2 c2 al ⟨ag,A1',W,ac,V,A2',S,af,d,f,hl,D,t,z,j,hq,u,o⟩
 obtain ⟨rfl,⟨rfl,rfl,rfl⟩,rfl,rfl,rfl,rfl⟩:s1=ag/\(A1=A1'/\n1=W/\c1=ac)/\s2=V/\A2=A2'/\n2=S/\c2=af:=by simpa using hl
 refine B80 t z u o hm ?_
 intro s3 A3 n3 c3 h3 r G
 refine ⟨_,_,_,_,rfl,?_⟩
 rw [<- hq] at hK
 generalize hqq:aF d f=q at *
 have g:q.num=d/(aL d f:Int):=by
  rw [<- hqq,Rat.num_divInt,aD j,Int.one_mul,Int.gcd_comm]
 have i:(q.den:Int)=f/(aL d f:Int):=by
  rw [<- hqq,Rat.den_divInt,iN (by omega),Int.gcd_comm,bD,aN (by omega)]
 have an:0<aL d f:=Int.gcd_pos_of_ne_zero_right d (by omega)
 have p:ZB m (aL d f:Int):=by
  refine o.le ?_
  rw [aE]
  exact Nat.le_of_dvd (by omega) (by have:=aZ d f;exact Int.ofNat_dvd_left.1 this)
 refine ⟨fun l k=>∃ s A n c s' B n' c',l=[.bool s,.slice A n c,.bool s',.slice B n' c']/\h.le k/\NI k s A n c q.num/\NI k s' B n' c' q.den,?_,?_⟩
 ·refine A4q G p hm ⟨_,rfl,?_⟩
  rw [aE]
  refine B6 (fun e=>?_) (fun e=>?_)
  ·refine Ul (t.mono r) G (by omega) u p hm ?_
   intro Q A4 n4 T s5 A5 n5 c5 h4 N E _
   refine ⟨_,_,_,_,_,_,_,_,rfl,?_⟩
   refine Ul ((z.mono r).mono N) (G.mono N) (by omega) o p hm ?_
   intro s6 A6 n6 c6 s7 A7 n7 c7 h5 l5 F _
   have L:d.tdiv (aL d f:Int)=q.num:=by rw [g,bV (Int.gcd_dvd_left d f)]
   have e2:f.tdiv (aL d f:Int)=q.den:=by rw [i,bV (aZ d f)]
   rw [L] at E
   rw [e2] at F
   exact ⟨_,_,_,_,_,_,_,_,rfl,_,_,_,_,_,_,_,_,rfl,B0 D (B0 r (B0 N l5)),E.mono l5,F⟩
  ·have hg:aL d f=1:=by
    have:¬ 1<O3 (aL d f):=by omega
    rw [A7e] at this;omega
   rw [hg] at g i
   simp at g i
   exact ⟨_,_,_,_,_,_,_,_,rfl,B0 D r,by rw [g];exact t.mono r,by rw [i];exact z.mono r⟩
 rintro Q A4 n4 T s5 A5 n5 c5 O ⟨ad,A4',J,M,ah,A5',aj,ai,R,C,E,i5⟩
 obtain ⟨rfl,⟨rfl,rfl,rfl⟩,rfl,rfl,rfl,rfl⟩:Q=ad/\(A4=A4'/\n4=J/\T=M)/\s5=ah/\A5=A5'/\n5=aj/\c5=ai:=by simpa using R
 have H:ZB m (q.den:Int):=by
  refine o.le ?_
  have:=(Vs (a:=d) (b:=f) (by omega)).2
  rw [hqq] at this
  simpa using this
 refine ⟨fun l k=>∃ s' B n' c',l=[.bool s',.slice B n' c']/\k=O/\NI k s' B n' c' (if q.den=1 then 0 else (q.den:Int)),?_,?_⟩
 ·refine A4q i5 H hm ⟨_,rfl,?_⟩
  rw [aE]
  refine D9 (fun e=>?_) (fun e=>?_)
  ·have:q.den=1:=A9a.1 (by omega)
   exact ⟨_,_,_,_,rfl,rfl,by rw [iP this];exact NI.nil⟩
  ·have:¬ q.den=1:=fun L=>e (by rw [L];rfl)
   exact ⟨_,_,_,_,rfl,rfl,by rw [iN this];exact i5⟩
 rintro s6 A6 n6 c6 am ⟨ae,A6',aa,X,Z,rfl,F⟩
 obtain ⟨rfl,rfl,rfl,rfl⟩:s6=ae/\A6=A6'/\n6=aa/\c6=X:=by simpa using Z
 exact hK ⟨Q,A4,n4,T,s6,A6,n6,c6⟩ _ C ⟨E,F⟩
def B9r(hz: -9223372036854775808<=z/\z<=9223372036854775807)(hK:∀ w h',h.le h'->NQ h' w (z:Rat)->K w.v h'):aM prog C5w #[I z] h K:=by
 refine C6t _ ?_
 unfold NR
 refine T9 hz ?_
 intro s A n c d b a
 exact ⟨_,_,_,_,rfl,hK ⟨s,A,n,c,false,none,0,0⟩ _ b (NQ.whole a)⟩
def Ke(i:NQ h w q)(hK:K (I q.num.sign) h):aM prog Kl #[w.v] h K:=by
 refine B64 _ _ _ _ _ _ _ _ ?_
 unfold C0p
 exact A3d i.num ⟨_,rfl,hK⟩
def Ui(i:NQ h w q)(hK:∀ w,NQ h w (-q)->K w.v h):aM prog Vj #[w.v] h K:=by
 refine B98 _ _ _ _ _ _ _ _ ?_
 unfold C5e
 refine A0q i.num ?_
 intro b a
 exact ⟨_,_,_,_,rfl,B4 h,hK ⟨b,w.A,w.n,w.c,w.s2,w.A2,w.n2,w.c2⟩ ⟨a,i.den⟩⟩
def A3n(ia:NQ h a p)(ib:NQ h b q)(hp:Sz m p)(hq:Sz m q)(hm:m<=400000000)(hK:∀ w h',h.le h'->NQ h' w (p+q)->K w.v h'):aM prog A1g #[a.v,b.v] h K:=by
 have o:=ia.den_zero
 have R:=ib.den_zero
 refine B9b _ _ _ _ _ _ _ _ _ _ _ _ _ _ _ _ ?_
 unfold C5h
 refine ⟨fun l h'=>l=[.bool (decide (p.den=1/\q.den=1))]/\h'=h,D9 (fun e=>?_) (fun e=>?_),?_⟩
 ·have n:p.den=1:=o.1 (by omega)
  refine ⟨?_,rfl⟩
  have:((b.n2:Int)==0)=decide (p.den=1/\q.den=1):=by
   rw [Bool.eq_iff_iff];simp [n];omega
  rw [this]
 ·have n:¬ p.den=1:=fun H=>e (by have:=o.2 H;omega)
  exact ⟨by simp [n],rfl⟩
 rintro t J ⟨S,rfl⟩
 obtain rfl:t=decide (p.den=1/\q.den=1):=by simpa using S
 have g:=hp.num;have d:=hp.den;have f:=hq.num;have c:=hq.den
 refine B6 (fun e=>?_) (fun e=>?_)
 ·refine A9d ia.num ib.num g f (by omega) ?_
  intro E A1 F c1 n j u
  refine ⟨_,_,_,_,rfl,hK ⟨E,A1,F,c1,false,none,0,0⟩ _ j ?_⟩
  have:p+q=((p.num+q.num:Int):Rat):=by
   rw [Fl,e.1,e.2]
   show aF (p.num*1+q.num*1) (1*1)=_
   rw [aU,aU,aU,Kp]
  rw [this];exact NQ.whole u
 ·refine At ib ?_
  intro E A1 F c1 n j u
  refine ⟨_,_,_,_,rfl,j,?_⟩
  refine Di (ia.num.mono j) u g c (by omega) (by omega) ?_
  intro s2 A2 n2 c2 h2 A Q
  refine ⟨_,_,_,_,rfl,A,?_⟩
  refine At (ia.mono (B0 j A)) ?_
  intro s3 A3 n3 c3 h3 y G
  refine ⟨_,_,_,_,rfl,y,?_⟩
  have k:=B0 j (B0 A y)
  refine Di (ib.num.mono k) G f d (by omega) (by omega) ?_
  intro s4 A4 n4 c4 W x O
  refine ⟨_,_,_,_,rfl,x,?_⟩
  refine A9d (Q.mono (B0 y x)) O (g.mul c) (f.mul d) (by omega) ?_
  intro s5 A5 n5 Z h5 D L
  refine ⟨_,_,_,_,rfl,D,?_⟩
  have i:=B0 k (B0 x D)
  refine At (ia.mono i) ?_
  intro s6 A6 n6 c6 h6 r T
  refine ⟨_,_,_,_,rfl,r,?_⟩
  refine At (ib.mono (B0 i r)) ?_
  intro s7 A7 X V h7 s N
  refine ⟨_,_,_,_,rfl,s,?_⟩
  refine Di (T.mono s) N d c (by omega) (by omega) ?_
  intro s8 A8 n8 c8 h8 z M
  refine ⟨_,_,_,_,rfl,z,?_⟩
  refine Ez (m:=m+m+1) (L.mono (B0 r (B0 s z))) M (aO (den_ne p) (den_ne q)) ((g.mul c).add (f.mul d)) ((d.mul c).mono (by omega)) (by omega) ?_
  intro w h9 C B
  rw [<- Fl] at B
  exact ⟨_,_,_,_,_,_,_,_,rfl,C,hK w _ (B0 i (B0 r (B0 s (B0 z C)))) B⟩
def A3g(ia:NQ h a p)(ib:NQ h b q)(hp:Sz m p)(hq:Sz m q)(hm:m<=400000000)(hK:∀ w h',h.le h'->NQ h' w (p-q)->K w.v h'):aM prog A1f #[a.v,b.v] h K:=by
 refine B97 _ _ _ _ _ _ _ _ _ _ _ _ _ _ _ _ ?_
 unfold C5d
 refine Ui ib ?_
 intro w i
 refine ⟨_,_,_,_,_,_,_,_,rfl,B4 h,?_⟩
 refine A3n ia i hp hq.neg hm ?_
 intro e f d c
 rw [<- Rat.sub_eq_add_neg] at c
 exact ⟨_,_,_,_,_,_,_,_,rfl,d,hK e _ d c⟩
def Nu(ia:NQ h a p)(ib:NQ h b q)(hp:Sz m p)(hq:Sz m q)(hm:m<=400000000)(hK:∀ w h',h.le h'->NQ h' w (p*q)->K w.v h'):aM prog Qt #[a.v,b.v] h K:=by
 have j:=ia.den_zero
 have F:=ib.den_zero
 refine B99 _ _ _ _ _ _ _ _ _ _ _ _ _ _ _ _ ?_
 unfold C5f
 refine ⟨fun l h'=>l=[.bool (decide (p.den=1/\q.den=1))]/\h'=h,D9 (fun e=>?_) (fun e=>?_),?_⟩
 ·have g:p.den=1:=j.1 (by omega)
  refine ⟨?_,rfl⟩
  have:((b.n2:Int)==0)=decide (p.den=1/\q.den=1):=by
   rw [Bool.eq_iff_iff];simp [g];omega
  rw [this]
 ·have g:¬ p.den=1:=fun B=>e (by have:=j.2 B;omega)
  exact ⟨by simp [g],rfl⟩
 rintro t C ⟨G,rfl⟩
 obtain rfl:t=decide (p.den=1/\q.den=1):=by simpa using G
 have d:=hp.num;have k:=hp.den;have c:=hq.num;have i:=hq.den
 refine B6 (fun e=>?_) (fun e=>?_)
 ·refine Di ia.num ib.num d c (by omega) (by omega) ?_
  intro y A1 z c1 g f r
  refine ⟨_,_,_,_,rfl,hK ⟨y,A1,z,c1,false,none,0,0⟩ _ f ?_⟩
  have:p*q=((p.num*q.num:Int):Rat):=by
   rw [Kg,e.1,e.2]
   show aF (p.num*q.num) (1*1)=_
   rw [aU,Kp]
  rw [this];exact NQ.whole r
 ·refine Di ia.num ib.num d c (by omega) (by omega) ?_
  intro y A1 z c1 g f r
  refine ⟨_,_,_,_,rfl,f,?_⟩
  refine At (ia.mono f) ?_
  intro J A2 S c2 T o E
  refine ⟨_,_,_,_,rfl,o,?_⟩
  refine At (ib.mono (B0 f o)) ?_
  intro W A3 V R N n A
  refine ⟨_,_,_,_,rfl,n,?_⟩
  refine Di (E.mono n) A k i (by omega) (by omega) ?_
  intro L A4 Q M H s D
  refine ⟨_,_,_,_,rfl,s,?_⟩
  refine Ez (m:=m+m) (r.mono (B0 o (B0 n s))) D (aO (den_ne p) (den_ne q)) (d.mul c) (k.mul i) (by omega) ?_
  intro w O x u
  rw [<- Kg] at u
  exact ⟨_,_,_,_,_,_,_,_,rfl,x,hK w _ (B0 f (B0 o (B0 n (B0 s x)))) u⟩
def B33(ia:NQ h a p)(ib:NQ h b q)(hp:Sz m p)(hq:Sz m q)(hm:m<=400000000)(hK:∀ w h',h.le h'->NQ h' w (p/q)->K w.v h'):aM prog A6z #[a.v,b.v] h K:=by
 refine B9a _ _ _ _ _ _ _ _ _ _ _ _ _ _ _ _ ?_
 unfold C5g
 have f:=hp.num;have i:=hp.den;have c:=hq.num;have g:=hq.den
 refine Ke ib ⟨_,rfl,D9 (fun e=>?_) (fun e=>?_)⟩
 ·have y:q=0:=Rat.num_eq_zero.1 (Int.sign_eq_zero_iff_zero.1 e)
  have:=hK ⟨false,none,0,0,false,none,0,0⟩ h (B4 h) (by rw [y,Rat.div_def,Rat.inv_zero,Rat.mul_zero];exact NQ.zero)
  exact this
 ·have o:q.num≠0:=fun u=>e (by rw [u];rfl)
  refine At ib ?_
  intro O A1 Q c1 E j x
  refine ⟨_,_,_,_,rfl,j,?_⟩
  refine Di (ia.num.mono j) x f g (by omega) (by omega) ?_
  intro C A2 M c2 N n A
  refine ⟨_,_,_,_,rfl,n,?_⟩
  refine At (ia.mono (B0 j n)) ?_
  intro S A3 R L G l t
  refine ⟨_,_,_,_,rfl,l,?_⟩
  have d:=B0 j (B0 n l)
  refine Di t (ib.num.mono d) i c (by omega) (by omega) ?_
  intro D A4 J F B k z
  refine ⟨_,_,_,_,rfl,k,?_⟩
  refine Ez (m:=m+m) (A.mono (B0 l k)) z (aO (den_ne p) o) (f.mul g) (i.mul c) (by omega) ?_
  intro w H s r
  rw [<- Yx] at r
  exact ⟨_,_,_,_,_,_,_,_,rfl,s,hK w _ (B0 d (B0 k s)) r⟩
end
def dch(d:Nat):UInt8:=UInt8.ofNat (48+d)
def Ff{d:Nat}(h:d<10):(dch d).toNat=48+d:=by
 unfold dch;rw [UInt8.toNat_ofNat'];omega
def G9(c:UInt8):Prop:=48<=c.toNat/\c.toNat<=57
instance (c:UInt8):Decidable (G9 c):=by unfold G9;infer_instance
def C2f{d:Nat}(h:d<10):G9 (dch d):=by unfold G9;rw [Ff h];omega
def C06{c:UInt8}(h:G9 c):dch (c.toNat-48)=c:=by
 unfold G9 at h
 apply UInt8.toNat_inj.1
 rw [Ff (by omega)];omega
def dd(n:Nat):List UInt8:=if _h:n=0 then [] else dd (n/10)++[dch (n%10)]
def I6:dd 0=[]:=by unfold dd;simp
def U5{n:Nat}(h:n≠0):dd n=dd (n/10)++[dch (n%10)]:=by rw [dd];simp [h]
def J4(l:List UInt8):Nat:=l.foldl (fun a c=>10*a+(c.toNat-48)) 0
def Iz(l:List UInt8)(c:UInt8):J4 (l++[c])=10*J4 l+(c.toNat-48):=by simp [J4]
def C28(l:List UInt8):∀ a,l.foldl (fun a c=>10*a+(c.toNat-48)) a=a*10^l.length+J4 l:=by
 induction l with
 | nil=>intro a;simp [J4]
 | cons c l ih=>
  intro a
  unfold J4
  rw [List.foldl_cons,List.foldl_cons,ih,ih,List.length_cons,aK]
  grind
def Ha(a b:List UInt8):J4 (a++b)=J4 a*10^b.length+J4 b:=by
 unfold J4;rw [List.foldl_append,C28 b];rfl
def B4n(c:UInt8)(l:List UInt8):J4 (c::l)=(c.toNat-48)*10^l.length+J4 l:=by
 rw [<- List.singleton_append,Ha];simp [J4]
def Gz{l:List UInt8}(h:∀ c∈l,G9 c):J4 l<10^l.length:=by
 induction l with
 | nil=>simp [J4]
 | cons c l ih=>
  have d:=ih fun x a=>h x (by simp [a])
  have b:=h c (by simp)
  unfold G9 at b
  rw [B4n,List.length_cons,aK]
  have:(c.toNat-48)*10^l.length<=9*10^l.length:=Nat.mul_le_mul_right _ (by omega)
  omega
def C29(n:Nat):J4 (dd n)=n:=by
 induction n using bH with
 | _ n ih=>
  by_cases h:n=0
  ·subst h;rw [I6];rfl
  ·rw [U5 h,Iz,ih _ (by omega),Ff (by omega)];omega
def C4p(n:Nat):∀ c∈dd n,G9 c:=by
 induction n using bH with
 | _ n ih=>
  by_cases h:n=0
  ·subst h;rw [I6];simp
  ·rw [U5 h]
   intro c b
   rcases List.mem_append.1 b with a|a
   ·exact ih _ (by omega) c a
   ·rw [List.mem_singleton.1 a];exact C2f (by omega)
def B8b{n:Nat}(h:n≠0):dd n≠[]:=by rw [U5 h];simp
def B4u(n:Nat)(h:n≠0):(dd n).head? ≠ some 48:=by
 induction n using bH with
 | _ n ih=>
  rw [U5 h]
  by_cases a:n/10=0
  ·rw [a,I6]
   simp only [bJ,List.head?_cons,ne_eq,Option.some.injEq]
   intro e
   have:=Ff (d:=n%10) (by omega)
   rw [e] at this
   simp at this
   omega
  ·have:=ih _ (by omega) a
   obtain ⟨c,r,e⟩:=bL (B8b a)
   rw [e] at this ⊢
   simpa using this
def B4v{l:List UInt8}(h:∀ c∈l,G9 c)(h0:l.head? ≠ some 48):dd (J4 l)=l:=by
 obtain ⟨n,f⟩:∃ n,l.length=n:=⟨_,rfl⟩
 induction n generalizing l with
 | zero=>rw [bF f];exact I6
 | succ n ih=>
  obtain ⟨m,c,rfl⟩:∃ m c,l=m++[c]:=by
   refine ⟨l.dropLast,l.getLast (by rintro rfl;simp at f),?_⟩
   rw [List.dropLast_concat_getLast]
  have b:=h c (by simp)
  have g:=b
  unfold G9 at g
  rw [Iz]
  cases m with
  | nil=>
   simp at h0
   have k:c.toNat-48≠0:=by
    intro e
    apply h0
    apply UInt8.toNat_inj.1
    show c.toNat=48
    omega
   rw [U5 (by simp [J4];omega)]
   simp only [J4,List.foldl_nil,bJ]
   rw [show (10*0+(c.toNat-48))/10=0 by omega,I6,show (10*0+(c.toNat-48))%10=c.toNat-48 by omega,C06 b];rfl
  | cons d m=>
   have a:=ih (l:=d::m) (fun x i=>h x (by simp at i ⊢;rcases i with h|h<;>simp [h])) (by simpa using h0) (by simpa using f)
   have j:J4 (d::m)≠0:=by
    intro e
    rw [e,I6] at a
    cases a
   rw [U5 (by omega),show (10*J4 (d::m)+(c.toNat-48))/10=J4 (d::m) by omega,a,show (10*J4 (d::m)+(c.toNat-48))%10=c.toNat-48 by omega,C06 b]
def R5{n k:Nat}:(dd n).length<=k↔n<10^k:=by
 induction k generalizing n with
 | zero=>
  constructor
  ·intro h
   have:dd n=[]:=bF (by omega)
   by_cases a:n=0
   ·subst a;decide
   ·exact absurd this (B8b a)
  ·intro h
   have:n=0:=by simp at h;exact h
   subst this;rw [I6];simp
 | succ k ih=>
  by_cases a:n=0
  ·subst a;rw [I6];simp [aJ]
  ·rw [U5 a,aX,List.length_singleton,Nat.add_le_add_iff_right,ih,aK]
   omega
def pad(w n:Nat):List UInt8:=List.replicate (w-(dd n).length) 48++dd n
def A8j(n:Nat):pad 0 n=dd n:=by simp [pad]
def Yp{w n:Nat}(h:n<10^w):(pad w n).length=w:=by
 have:=R5.2 h
 simp [pad];omega
def Tg(w n:Nat):pad (w+1) n=pad w (n/10)++[dch (n%10)]:=by
 unfold pad
 by_cases h:n=0
 ·subst h
  rw [I6]
  simp only [List.length_nil,Nat.sub_zero,List.append_nil,Nat.zero_mod]
  rw [List.replicate_succ'];rfl
 ·rw [U5 h,aX,List.length_singleton,Nat.add_sub_add_right,aI]
def C4o{h l k:Nat}(h0:h≠0)(hl:l<10^k):dd (h*10^k+l)=dd h++pad k l:=by
 induction k generalizing l with
 | zero=>
  have:l=0:=by simpa using hl
  subst this;simp [pad,I6]
 | succ k ih=>
  have d:0<10^k:=aJ (by decide)
  have a:h*10^(k+1)+l≠0:=by
   have:0<h*10^(k+1):=Nat.mul_pos (by omega) (aJ (by decide))
   omega
  have b:(h*10^(k+1)+l)/10=h*10^k+l/10:=by
   rw [aK,<- Nat.mul_assoc];omega
  have c:(h*10^(k+1)+l)%10=l%10:=by
   rw [aK,<- Nat.mul_assoc];omega
  rw [U5 a,b,c,ih (by rw [aK] at hl;omega),Tg,aI]
def A3p{w h l k:Nat}(hl:l<10^k)(hw:h≠0\/k<=w):pad w (h*10^k+l)=pad (w-k) h++pad k l:=by
 by_cases b:h=0
 ·subst b
  have c:k<=w:=by
   rcases hw with h|h
   ·exact absurd rfl h
   ·exact h
  have:=R5.2 hl
  unfold pad
  rw [I6]
  simp only [Nat.zero_mul,Nat.zero_add,List.length_nil,Nat.sub_zero,List.append_nil,<- aI,List.replicate_append_replicate]
  congr 2;omega
 ·have e:=C4o b hl
  have a:=Yp hl
  unfold pad at a
  unfold pad at e ⊢
  rw [e,aX,a,<- aI]
  congr 3;omega
def O1(n:Nat):List UInt8:=if n=0 then [48] else dd n
def Ag{n:Nat}(h:n≠0):O1 n=dd n:=by simp [O1,h]
def As(n:Nat):J4 (O1 n)=n:=by
 unfold O1;split
 ·rename_i h;subst h;rfl
 ·exact C29 n
def Pe(n:Nat):∀ c∈O1 n,G9 c:=by
 unfold O1;split
 ·intro c a;rw [List.mem_singleton.1 a];decide
 ·exact C4p n
def Vt(n:Nat):O1 n≠[]:=by
 unfold O1;split
 ·simp
 ·rename_i h;exact B8b h
def B8a{a b:Nat}(h:O1 a=O1 b):a=b:=by rw [<- As a,h,As]
def Pd{l:List UInt8}(h:∀ c∈l,G9 c)(hn:l≠[])(h0:l.head? ≠ some 48\/l=[48]):O1 (J4 l)=l:=by
 rcases h0 with h0|h0
 ·have:=B4v h h0
  rw [Ag,this]
  intro e
  rw [e,I6] at this
  exact hn this.symm
 ·subst h0;rfl
def Pc{n k:Nat}(hk:0<k):(O1 n).length<=k↔n<10^k:=by
 by_cases h:n=0
 ·subst h;have:0<10^k:=aJ (by decide);simp [O1];omega
 ·rw [Ag h];exact R5
def Hs(z:Int):List UInt8:=if z<0 then 45::O1 z.natAbs else O1 z.natAbs
def H1(q:Rat):List UInt8:=Hs q.num++(if q.den=1 then [] else 47::O1 q.den)
structure Form (s:List UInt8) (neg:Bool) (a b:List UInt8):Prop where
 eq:s=(if neg then [45] else [])++a++(if b=[] then [] else 47::b)
 da:∀ c∈a,G9 c
 db:∀ c∈b,G9 c
 ne:a≠[]
 ha:a.head? ≠ some 48\/(a=[48]/\neg=false/\b=[])
 hb:b.head? ≠ some 48
 b1:b≠[49]
def A8r{c:UInt8}(h:G9 c):c≠45/\c≠47:=by
 unfold G9 at h
 constructor<;>(rintro rfl;revert h;decide)
def Gc{a r:List UInt8}(h:∀ c∈a,G9 c)(hr:∀ c,r.head? = some c->¬ G9 c):(a++r).takeWhile (fun c=>decide (G9 c))=a/\(a++r).dropWhile (fun c=>decide (G9 c))=r:=by
 induction a with
 | nil=>
  cases r with
  | nil=>simp
  | cons c r=>
   have:=hr c rfl
   simp [this]
 | cons c a ih=>
  have d:=h c (by simp)
  have:=ih fun x b=>h x (by simp [b])
  simp [d,this]
def Form.head{s:List UInt8}{neg:Bool}{a b:List UInt8}(f:Form s neg a b):neg=(s.head? == some 45):=by
 obtain ⟨c,r,e⟩:=bL f.ne
 have d:=(A8r (f.da c (by simp [e]))).1
 rw [f.eq,e]
 cases neg<;>simp [d]
def Form.unique{s:List UInt8}{neg neg':Bool}{a b a' b':List UInt8}(f:Form s neg a b)(g:Form s neg' a' b'):neg=neg'/\a=a'/\b=b':=by
 have p:neg=neg':=by rw [f.head,g.head]
 subst p
 have e:=f.eq.symm.trans g.eq
 rw [aI,aI] at e
 have n:=List.append_cancel_left e
 have k:∀ b:List UInt8,∀ c,(if b=[] then [] else 47::b:List UInt8).head? = some c->¬ G9 c:=by
  intro b c d
  split at d
  ·simp at d
  ·simp at d;subst d;decide
 have i:=Gc f.da (k b)
 have l:=Gc g.da (k b')
 rw [n] at i
 have q:a=a':=i.1.symm.trans l.1
 have m:=i.2.symm.trans l.2
 refine ⟨rfl,q,?_⟩
 by_cases o:b=[]<;>by_cases j:b'=[]<;>simp [o,j] at m ⊢
 exact m
def Vv{q:Rat}(h:q.num=0):q.den=1:=by
 have:=q.reduced
 rw [h] at this
 simpa using this
def Id(q:Rat):Form (H1 q) (decide (q.num<0)) (O1 q.num.natAbs) (if q.den=1 then [] else O1 q.den):=by
 constructor
 ·unfold H1 Hs
  by_cases c:q.num<0<;>by_cases b:q.den=1<;>simp [c,b,Vt]
 ·exact Pe _
 ·split
  ·simp
  ·exact Pe _
 ·exact Vt _
 ·by_cases h:q.num=0
  ·right
   rw [Vv h,h];simp [O1]
  ·left
   rw [Ag (by omega)];exact B4u _ (by omega)
 ·split
  ·simp
  ·rw [Ag q.den_nz];exact B4u _ q.den_nz
 ·split
  ·simp
  ·rename_i h
   intro e
   have a:O1 q.den=O1 1:=by rw [e];simp [O1,U5,I6,dch]
   exact h (B8a a)
def Vl(neg:Bool)(a:List UInt8):Int:=if neg then -(J4 a:Int) else J4 a
def Px(b:List UInt8):Nat:=if b=[] then 1 else J4 b
def Vp{b:List UInt8}(h:∀ c∈b,G9 c)(hn:b≠[])(h0:b.head? ≠ some 48):J4 b≠0:=by
 intro e
 have:=B4v h h0
 rw [e,I6] at this
 exact hn this.symm
def Form.den_ne{s:List UInt8}{neg:Bool}{a b:List UInt8}(f:Form s neg a b):Px b≠0:=by
 unfold Px;split
 ·decide
 ·rename_i h;exact Vp f.db h f.hb
def Form.txt{s:List UInt8}{neg:Bool}{a b:List UInt8}(f:Form s neg a b){q:Rat}(h1:q.num=Vl neg a)(h2:q.den=Px b):s=H1 q:=by
 have k:O1 (J4 a)=a:=Pd f.da f.ne (f.ha.imp id fun h=>h.1)
 have g:(Vl neg a).natAbs=J4 a:=by unfold Vl;split<;>simp
 have c:(Vl neg a<0)↔neg=true:=by
  unfold Vl
  cases neg
  ·simp
  ·simp only [if_true]
   constructor
   ·intro _;trivial
   ·intro _
    have:J4 a≠0:=by
     rcases f.ha with h|h
     ·exact Vp f.da f.ne h
     ·exact absurd h.2.1 (by simp)
    omega
 have i:(Px b=1)↔b=[]:=by
  unfold Px
  split
  ·rename_i h;simp [h]
  ·rename_i h
   constructor
   ·intro e
    exfalso
    have j:=Pd f.db h (Or.inl f.hb)
    rw [e] at j
    apply f.b1
    rw [<- j];simp [O1,U5,I6,dch]
   ·intro e;exact absurd e h
 rw [f.eq]
 unfold H1 Hs
 rw [h1,h2,g,k]
 by_cases d:b=[]
 ·rw [iP d,iP (i.2 d)]
  cases neg
  ·rw [iN (fun e=>Bool.noConfusion (c.1 e))];simp
  ·rw [iP (c.2 rfl)];simp
 ·rw [iN d,iN (fun e=>d (i.1 e))]
  have l:O1 (Px b)=b:=by
   unfold Px;rw [iN d];exact Pd f.db d (Or.inl f.hb)
  rw [l]
  cases neg
  ·rw [iN (fun e=>Bool.noConfusion (c.1 e))];simp
  ·rw [iP (c.2 rfl)];simp
def Form.of_txt{s:List UInt8}{neg:Bool}{a b:List UInt8}(f:Form s neg a b){q:Rat}(e:s=H1 q):q.num=Vl neg a/\q.den=Px b:=by
 subst e
 obtain ⟨c,d,g⟩:=f.unique (Id q)
 subst c d g
 constructor
 ·unfold Vl
  rw [As]
  by_cases h:q.num<0
  ·simp [h];omega
  ·simp [h];omega
 ·unfold Px
  by_cases h:q.den=1
  ·simp [h]
  ·simp [h,Vt,As]
def IsNum(s:List UInt8):Prop:=∃ q,s=H1 q
def Form.isNum{s:List UInt8}{neg:Bool}{a b:List UInt8}(f:Form s neg a b):IsNum s↔Nat.gcd (J4 a) (Px b)=1:=by
 have c:(Vl neg a).natAbs=J4 a:=by unfold Vl;split<;>simp
 constructor
 ·rintro ⟨q,e⟩
  have:=f.of_txt e
  have d:=q.reduced
  rw [this.1,this.2,c] at d
  exact d
 ·intro h
  exact ⟨⟨Vl neg a,Px b,f.den_ne,by rw [c];exact h⟩,f.txt rfl rfl⟩
def IsNum.form{s:List UInt8}(h:IsNum s):∃ neg a b,Form s neg a b:=by
 obtain ⟨q,rfl⟩:=h
 exact ⟨_,_,_,Id q⟩
def B7m(s:List UInt8):Rat:=
 let neg:=s.head? == some 45
 let t:=if neg then s.drop 1 else s
 mkRat (Vl neg (t.takeWhile fun c=>decide (G9 c))) (Px ((t.dropWhile fun c=>decide (G9 c)).drop 1))
def rv(s:List UInt8):Rat:=if H1 (B7m s)=s then B7m s else 0
def D8(q:Rat):rv (H1 q)=q:=by
 have f:=Id q
 have k:=f.head
 have g:∀ b:List UInt8,∀ c,(if b=[] then [] else 47::b:List UInt8).head? = some c->¬ G9 c:=by
  intro b c a
  split at a
  ·simp at a
  ·simp at a;subst a;decide
 have e:B7m (H1 q)=q:=by
  unfold B7m
  simp only [<- k]
  generalize hb:(if q.den=1 then [] else O1 q.den)=b at f
  have j:(if decide (q.num<0)=true then (H1 q).drop 1 else H1 q)=O1 q.num.natAbs++(if b=[] then [] else 47::b):=by
   rw [f.eq]
   by_cases d:q.num<0<;>simp [d]
  rw [j,(Gc f.da (g b)).1,(Gc f.da (g b)).2]
  have i:=f.of_txt rfl
  have l:(if b=[] then [] else 47::b:List UInt8).drop 1=b:=by
   by_cases d:b=[]<;>simp [d]
  rw [l,<- i.1,<- i.2,Rat.mkRat_self]
 unfold rv
 rw [e,iP rfl]
def B2v{s:List UInt8}(h:¬ IsNum s):rv s=0:=by
 unfold rv
 rw [iN (fun e=>h ⟨_,e.symm⟩)]
def B23{s:List UInt8}(h:IsNum s):H1 (rv s)=s:=by
 obtain ⟨q,rfl⟩:=h
 rw [D8]
