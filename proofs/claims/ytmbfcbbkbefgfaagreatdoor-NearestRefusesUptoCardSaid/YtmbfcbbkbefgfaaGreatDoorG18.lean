/- A part. -/
import Derived.Test.YtmbfcbbkbefgfaaGreatDoorG16
import Derived.Test.YtmbfcbbkbefgfaaGreatDoorG17
open Go.Proofs.Tryz
set_option linter.all false
open Int renaming mul_le_mul_of_nonneg_right->aC,sign_eq_one_of_pos->aD,natAbs_natCast->aE,le_of_lt->aG,sign_eq_neg_one_of_neg->aH,gcd->aL,natAbs_of_nonneg->aN,mul_ne_zero->aO,natAbs_neg->aQ,toNat_natCast->aR,natCast_mul->aS,mul_one->aU,toNat_of_nonneg->aW,mul_comm->aY,gcd_dvd_right->aZ,natCast_ediv->bD,mul_le_mul_of_nonneg_left->bG,mul_lt_mul_of_pos_right->bK,tmod_eq_emod_of_nonneg->bM,natAbs_mul->bN,tdiv_eq_ediv_of_dvd->bV
open List renaming append_assoc->aI,length_append->aX,take_length->bC,eq_nil_of_length_eq_zero->bF,nil_append->bJ,exists_cons_of_ne_nil->bL,getElem?_cons_zero->bU
open Nat renaming pow_pos->aJ,pow_succ->aK,le_refl->aT,mul_le_mul_left->aV,strongRecOn->bH,min_eq_left->bI
open Rat renaming divInt->aF,num_divInt_den->aP,divInt_ofNat->bB
open _root_.Go renaming Addr->bO
open _root_.Go.Proofs.YtmbfcbbkbefgfaaGreatDoor renaming FCall->aM,Heap->bW
namespace Go.Proofs.YtmbfcbbkbefgfaaGreatDoor
set_option maxRecDepth 20000
open Go
section
variable {h g:bW} {K:VP} {A B:Option bO} {ac bc:Nat}
def C17{P:Program}{t e:TypeId}{z:Value}{bytes:Nat}(s:SliceT P t e z 1 bytes){u v:Value}(hu:u.cells=#[u])(hv:v.cells=#[v]){K:VP}{h:bW}
 (x:∀ b,h b=none->K (.slice (some ⟨b,0,none⟩) 2 2) (h.put b (.cells #[u,v] e))):wpH P (Instr.buildSlice t 2 #[(0,u),(1,v)]) K h:=by
 refine Bw s (by omega) (cells:=#[u,v]) ?_ x
 have a:(F2 z.cells 2).size=2:=by simp [F2,s.cells]
 have:F2 z.cells 2=#[(F2 z.cells 2)[0]'(by omega),(F2 z.cells 2)[1]'(by omega)]:=by
  apply Array.ext
  ·simpa using a
  ·intro i d c
   match i with
   | 0=>rfl
   | 1=>rfl
   | i+2=>simp at c;omega
 rw [this]
 simp [Instr.fill,hu,hv]
def Bz{B:Int}(hB:0<B){xs:List Int}(d:Dig B xs){m:Nat}(hl:xs.length=m+1):val B xs<(xs.getD m 0+1)*B^m/\xs.getD m 0*B^m<=val B xs:=by
 have b:=G1 B xs m
 rw [show m+1=xs.length by omega,bC] at b
 have a:=L5 hB (d.take m)
 have e:=C6 hB (d.take m)
 rw [List.length_take,bI (by omega)] at a
 have c:(xs.getD m 0+1)*B^m=B^m*xs.getD m 0+B^m:=by grind
 have f:xs.getD m 0*B^m=B^m*xs.getD m 0:=aY _ _
 omega
def A2t{xs:List Int}{m:Nat}(hl:xs.length=m+1)(hn:Norm xs):xs.getD m 0≠0:=by
 intro a
 have e:=Hy (xs:=xs) (i:=m) (by omega)
 rw [<- hl,bC,a] at e
 apply hn
 rw [e];simp
def Vs{x y:Int}{an bn:Nat}(ma:Mg h A an x)(mb:Mg h B bn y)(hy:y≠0)(hl:an<=100000000)(hl2:bn<=100000000)
 (hK:∀ A1 m1 c1 A2 m2 c2 h',h.le h'->m1<=c1->m2<=c2->Mg h' A1 m1 (x/y)->Mg h' A2 m2 (x%y)->K (.tuple #[.slice A1 m1 c1,.slice A2 m2 c2]) h'):aM prog Ok #[.slice A an ac,.slice B bn bc] h K:=by
 have T:=ma.nonneg (by decide)
 have ag:=mb.nonneg (by decide)
 have a0:=mb.len_zero (by decide)
 have J:=ma.lt (by decide)
 have ay:=mb.lt (by decide)
 refine B13 _ _ _ _ _ _ ?_
 unfold B5o
 refine Vy ma mb (by omega) ⟨_,rfl,B6 (fun L=>?_) (fun L=>D8 (fun h2=>?_) (fun h2=>?_))⟩
 ·have R:x<y:=by
   by_cases f:x<y
   ·exact f
   ·rw [iN f] at L
    by_cases G:x>y
    ·rw [iP G] at L;omega
    ·rw [iN G] at L;omega
  rw [Int.ediv_eq_zero_of_lt T R,Int.emod_eq_of_lt T R] at hK
  obtain ⟨xs,rfl,sx,dx,nx,rfl⟩:=ma
  refine La Pv ?_
  intro b hb
  refine ⟨_,_,_,rfl,?_⟩
  have g:=Heap.le_put (h:=h) (b:=b) (.cells #[] C3) hb
  have al:=SlI.mono g sx
  refine Oy Pv (Priv.nil _ _ _ _) (ys:=xs.map (Value.int .u32)) (by simp) al (fun v hv=>?_) (by omega) (by omega) ?_
  ·obtain ⟨a,_,rfl⟩:=List.mem_map.1 hv;rfl
  ·intro A' c' h' g' hg M
   rw [bJ] at M
   have z:=M.slV
   simp only [Nat.zero_add] at M ⊢
   exact ⟨_,_,_,rfl,hK none 0 0 A' xs.length c' h' (Heap.le_trans g (Heap.le_trans hg M.le)) (aT _) M.2.1 Mag.zero ⟨xs,rfl,z,dx,nx,rfl⟩⟩
 ·obtain ⟨ys,rfl,sy,W,ny,rfl⟩:=mb
  have C:ys.length=1:=by omega
  obtain ⟨d,rfl⟩:∃ d,ys=[d]:=by
   cases ys with
   | nil=>simp at C
   | cons d r=>
    cases r with
    | nil=>exact ⟨d,rfl⟩
    | cons _ _=>simp at C
  rw [W4] at hy ag hK
  have hd:=W d (by simp)
  refine sy.load rfl (by omega) (by simp) ?_
  show aM _ _ #[_,U32 d] _ _
  refine Nf ma ⟨by omega,hd.2⟩ hl ?_
  intro A' m c' h' g hm az hM
  refine ⟨_,_,_,_,rfl,?_⟩
  refine An Pv rfl ?_
  intro b hb
  refine ⟨_,_,_,rfl,?_⟩
  have t:=Heap.le_put (h:=h') (b:=b) (.cells #[U32 (x%d)] C3) hb
  have hr:0<=x%d/\x%d<4294967296:=by
   have h3:=Int.emod_nonneg x (show d≠0 by omega)
   have h4:=Int.emod_lt_of_pos x (show 0<d by omega)
   have h5:=hd.2
   show _/\_<b32
   omega
  refine Y8 (xs:=[x%d]) (SlI.new h' b [x%d] C3 _) (Dig.one hr) (aT _) (by simp) ?_
  intro m2 w o
  rw [W4] at o
  exact ⟨_,_,_,rfl,hK _ _ _ _ _ _ _ (Heap.le_trans g t) hm (by simpa using w) (hM.mono t) o⟩
 ·have ao:y<=x:=by
   by_cases f:x<y
   ·rw [iP f] at L;omega
   ·omega
  have a1:bn<=an:=mb.len_le (by decide) (Int.lt_of_le_of_lt ao J)
  obtain ⟨xs,rfl,sx,dx,nx,rfl⟩:=ma
  obtain ⟨ys,rfl,sy,W,ny,rfl⟩:=mb
  obtain ⟨mm,hmm⟩:∃ mm,ys.length=mm+2:=⟨ys.length-2,by omega⟩
  have gt:=Bv W (mm+1)
  have ax:=A2t (m:=mm+1) hmm ny
  obtain ⟨ai,D⟩:=Bz (B:=b32) (by decide) W (m:=mm+1) hmm
  unfold A56
  refine ⟨fun l h'=>∃ s:Nat,l=[U s]/\h'=h/\s<32/\ys.getD (mm+1) 0*2^s<4294967296,fun l _=>32-(iAt l 0).toNat,⟨0,rfl,rfl,by omega,by rw [Int.pow_zero,aU];exact gt.2⟩,?_⟩
  rintro si ap ⟨s,am,rfl,z,au⟩
  obtain rfl:=sI1 am
  have e1:B4 ((ys.length:Int)-1)=((mm+1:Nat):Int):=by rw [B7 (by omega) (by omega)];omega
  rw [e1]
  refine sy.load rfl (by omega) (by omega) ?_
  refine B6 (fun e=>absurd e (by omega)) (fun _=>?_)
  have c:0<(2:Int)^s:=Int.pow_pos (by decide)
  have aw:2^s<=ys.getD (mm+1) 0*2^s:=by
   have:=aC (show 1<=ys.getD (mm+1) 0 by omega) (aG c);omega
  have e2:F6 (ys.getD (((mm+1:Nat):Int)).toNat 0*2^(min ((s:Int)).toNat 32))=ys.getD (mm+1) 0*2^s:=by
   rw [aR,aR,bI (by omega),O1 (by omega) au]
  refine B6 (fun h3=>?_) (fun h3=>?_)
  ·rw [e2] at h3
   have F:s+1<32:=by
    by_cases f:s+1<32
    ·exact f
    ·have:s=31:=by omega
     subst this
     have:(2:Int)^31=2147483648:=by decide
     omega
   have e3:C0 ((s:Int)+1)=((s+1:Nat):Int):=by rw [C2 (by omega) (by omega)];omega
   rw [e3]
   refine ⟨⟨s+1,rfl,rfl,F,?_⟩,by simp only [iAt,bU];omega⟩
   rw [Int.pow_succ,<- Int.mul_assoc];omega
  ·rw [e2] at h3
   have ah:val b32 ys*2^s<b32^(mm+2):=by
    have E:=Na (Nat.le_of_lt z)
    have t1:ys.getD (mm+1) 0+1<=2^(32-s):=by
     by_cases f:ys.getD (mm+1) 0+1<=2^(32-s)
     ·exact f
     ·have:=aC (show (2:Int)^(32-s)<=ys.getD (mm+1) 0 by omega) (aG c)
      rw [aY,E] at this;omega
    have t2:val b32 ys*2^s<(ys.getD (mm+1) 0+1)*b32^(mm+1)*2^s:=bK ai c
    have t3:(ys.getD (mm+1) 0+1)*b32^(mm+1)*2^s=(ys.getD (mm+1) 0+1)*2^s*b32^(mm+1):=by grind
    have t4:(ys.getD (mm+1) 0+1)*2^s*b32^(mm+1)<=4294967296*b32^(mm+1):=by
     apply aC _ (aG (D5 (by decide) _))
     rw [<- E,aY (2^s)]
     exact aC t1 (aG c)
    rw [Int.pow_succ b32 (mm+1),aY (b32^(mm+1))]
    show _<(4294967296:Int)*_
    omega
   have a2:2147483648*b32^(mm+1)<=val b32 ys*2^s:=by
    have t1:ys.getD (mm+1) 0*b32^(mm+1)*2^s<=val b32 ys*2^s:=aC D (aG c)
    have t2:2147483648*b32^(mm+1)<=ys.getD (mm+1) 0*2^s*b32^(mm+1):=aC (by omega) (aG (D5 (by decide) _))
    have t3:ys.getD (mm+1) 0*2^s*b32^(mm+1)=ys.getD (mm+1) 0*b32^(mm+1)*2^s:=by grind
    omega
   refine Ki sy W z (by omega) ?_
   intro bv zv af Z av ak
   refine ⟨_,_,_,rfl,?_⟩
   rw [<- Z]
   refine Y8 (Dl _ _ _ _ _) av (aT _) (by omega) ?_
   intro n hn j
   refine ⟨_,_,_,rfl,?_⟩
   rw [ak] at j
   have aj:n=mm+2:=by
    have l1:=j.len_le (by decide) ah
    have l2:=j.lt (by decide)
    by_cases f:n=mm+2
    ·exact f
    ·have:=C8 (B:=b32) (by decide) (show n<=mm+1 by omega)
     have:=D5 (B:=b32) (by decide) (mm+1)
     omega
   subst aj
   obtain ⟨vs,X,sv,dv,nv,u⟩:=j
   have ad:4294967296<=2*vs.getD (mm+1) 0:=by
    obtain ⟨q1,q2⟩:=Bz (B:=b32) (by decide) dv (m:=mm+1) X.symm
    rw [u] at q1
    have:2147483648<vs.getD (mm+1) 0+1:=by
     by_cases f:2147483648<vs.getD (mm+1) 0+1
     ·exact f
     ·have:=aC (show vs.getD (mm+1) 0+1<=2147483648 by omega) (aG (D5 (B:=b32) (by decide) (mm+1)));omega
    omega
   have q:=V8 (k:=.u32) (e:=C3) af zv
   refine Ki (SlI.mono q sx) dx z (by omega) ?_
   intro bu V aq ae O S
   refine ⟨_,_,_,rfl,?_⟩
   obtain ⟨nq,hnq⟩:∃ nq,xs.length+1=nq+(mm+2):=⟨xs.length+1-(mm+2),by omega⟩
   have e4:B4 (B4 (B4 (((xs.length+1:Nat):Int)-((mm+2:Nat):Int))-1)+1)=(nq:Int):=by
    rw [B7 (n:=((xs.length+1:Nat):Int)-((mm+2:Nat):Int)) (by omega) (by omega),B7 (n:=_-(1:Int)) (by omega) (by omega),B7 (by omega) (by omega)];omega
   rw [e4]
   refine J7 Pv (by omega) (by omega) (by omega) ?_
   intro bq p
   rw [aR]
   refine ⟨_,_,_,rfl,?_⟩
   have Q:bu≠bq:=by
    rintro rfl
    unfold blk at p
    rw [B9] at p;cases p
   have H:blk .u32 C3 ap bv zv bq=none:=by
    have:=p
    unfold blk at this ⊢
    rwa [B8 _ _ Q.symm] at this
   refine B0n (us0:=V) (N:=xs.length+1) aq H Q sv dv X.symm ad z u rfl O ae S hnq (by omega) (by omega) ?_ ?_
   ·have s1:=F3 b32 V (i:=nq) (by omega)
    have s2:=C6 (by decide) (O.take nq)
    have s3:val b32 V<b32^xs.length*2^s:=by
     rw [S];exact bK J c
    have s4:b32^(mm+1)<=val b32 ys:=by
     have:=aC (show 1<=ys.getD (mm+1) 0 by omega) (aG (D5 (B:=b32) (by decide) (mm+1)));omega
    have s5:b32^nq*(b32^(mm+1)*2^s)<=b32^nq*(val b32 ys*2^s):=bG (aC s4 (aG c)) (aG (D5 (by decide) nq))
    have s6:b32^nq*(b32^(mm+1)*2^s)=b32^xs.length*2^s:=by
     rw [<- Int.mul_assoc,<- Int.pow_add,show nq+(mm+1)=xs.length by omega]
    by_cases f:val b32 (V.drop nq)<val b32 ys*2^s
    ·exact f
    ·have:=bG (show val b32 ys*2^s<=val b32 (V.drop nq) by omega) (aG (D5 (B:=b32) (by decide) nq));omega
   ·intro A1 m1 c1 A2 m2 c2 h' g ar w aa o
    exact hK _ _ _ _ _ _ _ (Heap.le_trans q g) ar w aa o
end
def A8z(h:bW)(A:Option bO)(len:Nat):List Int:=(List.range len).map fun i=>
 match A with
 | some a=>(match h.cell? (a.add i) with|some (.int _ n)=>n|_=>0)
 | none=>0
def B37(B:Int)(h:bW)(A:Option bO)(len:Nat):Nat:=(val B (A8z h A len)).toNat
def B4h{k:IntKind}{h:bW}{A:Option bO}{xs:List Int}(s:SlI k h A xs):A8z h A xs.length=xs:=by
 apply List.ext_getElem
 ·simp [A8z]
 ·intro i e b
  obtain ⟨a,c,d⟩:=SlV.at s (i:=i) (by simpa using b)
  subst c
  simp [A8z,d]
def Am{k:IntKind}{B:Int}{h:bW}{A:Option bO}{len:Nat}{n:Int}(m:Mag k B h A len n):B37 B h A len=n.toNat:=by
 obtain ⟨a,rfl,s,_,_,rfl⟩:=m
 unfold B37
 rw [B4h s]
def ZB(m:Nat)(z:Int):Prop:=z.natAbs<2^m
def ZB.mono{m n:Nat}{z:Int}(h:ZB m z)(hm:m<=n):ZB n z:=Nat.lt_of_lt_of_le h (Nat.pow_le_pow_right (by decide) hm)
def ZB.neg{m:Nat}{z:Int}(h:ZB m z):ZB m (-z):=by unfold ZB at *;rwa [aQ]
def ZB.add{m:Nat}{x y:Int}(hx:ZB m x)(hy:ZB m y):ZB (m+1) (x+y):=by
 unfold ZB at *;rw [aK]
 have:=Int.natAbs_add_le x y;omega
def ZB.sub{m:Nat}{x y:Int}(hx:ZB m x)(hy:ZB m y):ZB (m+1) (x-y):=by
 rw [Int.sub_eq_add_neg];exact hx.add hy.neg
def ZB.mul{m n:Nat}{x y:Int}(hx:ZB m x)(hy:ZB n y):ZB (m+n) (x*y):=by
 unfold ZB at *;rw [bN,Nat.pow_add]
 have b:x.natAbs*y.natAbs<=x.natAbs*2^n:=aV _ (Nat.le_of_lt hy)
 have a:x.natAbs*2^n<2^m*2^n:=Nat.mul_lt_mul_of_pos_right hx (aJ (by decide))
 omega
def ZB.le{m:Nat}{x y:Int}(hx:ZB m x)(h:y.natAbs<=x.natAbs):ZB m y:=Nat.lt_of_le_of_lt h hx
def ZB.one{m:Nat}(h:1<=m):ZB m 1:=ZB.mono (m:=1) (by unfold ZB;decide) h
def ZB.zero{m:Nat}:ZB m 0:=aJ (by decide)
def B3c{k:IntKind}{j:Nat}(hj:0<j){h:bW}{A:Option bO}{n m:Nat}{x:Int}(M:Mag k ((2:Int)^j) h A n x)(hx:x<2^m):n<=m/j+1:=by
 refine M.len_le ?_ ?_
 ·have:=C8 (B:=2) (by decide) hj;omega
 ·have e:((2:Int)^j)^(m/j+1)=2^(j*(m/j+1)):=by rw [Int.pow_mul]
  rw [e]
  have:m<=j*(m/j+1):=by
   have b:=Nat.div_add_mod m j
   have a:=Nat.mod_lt m hj
   rw [Nat.mul_add];omega
  have:=C8 (B:=2) (by decide) this
  omega
structure NI (h:bW) (s:Bool) (A:Option bO) (n c:Nat) (z:Int):Prop where
 mag:Mg h A n (z.natAbs:Int)
 sg:s=decide (z<0)
 cap:n<=c
section
variable {h h':bW} {K:VP} {A B:Option bO} {n c n' c':Nat} {s s':Bool} {x y z:Int} {m:Nat}
def NI.mono(hl:h.le h')(i:NI h s A n c z):NI h' s A n c z:=⟨i.mag.mono hl,i.sg,i.cap⟩
def NI.len(i:NI h s A n c z)(hz:ZB m z)(hm:m<=1000000000):n<=100000000:=by
 have:=B3c (j:=32) (by decide) i.mag (m:=m) (by unfold ZB at hz;have:((z.natAbs:Nat):Int)<((2^m:Nat):Int):=by omega
                                                simpa using this)
 omega
def NI.zero_iff(i:NI h s A n c z):n=0↔z=0:=by
 have:=i.mag.len_zero (by decide)
 omega
def NI.nil:NI h false A 0 0 0:=⟨Mag.zero,rfl,aT _⟩
def N6{neg:Bool}{x:Int}(M:Mg h A n x)(hc:n<=c)(hK:∀ s,NI h s A n c (if neg then -x else x)->K (.agg #[.bool s,.slice A n c]) h):aM prog R8 #[.bool neg,.slice A n c] h K:=by
 have a:=M.nonneg (by decide)
 have b:=M.len_zero (by decide)
 refine B5n _ _ _ _ ?_
 unfold C02
 refine Br.of (fun e=>?_) (fun e=>?_)
 ·subst e
  refine hK _ ⟨?_,?_,hc⟩
  ·have:(((if true=true then -x else x).natAbs:Nat):Int)=x:=by simp;omega
   rw [this];exact M
  ·simp;omega
 ·subst e
  refine hK _ ⟨?_,?_,hc⟩
  ·have:(((if false=true then -x else x).natAbs:Nat):Int)=x:=by simp;omega
   rw [this];exact M
  ·simp;omega
def Rw(hz: -9223372036854775808<=z/\z<=9223372036854775807)(hK:∀ s A n c h',h.le h'->NI h' s A n c z->K (.agg #[.bool s,.slice A n c]) h'):aM prog Jz #[I z] h K:=by
 refine A7k _ ?_
 unfold A9f
 refine ⟨fun l h'=>l=[U z.natAbs]/\h'=h,B6 (fun p=>⟨?_,rfl⟩) (fun p=>⟨?_,rfl⟩),?_⟩
 ·have:C0 (0-C0 z)=z.natAbs:=by rw [E4,E4];omega
  rw [this]
 ·have:C0 z=z.natAbs:=by rw [E4];omega
  rw [this]
 ·rintro u o ⟨q,rfl⟩
  obtain rfl:u=(z.natAbs:Int):=by simpa using q
  rw [Y5,Xf,O1 (n:=(z.natAbs:Int)/4294967296) (by omega) (by omega)]
  refine C17 Pv rfl rfl ?_
  intro b k
  refine ⟨_,_,_,rfl,?_⟩
  have a:Dig b32 [(z.natAbs:Int)%4294967296,(z.natAbs:Int)/4294967296]:=by
   intro d a
   simp only [List.mem_cons,List.not_mem_nil,or_false] at a
   show _/\_<(4294967296:Int)
   rcases a with rfl|rfl<;>omega
  refine Y8 (xs:=[(z.natAbs:Int)%4294967296,(z.natAbs:Int)/4294967296]) (SlI.new o b _ C3 _) a (aT _) (by simp) ?_
  intro m g e
  have j:val b32 [(z.natAbs:Int)%4294967296,(z.natAbs:Int)/4294967296]=z.natAbs:=by
   simp only [val]
   show _+(4294967296:Int)*(_+4294967296*0)=_
   omega
  rw [j] at e
  refine ⟨_,_,_,rfl,?_⟩
  refine N6 e (by simpa using g) ?_
  intro s i
  refine ⟨_,_,_,_,rfl,hK _ _ _ _ _ (Heap.le_put _ k) ?_⟩
  have:(if decide (z<0)=true then -(z.natAbs:Int) else (z.natAbs:Int))=z:=by
   by_cases f:z<0
   ·rw [iP (by simpa using f)];omega
   ·rw [iN (by simpa using f)];omega
  rw [this] at i
  exact i
def A37(i:NI h s A n c z)(hK:K (I z.sign) h):aM prog A19 #[.agg #[.bool s,.slice A n c]] h K:=by
 have d:=i.zero_iff
 have a:=i.sg
 refine B8f _ _ _ _ ?_
 unfold C4b
 refine Br.of (fun e=>?_) (fun e=>?_)
 ·have b:z<0:=by rw [a] at e;simpa using e
  rw [aH b] at hK;exact hK
 ·have b:¬ z<0:=by rw [a] at e;simpa using e
  refine D8 (fun e=>?_) (fun e=>?_)
  ·have:z=0:=by omega
   subst this;exact hK
  ·rw [aD (by omega)] at hK;exact hK
def A0p(i:NI h s A n c z)(hK:∀ s,NI h s A n c (-z)->K (.agg #[.bool s,.slice A n c]) h):aM prog A4a #[.agg #[.bool s,.slice A n c]] h K:=by
 refine C2j _ _ _ _ ?_
 unfold C6v
 refine N6 i.mag i.cap ?_
 intro d a
 refine ⟨_,_,_,_,rfl,hK _ ?_⟩
 have:(if (!s)=true then -(z.natAbs:Int) else (z.natAbs:Int))= -z:=by
  rw [i.sg]
  by_cases b:z<0
  ·rw [iN (by simpa using b)];omega
  ·rw [iP (by simpa using b)];omega
 rw [this] at a;exact a
def A92(ia:NI h s A n c x)(ib:NI h s' B n' c' y)(hx:ZB m x)(hy:ZB m y)(hm:m<=1000000000)(hK:∀ s A n c h',h.le h'->NI h' s A n c (x+y)->K (.agg #[.bool s,.slice A n c]) h'):aM prog A8s #[.agg #[.bool s,.slice A n c],.agg #[.bool s',.slice B n' c']] h K:=by
 have w:=ia.len hx hm
 have C:=ib.len hy hm
 refine C2m _ _ _ _ _ _ _ _ ?_
 unfold C6y
 have g:=ia.sg
 have b:=ib.sg
 refine Br.of (fun e=>?_) (fun e=>?_)
 ·have k:s=s':=by simpa using e
  refine Wd ia.mag ib.mag w C ?_
  intro A' u c1 o a i q
  refine ⟨_,_,_,rfl,a,?_⟩
  refine N6 q i ?_
  intro z l
  refine ⟨_,_,_,_,rfl,B3 _,hK _ _ _ _ _ a ?_⟩
  have:(if s=true then -((x.natAbs:Int)+y.natAbs) else (x.natAbs:Int)+y.natAbs)=x+y:=by
   rw [k] at g
   by_cases f:x<0
   ·have:s=true:=by rw [k,g];simpa using f
    rw [iP this]
    have:y<0:=by rw [b] at g;simpa [f] using g
    omega
   ·have:¬ s=true:=by rw [k,g];simpa using f
    rw [iN this]
    have:¬ y<0:=by rw [b] at g;simpa [f] using g
    omega
  rw [this] at l;exact l
 ·have k:s≠s':=by simpa using e
  refine Vy ia.mag ib.mag (by omega) ⟨_,rfl,B6 (fun o=>?_) (fun o=>?_)⟩
  ·have p:(y.natAbs:Int)<=x.natAbs:=by
    by_cases t:(x.natAbs:Int)<y.natAbs
    ·rw [iP t] at o;omega
    ·omega
   refine Ui ia.mag ib.mag p w ?_
   intro A' u c1 o a i q
   refine ⟨_,_,_,rfl,a,?_⟩
   refine N6 q i ?_
   intro z l
   refine ⟨_,_,_,_,rfl,B3 _,hK _ _ _ _ _ a ?_⟩
   have:(if s=true then -((x.natAbs:Int)-y.natAbs) else (x.natAbs:Int)-y.natAbs)=x+y:=by
    by_cases f:x<0
    ·have d:s=true:=by rw [g];simpa using f
     rw [iP d]
     have:¬ y<0:=by intro j;apply k;rw [g,b];simp [f,j]
     omega
    ·have d:¬ s=true:=by rw [g];simpa using f
     rw [iN d]
     have:y<0:=by
      by_cases j:y<0
      ·exact j
      ·exact absurd (by rw [g,b];simp [f,j]) k
     omega
   rw [this] at l;exact l
  ·have p:(x.natAbs:Int)<=y.natAbs:=by
    by_cases t:(x.natAbs:Int)<y.natAbs
    ·omega
    ·rw [iN t] at o
     by_cases r:(x.natAbs:Int)>y.natAbs
     ·rw [iP r] at o;omega
     ·rw [iN r] at o;omega
   refine Ui ib.mag ia.mag p C ?_
   intro A' u c1 o a i q
   refine ⟨_,_,_,rfl,a,?_⟩
   refine N6 q i ?_
   intro z l
   refine ⟨_,_,_,_,rfl,B3 _,hK _ _ _ _ _ a ?_⟩
   have:(if s'=true then -((y.natAbs:Int)-x.natAbs) else (y.natAbs:Int)-x.natAbs)=x+y:=by
    by_cases f:y<0
    ·have d:s'=true:=by rw [b];simpa using f
     rw [iP d]
     have:¬ x<0:=by intro j;apply k;rw [g,b];simp [f,j]
     omega
    ·have d:¬ s'=true:=by rw [b];simpa using f
     rw [iN d]
     have:x<0:=by
      by_cases j:x<0
      ·exact j
      ·exact absurd (by rw [g,b];simp [f,j]) k
     omega
   rw [this] at l;exact l
def A36(x y:Int)(p:Nat)(hs:s=decide (x<0))(hs':s'=decide (y<0)):(if (!(s==s'))=true then -(p:Int) else (p:Int))=x.sign*y.sign*p\/x=0\/y=0:=by
 by_cases d:x=0
 ·right;left;exact d
 by_cases c:y=0
 ·right;right;exact c
 left
 by_cases b:x<0<;>by_cases a:y<0
 ·rw [aH b,aH a,iN (by rw [hs,hs'];simp [b,a])];omega
 ·rw [aH b,aD (by omega),iP (by rw [hs,hs'];simp [b,a])];omega
 ·rw [aD (by omega),aH a,iP (by rw [hs,hs'];simp [b,a])];omega
 ·rw [aD (by omega),aD (by omega),iN (by rw [hs,hs'];simp [b,a])];omega
def A9s(x y:Int):x.tdiv y=x.sign*y.sign*((x.natAbs/y.natAbs:Nat):Int):=by
 have key:∀ a b:Nat,(a:Int).tdiv b=(a:Int).sign*(b:Int).sign*((a/b:Nat):Int):=by
  intro a b
  rw [<- Int.ofNat_tdiv]
  by_cases d:a=0
  ·subst d;simp
  by_cases c:b=0
  ·subst c;simp
  rw [aD (by omega),aD (by omega),Int.one_mul,Int.one_mul]
 obtain ⟨a,rfl|rfl⟩:=Int.eq_nat_or_neg x<;>obtain ⟨b,rfl|rfl⟩:=Int.eq_nat_or_neg y<;>simp only [Int.neg_tdiv,Int.tdiv_neg,Int.sign_neg,aQ,aE,key]<;>grind
def Da{m':Nat}(ia:NI h s A n c x)(ib:NI h s' B n' c' y)(hx:ZB m x)(hy:ZB m' y)(hm:m<=1000000000)(hm':m'<=1000000000)(hK:∀ s A n c h',h.le h'->NI h' s A n c (x*y)->K (.agg #[.bool s,.slice A n c]) h'):aM prog Kl #[.agg #[.bool s,.slice A n c],.agg #[.bool s',.slice B n' c']] h K:=by
 refine C2k _ _ _ _ _ _ _ _ ?_
 unfold C6w
 refine Uz ia.mag ib.mag (ia.len hx hm) (ib.len hy hm') ?_
 intro A' j c1 l a b f
 refine ⟨_,_,_,rfl,a,?_⟩
 refine N6 f b ?_
 intro k d
 refine ⟨_,_,_,_,rfl,B3 _,hK _ _ _ _ _ a ?_⟩
 have:(if (!(s==s'))=true then -((x.natAbs:Int)*y.natAbs) else (x.natAbs:Int)*y.natAbs)=x*y:=by
  rcases A36 x y (x.natAbs*y.natAbs) ia.sg ib.sg with e|e|e
  ·rw [aS] at e
   rw [e]
   have g:=Int.sign_mul_natAbs x
   have i:=Int.sign_mul_natAbs y
   have:x.sign*y.sign*((x.natAbs:Int)*y.natAbs)=(x.sign*x.natAbs)*(y.sign*y.natAbs):=by grind
   rw [this,g,i]
  ·subst e;simp
  ·subst e;simp
 rw [this] at d;exact d
def Up(ia:NI h s A n c x)(ib:NI h s' B n' c' y)(hy0:y≠0)(hx:ZB m x)(hy:ZB m y)(hm:m<=1000000000)(hK:∀ s A n c s' B n' c' h',h.le h'->NI h' s A n c (x.tdiv y)->NI h' s' B n' c' (x.tmod y)->K (.tuple #[.agg #[.bool s,.slice A n c],.agg #[.bool s',.slice B n' c']]) h'):aM prog Oi #[.agg #[.bool s,.slice A n c],.agg #[.bool s',.slice B n' c']] h K:=by
 refine B10 _ _ _ _ _ _ _ _ ?_
 unfold B5k
 refine Vs ia.mag ib.mag (by omega) (ia.len hx hm) (ib.len hy hm) ?_
 intro A1 o c1 A2 p c2 t a b d M1 M2
 refine ⟨_,_,_,_,_,_,rfl,?_⟩
 refine N6 M1 b ?_
 intro q g
 refine ⟨_,_,_,_,rfl,B3 _,?_⟩
 refine N6 M2 d ?_
 intro r f
 refine ⟨_,_,_,_,rfl,B3 _,hK _ _ _ _ _ _ _ _ _ a ?_ ?_⟩
 ·have:(if (!(s==s'))=true then -((x.natAbs:Int)/y.natAbs) else (x.natAbs:Int)/y.natAbs)=x.tdiv y:=by
   rcases A36 x y (x.natAbs/y.natAbs) ia.sg ib.sg with e|e|e
   ·rw [bD] at e
    rw [e,A9s,bD]
   ·subst e;simp
   ·exact absurd e hy0
  rw [this] at g;exact g
 ·have:(if s=true then -((x.natAbs:Int)%y.natAbs) else (x.natAbs:Int)%y.natAbs)=x.tmod y:=by
   rw [ia.sg]
   by_cases i:x<0
   ·rw [iP (by simpa using i)]
    obtain ⟨k,rfl⟩:∃ k:Nat,x= -(k:Int):=⟨x.natAbs,by omega⟩
    rw [Int.neg_tmod,aQ,aE]
    congr 1
    rw [<- bM (by omega)]
    by_cases l:y<0
    ·obtain ⟨j,rfl⟩:∃ j:Nat,y= -(j:Int):=⟨y.natAbs,by omega⟩
     rw [Int.tmod_neg,aQ,aE]
    ·rw [aN (by omega)]
   ·rw [iN (by simpa using i)]
    rw [aN (by omega),<- bM (by omega)]
    by_cases l:y<0
    ·obtain ⟨j,rfl⟩:∃ j:Nat,y= -(j:Int):=⟨y.natAbs,by omega⟩
     rw [Int.tmod_neg,aQ,aE]
    ·rw [aN (by omega)]
  rw [this] at f;exact f
end
def O0(n:Nat):Nat:=if n=0 then 0 else Nat.log2 n+1
def A4k:O0 0=0:=rfl
def B4i{n:Nat}(h:n≠0):O0 n=O0 (n/2)+1:=by
 unfold O0
 rw [iN h]
 by_cases a:n/2=0
 ·have:n=1:=by omega
  subst this;rfl
 ·rw [iN a,Nat.log2_def n,iP (by omega)]
def Fb{n:Nat}(h:n≠0):2^(O0 n-1)<=n/\n<2^O0 n:=by
 unfold O0
 rw [iN h,Nat.add_sub_cancel]
 exact ⟨Nat.log2_self_le h,Nat.lt_log2_self⟩
def A74{n k:Nat}(h1:2^k<=n)(h2:n<2^(k+1)):O0 n=k+1:=by
 have c:n≠0:=by have:=aJ (n:=k) (show 0<2 by decide);omega
 unfold O0
 rw [iN c]
 have a:=(Nat.le_log2 c).2 h1
 have b:=(Nat.log2_lt c).2 h2
 omega
def Za{l t j:Nat}(hl:l<2^j)(ht:t≠0):O0 (l+2^j*t)=j+O0 t:=by
 obtain ⟨a,b⟩:=Fb ht
 have c:O0 t=O0 t-1+1:=by unfold O0;rw [iN ht];omega
 have d:0<2^j:=aJ (by decide)
 rw [c,<- Nat.add_assoc]
 apply A74
 ·rw [Nat.pow_add]
  have:=aV (2^j) a
  omega
 ·rw [Nat.add_assoc,<- c,Nat.pow_add]
  have:=aV (2^j) (show t+1<=2^O0 t by omega)
  rw [Nat.mul_add] at this;omega
def Iv{n k:Nat}(h:n<2^k):O0 n<=k:=by
 by_cases a:n=0
 ·subst a;rw [A4k];omega
 ·unfold O0;rw [iN a];have:=(Nat.log2_lt a).2 h;omega
def A90{n:Nat}:O0 n=1↔n=1:=by
 constructor
 ·intro h
  by_cases a:n=0
  ·subst a;cases h
  ·have:=Fb a
   rw [h] at this;simp at this;omega
 ·rintro rfl;rfl
def A75{n:Nat}:1<O0 n↔1<n:=by
 by_cases b:n=0
 ·subst b;simp [O0]
 by_cases a:n=1
 ·subst a;decide
 ·have d:O0 n≠0:=by unfold O0;rw [iN b];omega
  have c:O0 n≠1:=fun e=>a (A90.1 e)
  omega
section
variable {h h':bW} {K:VP} {A B:Option bO} {n c n' c':Nat} {s s':Bool} {x y z:Int} {m:Nat}
def B7c(ia:NI h s A n c x)(ib:NI h s' B n' c' y)(hx:ZB m x)(hy:ZB m y)(hm:m<=1000000000)(hK:∀ s A n c h',h.le h'->NI h' s A n c (aL x y)->K (.agg #[.bool s,.slice A n c]) h'):aM prog B3t #[.agg #[.bool s,.slice A n c],.agg #[.bool s',.slice B n' c']] h K:=by
 refine C2l _ _ _ _ _ _ _ _ ?_
 unfold C6x
 refine ⟨fun l b=>∃ (A B:Option bO) (n c n' c' X Y:Nat),l=[.slice A n c,.slice B n' c']/\h.le b/\Mg b A n X/\Mg b B n' Y/\n<=c/\n'<=c'/\Nat.gcd X Y=aL x y/\n<=100000000/\n'<=100000000,fun l b=>match l with|[_,.slice A n _]=>B37 b32 b A n|_=>0,⟨_,_,_,_,_,_,_,_,rfl,B3 h,ia.mag,ib.mag,ia.cap,ib.cap,rfl,ia.len hx hm,ib.len hy hm⟩,?_⟩
 rintro A1 u c1 B1 t c2 b ⟨A1',B1',o,g,f,p,X,Y,w,d,M1,M2,F,C,i,G,q⟩
 obtain ⟨⟨rfl,rfl,rfl⟩,rfl,rfl,rfl⟩:(A1=A1'/\u=o/\c1=g)/\B1=B1'/\t=f/\c2=p:=by simpa using w
 have O:=M2.len_zero (by decide)
 refine B6 (fun z=>?_) (fun z=>?_)
 ·have k:Y≠0:=by omega
  refine Vs M1 M2 (by omega) G q ?_
  intro A3 Q L A4 M J h' a H D M3 M4
  have e:((X:Int)%(Y:Int))=((X%Y:Nat):Int):=by omega
  rw [e] at M4
  have E:=Nat.mod_lt X (Nat.pos_of_ne_zero k)
  refine ⟨_,_,_,_,_,_,rfl,⟨_,_,_,_,_,_,Y,X%Y,rfl,Heap.le_trans d a,M2.mono a,M4,C,D,?_,q,?_⟩,?_⟩
  ·rw [<- i,Nat.gcd_comm X Y,Nat.gcd_rec Y X,Nat.gcd_comm]
  ·have:=M4.len_le (by decide) (j:=t) (Int.lt_trans (show ((X%Y:Nat):Int)<(Y:Int) by omega) (M2.lt (by decide)))
   omega
  ·simp only [Am M4,Am M2];omega
 ·have k:Y=0:=by omega
  subst k
  rw [Nat.gcd_zero_right] at i
  refine N6 M1 F ?_
  intro N r
  refine ⟨_,_,_,_,rfl,hK _ _ _ _ _ d ?_⟩
  rw [i] at r
  exact r
def A4l(i:NI h s A n c z)(hz:ZB m z)(hm:m<=1000000000)(hK:K (I (O0 z.natAbs)) h):aM prog A1d #[.agg #[.bool s,.slice A n c]] h K:=by
 have R:=i.len hz hm
 have E:=i.zero_iff
 refine B8p _ _ _ _ ?_
 unfold C4l
 refine D8 (fun e=>?_) (fun e=>?_)
 ·have:z=0:=E.1 (by omega)
  subst this;exact hK
 ·obtain ⟨a,g,M,o,F,u⟩:=i.mag
  obtain ⟨k,hk⟩:∃ k,a.length=k+1:=⟨a.length-1,by omega⟩
  have J:B4 ((n:Int)-1)=(k:Int):=by rw [B7 (by omega) (by omega)];omega
  have y:B4 (32*(k:Int))=((32*k:Nat):Int):=by rw [B7 (by omega) (by omega)];omega
  rw [J,y]
  refine M.load g (by omega) (by omega) ?_
  rw [aR]
  have p:=Bv o k
  have S:=A2t hk F
  have D:32*k+O0 (a.getD k 0).toNat=O0 z.natAbs:=by
   have q:=G1 b32 a k
   rw [<- hk,bC] at q
   have L:=L5 (by decide) (o.take k)
   have B:=C6 (by decide) (o.take k)
   rw [List.length_take,bI (by omega)] at L
   have O:b32^k=((2^(32*k):Nat):Int):=by
    rw [show b32=(2:Int)^32 by decide,<- Int.pow_mul];simp
   have f:z.natAbs=(val b32 (a.take k)).toNat+2^(32*k)*(a.getD k 0).toNat:=by
    have:((z.natAbs:Nat):Int)=(((val b32 (a.take k)).toNat+2^(32*k)*(a.getD k 0).toNat:Nat):Int):=by
     rw [<- u,q,Int.natCast_add,aS,<- O,aW B,aW p.1]
    omega
   rw [f,Za (by omega) (by omega)]
  refine ⟨fun l r=>∃ (t k:Nat),l=[I k,U32 t]/\r=h/\k+O0 t=O0 z.natAbs/\t<4294967296,fun l _=>(iAt l 1).toNat,⟨(a.getD k 0).toNat,32*k,?_,rfl,D,by omega⟩,?_⟩
  ·rw [aW p.1]
  ·rintro H x r ⟨t,d,j,rfl,b,C⟩
   obtain ⟨rfl,rfl⟩:H=(d:Int)/\x=(t:Int):=by simpa using j
   have w:O0 z.natAbs<=m:=Iv hz
   refine B6 (fun G=>?_) (fun G=>?_)
   ·have f:Int.fdiv (t:Int) (2^(min ((1:Int)).toNat 32))=((t/2:Nat):Int):=by
     rw [show (2:Int)^(min ((1:Int)).toNat 32)=2 by decide,Int.fdiv_eq_ediv_of_nonneg _ (by decide)];omega
    have Q:=B4i (n:=t) (by omega)
    have N:B4 ((d:Int)+1)=((d+1:Nat):Int):=by rw [B7 (by omega) (by omega)];omega
    rw [f,N]
    exact ⟨⟨t/2,d+1,rfl,rfl,by omega,by omega⟩,by simp only [iAt,bU,List.getElem?_cons_succ];omega⟩
   ·have:t=0:=by omega
    subst this
    rw [A4k,Nat.add_zero] at b
    rw [b];exact hK
end
structure QV where
 s:Bool
 A:Option bO
 n:Nat
 c:Nat
 s2:Bool
 A2:Option bO
 n2:Nat
 c2:Nat
abbrev QV.v(w:QV):Value:=.agg #[.bool w.s,.slice w.A w.n w.c,.bool w.s2,.slice w.A2 w.n2 w.c2]
structure NQ (h:bW) (w:QV) (q:Rat):Prop where
 num:NI h w.s w.A w.n w.c q.num
 den:NI h w.s2 w.A2 w.n2 w.c2 (if q.den=1 then 0 else (q.den:Int))
structure Sz (m:Nat) (q:Rat):Prop where
 num:ZB m q.num
 den:ZB m q.den
def Sz.mono{m n:Nat}{q:Rat}(h:Sz m q)(hm:m<=n):Sz n q:=⟨h.num.mono hm,h.den.mono hm⟩
def Sz.neg{m:Nat}{q:Rat}(h:Sz m q):Sz m (-q):=⟨by rw [Rat.neg_num];exact h.num.neg,by rw [Rat.neg_den];exact h.den⟩
def Vt{a b:Int}(hb:b≠0):(aF a b).num.natAbs<=a.natAbs/\(aF a b).den<=b.natAbs:=by
 have d:0<aL b a:=Int.gcd_pos_of_ne_zero_left a hb
 rw [Rat.num_divInt,Rat.den_divInt,iN hb]
 constructor
 ·have c:(aL b a:Int)∣b.sign*a:=Int.dvd_mul_of_dvd_right (aZ b a)
  rw [Int.natAbs_ediv_of_dvd c,bN,aE]
  have:b.sign.natAbs=1:=by
   rw [Int.natAbs_sign];simp [hb]
  rw [this,Nat.one_mul]
  exact Nat.div_le_self _ _
 ·exact Nat.div_le_self _ _
def Pk{m:Nat}{a b:Int}(hb:b≠0)(h1:ZB m a)(h2:ZB m b):Sz m (aF a b):=by
 have:=Vt (a:=a) hb
 exact ⟨h1.le this.1,h2.le (by simpa using this.2)⟩
def Fd(p q:Rat):p+q=aF (p.num*q.den+q.num*p.den) (p.den*q.den):=by
 rw [Rat.add_def',<- aS,bB]
def Ju(p q:Rat):p*q=aF (p.num*q.num) (p.den*q.den):=by
 rw [Rat.mul_def',<- aS,bB]
def Kb(z:Int):aF z 1=(z:Rat):=by
 show aF z ((1:Nat):Int)=_
 rw [bB]
 apply Rat.ext
 ·rw [Rat.num_mkRat];simp
 ·rw [Rat.den_mkRat];simp
def den_ne(q:Rat):(q.den:Int)≠0:=by have:=q.den_nz;omega
def Yv(p q:Rat):p/q=aF (p.num*q.den) (p.den*q.num):=by
 rw [Rat.div_def,<- aP p,<- aP q,Rat.inv_divInt,Rat.divInt_mul_divInt]
 rw [aP,aP]
def Sz.add{m n:Nat}{p q:Rat}(hp:Sz m p)(hq:Sz n q):Sz (m+n+1) (p+q):=by
 rw [Fd]
 refine Pk (aO (den_ne p) (den_ne q)) ?_ ((hp.den.mul hq.den).mono (by omega))
 exact (hp.num.mul hq.den).add ((hq.num.mul hp.den).mono (by omega))
def Sz.sub{m n:Nat}{p q:Rat}(hp:Sz m p)(hq:Sz n q):Sz (m+n+1) (p-q):=by
 rw [Rat.sub_eq_add_neg];exact hp.add hq.neg
def Sz.mul{m n:Nat}{p q:Rat}(hp:Sz m p)(hq:Sz n q):Sz (m+n) (p*q):=by
 rw [Ju]
 exact Pk (aO (den_ne p) (den_ne q)) (hp.num.mul hq.num) (hp.den.mul hq.den)
def Sz.zero{m:Nat}(hm:1<=m):Sz m 0:=⟨ZB.zero,ZB.one hm⟩
def Sz.inv{m:Nat}{q:Rat}(h:Sz m q)(hm:1<=m):Sz m q⁻¹:=by
 constructor
 ·rw [Rat.num_inv]
  refine h.den.le ?_
  rw [bN]
  by_cases a:q.num=0
  ·rw [a];simp
  ·rw [Int.natAbs_sign];simp [a]
 ·rw [Rat.den_inv]
  split
  ·exact ZB.one hm
  ·have:=h.num
   unfold ZB at *
   simpa using this
def Sz.div{m n:Nat}{p q:Rat}(hp:Sz m p)(hq:Sz n q)(hn:1<=n):Sz (m+n) (p/q):=by
 rw [Rat.div_def];exact hp.mul (hq.inv hn)
def Sz.int{m:Nat}{z:Int}(h:ZB m z)(hm:1<=m):Sz m (z:Rat):=⟨by simpa using h,by simpa using ZB.one hm⟩
section
variable {h h':bW} {K:VP} {A B:Option bO} {n c n' c':Nat} {s s':Bool} {x y z:Int} {m:Nat} {p q:Rat} {a b w:QV}
def NQ.mono(hl:h.le h')(i:NQ h w q):NQ h' w q:=⟨i.num.mono hl,i.den.mono hl⟩
def NQ.whole(i:NI h s A n c z){B:Option bO}:NQ h ⟨s,A,n,c,false,B,0,0⟩ (z:Rat):=⟨by simpa using i,by simpa using NI.nil⟩
def NQ.den_zero(i:NQ h w q):w.n2=0↔q.den=1:=by
 rw [i.den.zero_iff]
 have:=q.den_nz
 split<;>omega
def NQ.zero:NQ h ⟨false,none,0,0,false,none,0,0⟩ 0:=⟨NI.nil,NI.nil⟩
def Aj(i:NQ h w q)(hK:∀ s A n c h',h.le h'->NI h' s A n c q.den->K (.agg #[.bool s,.slice A n c]) h'):aM prog Du #[w.v] h K:=by
 refine B8o _ _ _ _ _ _ _ _ ?_
 unfold C4k
 have a:=i.den_zero
 refine D8 (fun e=>?_) (fun e=>?_)
 ·refine Rw (by decide) ?_
  intro s A n c j g f
  refine ⟨_,_,_,_,rfl,hK _ _ _ _ _ g ?_⟩
  rw [a.1 (by omega)];exact f
 ·have b:=i.den
  rw [iN (fun d=>e (by have:=a.2 d;omega))] at b
  exact hK _ _ _ _ _ (B3 h) b
def Ob(ix:NI h s A n c x)(iy:NI h s' B n' c' y)(hy0:y≠0)(hx:ZB m x)(hy:ZB m y)(hm:m<=1000000000)(hK:∀ w h',h.le h'->NQ h' w (aF x y)->K w.v h'):aM prog Qs #[.agg #[.bool s,.slice A n c],.agg #[.bool s',.slice B n' c']] h K:=by
 refine B8n _ _ _ _ _ _ _ _ ?_
 unfold C4j
 refine ⟨fun l k=>∃ s A n c s' B n' c' f d,l=[.bool s,.slice A n c,.bool s',.slice B n' c']/\h.le k/\NI k s A n c f/\NI k s' B n' c' d/\0<d/\aF f d=aF x y/\ZB m f/\ZB m d,Br.of (fun e=>?_) (fun e=>?_),?_⟩
 ·have ak:y<0:=by have:=iy.sg;rw [e] at this;simpa using this.symm
  refine A0p ix ?_
  intro s1 u
  refine ⟨_,_,_,_,rfl,B3 h,?_⟩
  refine A0p iy ?_
  intro s2 z
  exact ⟨_,_,_,_,rfl,B3 h,_,_,_,_,_,_,_,_,-x,-y,rfl,B3 h,u,z,by omega,Rat.neg_divInt_neg x y,hx.neg,hy.neg⟩
 ·have j:0<y:=by have:=iy.sg;rw [e] at this;have:¬ y<0:=by simpa using this.symm
                 omega
  exact ⟨_,_,_,_,_,_,_,_,x,y,rfl,B3 h,ix,iy,j,rfl,hx,hy⟩
 rintro s1 A1 n1 c1 s2 A2 n2 c2 am ⟨J,A1',V,M,ai,A2',L,ag,f,d,hl,C,u,z,j,hq,t,o⟩
 obtain ⟨rfl,⟨rfl,rfl,rfl⟩,rfl,rfl,rfl,rfl⟩:s1=J/\(A1=A1'/\n1=V/\c1=M)/\s2=ai/\A2=A2'/\n2=L/\c2=ag:=by simpa using hl
 refine B7c u z t o hm ?_
 intro s3 A3 n3 c3 h3 r i3
 refine ⟨_,_,_,_,rfl,?_⟩
 rw [<- hq] at hK
 generalize hqq:aF f d=q at *
 have i:q.num=f/(aL f d:Int):=by
  rw [<- hqq,Rat.num_divInt,aD j,Int.one_mul,Int.gcd_comm]
 have g:(q.den:Int)=d/(aL f d:Int):=by
  rw [<- hqq,Rat.den_divInt,iN (by omega),Int.gcd_comm,bD,aN (by omega)]
 have an:0<aL f d:=Int.gcd_pos_of_ne_zero_right f (by omega)
 have p:ZB m (aL f d:Int):=by
  refine o.le ?_
  rw [aE]
  exact Nat.le_of_dvd (by omega) (by have:=aZ f d;exact Int.ofNat_dvd_left.1 this)
 refine ⟨fun l k=>∃ s A n c s' B n' c',l=[.bool s,.slice A n c,.bool s',.slice B n' c']/\h.le k/\NI k s A n c q.num/\NI k s' B n' c' q.den,?_,?_⟩
 ·refine A4l i3 p hm ⟨_,rfl,?_⟩
  rw [aE]
  refine B6 (fun e=>?_) (fun e=>?_)
  ·refine Up (u.mono r) i3 (by omega) t p hm ?_
   intro s4 A4 S Z s5 A5 n5 c5 h4 O E _
   refine ⟨_,_,_,_,_,_,_,_,rfl,?_⟩
   refine Up ((z.mono r).mono O) (i3.mono O) (by omega) o p hm ?_
   intro X A6 n6 G s7 A7 n7 c7 h5 l5 F _
   have e1:f.tdiv (aL f d:Int)=q.num:=by rw [i,bV (Int.gcd_dvd_left f d)]
   have e2:d.tdiv (aL f d:Int)=q.den:=by rw [g,bV (aZ f d)]
   rw [e1] at E
   rw [e2] at F
   exact ⟨_,_,_,_,_,_,_,_,rfl,_,_,_,_,_,_,_,_,rfl,Heap.le_trans C (Heap.le_trans r (Heap.le_trans O l5)),E.mono l5,F⟩
  ·have hg:aL f d=1:=by
    have:¬ 1<O0 (aL f d):=by omega
    rw [A75] at this;omega
   rw [hg] at i g
   simp at i g
   exact ⟨_,_,_,_,_,_,_,_,rfl,Heap.le_trans C r,by rw [i];exact u.mono r,by rw [g];exact z.mono r⟩
 rintro s4 A4 S Z s5 A5 n5 c5 aj ⟨af,A4',Q,aa,T,A5',N,W,ad,D,E,i5⟩
 obtain ⟨rfl,⟨rfl,rfl,rfl⟩,rfl,rfl,rfl,rfl⟩:s4=af/\(A4=A4'/\S=Q/\Z=aa)/\s5=T/\A5=A5'/\n5=N/\c5=W:=by simpa using ad
 have ac:ZB m (q.den:Int):=by
  refine o.le ?_
  have:=(Vt (a:=f) (b:=d) (by omega)).2
  rw [hqq] at this
  simpa using this
 refine ⟨fun l k=>∃ s' B n' c',l=[.bool s',.slice B n' c']/\k=aj/\NI k s' B n' c' (if q.den=1 then 0 else (q.den:Int)),?_,?_⟩
 ·refine A4l i5 ac hm ⟨_,rfl,?_⟩
  rw [aE]
  refine D8 (fun e=>?_) (fun e=>?_)
  ·have:q.den=1:=A90.1 (by omega)
   exact ⟨_,_,_,_,rfl,rfl,by rw [iP this];exact NI.nil⟩
  ·have:¬ q.den=1:=fun e1=>e (by rw [e1];rfl)
   exact ⟨_,_,_,_,rfl,rfl,by rw [iN this];exact i5⟩
 rintro X A6 n6 G al ⟨R,A6',ah,H,ae,rfl,F⟩
 obtain ⟨rfl,rfl,rfl,rfl⟩:X=R/\A6=A6'/\n6=ah/\G=H:=by simpa using ae
 exact hK ⟨s4,A4,S,Z,X,A6,n6,G⟩ _ D ⟨E,F⟩
def C39(hz: -9223372036854775808<=z/\z<=9223372036854775807)(hK:∀ w h',h.le h'->NQ h' w (z:Rat)->K w.v h'):aM prog C5i #[I z] h K:=by
 refine C5u _ ?_
 unfold NR
 refine Rw hz ?_
 intro s A n c d b a
 exact ⟨_,_,_,_,rfl,hK ⟨s,A,n,c,false,none,0,0⟩ _ b (NQ.whole a)⟩
def Cb(i:NQ h w q)(hK:K (I q.num.sign) h):aM prog Df #[w.v] h K:=by
 refine B5j _ _ _ _ _ _ _ _ ?_
 unfold C01
 exact A37 i.num ⟨_,rfl,hK⟩
def A3b(i:NQ h w q)(hK:∀ w,NQ h w (-q)->K w.v h):aM prog A1b #[w.v] h K:=by
 refine B8i _ _ _ _ _ _ _ _ ?_
 unfold C4e
 refine A0p i.num ?_
 intro b a
 exact ⟨_,_,_,_,rfl,B3 h,hK ⟨b,w.A,w.n,w.c,w.s2,w.A2,w.n2,w.c2⟩ ⟨a,i.den⟩⟩
def Nn(ia:NQ h a p)(ib:NQ h b q)(hp:Sz m p)(hq:Sz m q)(hm:m<=400000000)(hK:∀ w h',h.le h'->NQ h' w (p+q)->K w.v h'):aM prog Qr #[a.v,b.v] h K:=by
 have k:=ia.den_zero
 have S:=ib.den_zero
 refine B8l _ _ _ _ _ _ _ _ _ _ _ _ _ _ _ _ ?_
 unfold C4h
 refine ⟨fun l h'=>l=[.bool (decide (p.den=1/\q.den=1))]/\h'=h,D8 (fun e=>?_) (fun e=>?_),?_⟩
 ·have n:p.den=1:=k.1 (by omega)
  refine ⟨?_,rfl⟩
  have:((b.n2:Int)==0)=decide (p.den=1/\q.den=1):=by
   rw [Bool.eq_iff_iff];simp [n];omega
  rw [this]
 ·have n:¬ p.den=1:=fun O=>e (by have:=k.2 O;omega)
  exact ⟨by simp [n],rfl⟩
 rintro t M ⟨L,rfl⟩
 obtain rfl:t=decide (p.den=1/\q.den=1):=by simpa using L
 have g:=hp.num;have c:=hp.den;have f:=hq.num;have d:=hq.den
 refine B6 (fun e=>?_) (fun e=>?_)
 ·refine A92 ia.num ib.num g f (by omega) ?_
  intro F A1 D c1 n j x
  refine ⟨_,_,_,_,rfl,hK ⟨F,A1,D,c1,false,none,0,0⟩ _ j ?_⟩
  have:p+q=((p.num+q.num:Int):Rat):=by
   rw [Fd,e.1,e.2]
   show aF (p.num*1+q.num*1) (1*1)=_
   rw [aU,aU,aU,Kb]
  rw [this];exact NQ.whole x
 ·refine Aj ib ?_
  intro F A1 D c1 n j x
  refine ⟨_,_,_,_,rfl,j,?_⟩
  refine Da (ia.num.mono j) x g d (by omega) (by omega) ?_
  intro s2 A2 n2 c2 X z N
  refine ⟨_,_,_,_,rfl,z,?_⟩
  refine Aj (ia.mono (Heap.le_trans j z)) ?_
  intro s3 A3 n3 c3 h3 A R
  refine ⟨_,_,_,_,rfl,A,?_⟩
  have o:=Heap.le_trans j (Heap.le_trans z A)
  refine Da (ib.num.mono o) R f c (by omega) (by omega) ?_
  intro s4 A4 n4 c4 h4 u G
  refine ⟨_,_,_,_,rfl,u,?_⟩
  refine A92 (N.mono (Heap.le_trans A u)) G (g.mul d) (f.mul c) (by omega) ?_
  intro s5 A5 n5 Z h5 B Q
  refine ⟨_,_,_,_,rfl,B,?_⟩
  have i:=Heap.le_trans o (Heap.le_trans u B)
  refine Aj (ia.mono i) ?_
  intro s6 A6 n6 V h6 r J
  refine ⟨_,_,_,_,rfl,r,?_⟩
  refine Aj (ib.mono (Heap.le_trans i r)) ?_
  intro s7 A7 n7 c7 W s H
  refine ⟨_,_,_,_,rfl,s,?_⟩
  refine Da (J.mono s) H c d (by omega) (by omega) ?_
  intro s8 A8 n8 c8 h8 y T
  refine ⟨_,_,_,_,rfl,y,?_⟩
  refine Ob (m:=m+m+1) (Q.mono (Heap.le_trans r (Heap.le_trans s y))) T (aO (den_ne p) (den_ne q)) ((g.mul d).add (f.mul c)) ((c.mul d).mono (by omega)) (by omega) ?_
  intro w h9 C E
  rw [<- Fd] at E
  exact ⟨_,_,_,_,_,_,_,_,rfl,C,hK w _ (Heap.le_trans i (Heap.le_trans r (Heap.le_trans s (Heap.le_trans y C)))) E⟩
def A39(ia:NQ h a p)(ib:NQ h b q)(hp:Sz m p)(hq:Sz m q)(hm:m<=400000000)(hK:∀ w h',h.le h'->NQ h' w (p-q)->K w.v h'):aM prog A1a #[a.v,b.v] h K:=by
 refine B8h _ _ _ _ _ _ _ _ _ _ _ _ _ _ _ _ ?_
 unfold C4d
 refine A3b ib ?_
 intro w i
 refine ⟨_,_,_,_,_,_,_,_,rfl,B3 h,?_⟩
 refine Nn ia i hp hq.neg hm ?_
 intro e f c d
 rw [<- Rat.sub_eq_add_neg] at d
 exact ⟨_,_,_,_,_,_,_,_,rfl,c,hK e _ c d⟩
def Nl(ia:NQ h a p)(ib:NQ h b q)(hp:Sz m p)(hq:Sz m q)(hm:m<=400000000)(hK:∀ w h',h.le h'->NQ h' w (p*q)->K w.v h'):aM prog Qq #[a.v,b.v] h K:=by
 have g:=ia.den_zero
 have G:=ib.den_zero
 refine B8j _ _ _ _ _ _ _ _ _ _ _ _ _ _ _ _ ?_
 unfold C4f
 refine ⟨fun l h'=>l=[.bool (decide (p.den=1/\q.den=1))]/\h'=h,D8 (fun e=>?_) (fun e=>?_),?_⟩
 ·have i:p.den=1:=g.1 (by omega)
  refine ⟨?_,rfl⟩
  have:((b.n2:Int)==0)=decide (p.den=1/\q.den=1):=by
   rw [Bool.eq_iff_iff];simp [i];omega
  rw [this]
 ·have i:¬ p.den=1:=fun E=>e (by have:=g.2 E;omega)
  exact ⟨by simp [i],rfl⟩
 rintro t C ⟨B,rfl⟩
 obtain rfl:t=decide (p.den=1/\q.den=1):=by simpa using B
 have d:=hp.num;have j:=hp.den;have c:=hq.num;have k:=hq.den
 refine B6 (fun e=>?_) (fun e=>?_)
 ·refine Da ia.num ib.num d c (by omega) (by omega) ?_
  intro z A1 x c1 i f s
  refine ⟨_,_,_,_,rfl,hK ⟨z,A1,x,c1,false,none,0,0⟩ _ f ?_⟩
  have:p*q=((p.num*q.num:Int):Rat):=by
   rw [Ju,e.1,e.2]
   show aF (p.num*q.num) (1*1)=_
   rw [aU,Kb]
  rw [this];exact NQ.whole s
 ·refine Da ia.num ib.num d c (by omega) (by omega) ?_
  intro z A1 x c1 i f s
  refine ⟨_,_,_,_,rfl,f,?_⟩
  refine Aj (ia.mono f) ?_
  intro M A2 O c2 H n D
  refine ⟨_,_,_,_,rfl,n,?_⟩
  refine Aj (ib.mono (Heap.le_trans f n)) ?_
  intro T A3 J R S o F
  refine ⟨_,_,_,_,rfl,o,?_⟩
  refine Da (D.mono o) F j k (by omega) (by omega) ?_
  intro Q A4 L N V r A
  refine ⟨_,_,_,_,rfl,r,?_⟩
  refine Ob (m:=m+m) (s.mono (Heap.le_trans n (Heap.le_trans o r))) A (aO (den_ne p) (den_ne q)) (d.mul c) (j.mul k) (by omega) ?_
  intro w W u y
  rw [<- Ju] at y
  exact ⟨_,_,_,_,_,_,_,_,rfl,u,hK w _ (Heap.le_trans f (Heap.le_trans n (Heap.le_trans o (Heap.le_trans r u)))) y⟩
def A3h(ia:NQ h a p)(ib:NQ h b q)(hp:Sz m p)(hq:Sz m q)(hm:m<=400000000)(hK:∀ w h',h.le h'->NQ h' w (p/q)->K w.v h'):aM prog A1c #[a.v,b.v] h K:=by
 refine B8k _ _ _ _ _ _ _ _ _ _ _ _ _ _ _ _ ?_
 unfold C4g
 have i:=hp.num;have c:=hp.den;have d:=hq.num;have g:=hq.den
 refine Cb ib ⟨_,rfl,D8 (fun e=>?_) (fun e=>?_)⟩
 ·have x:q=0:=Rat.num_eq_zero.1 (Int.sign_eq_zero_iff_zero.1 e)
  have:=hK ⟨false,none,0,0,false,none,0,0⟩ h (B3 h) (by rw [x,Rat.div_def,Rat.inv_zero,Rat.mul_zero];exact NQ.zero)
  exact this
 ·have l:q.num≠0:=fun z=>e (by rw [z];rfl)
  refine Aj ib ?_
  intro O A1 E c1 G j u
  refine ⟨_,_,_,_,rfl,j,?_⟩
  refine Da (ia.num.mono j) u i g (by omega) (by omega) ?_
  intro F A2 J c2 B n y
  refine ⟨_,_,_,_,rfl,n,?_⟩
  refine Aj (ia.mono (Heap.le_trans j n)) ?_
  intro Q A3 C M N o A
  refine ⟨_,_,_,_,rfl,o,?_⟩
  have f:=Heap.le_trans j (Heap.le_trans n o)
  refine Da A (ib.num.mono f) c d (by omega) (by omega) ?_
  intro L A4 D H R k t
  refine ⟨_,_,_,_,rfl,k,?_⟩
  refine Ob (m:=m+m) (y.mono (Heap.le_trans o k)) t (aO (den_ne p) l) (i.mul g) (c.mul d) (by omega) ?_
  intro w S r s
  rw [<- Yv] at s
  exact ⟨_,_,_,_,_,_,_,_,rfl,r,hK w _ (Heap.le_trans f (Heap.le_trans k r)) s⟩
end
def dch(d:Nat):UInt8:=UInt8.ofNat (48+d)
def Ew{d:Nat}(h:d<10):(dch d).toNat=48+d:=by
 unfold dch;rw [UInt8.toNat_ofNat'];omega
def G9(c:UInt8):Prop:=48<=c.toNat/\c.toNat<=57
instance (c:UInt8):Decidable (G9 c):=by unfold G9;infer_instance
def C1q{d:Nat}(h:d<10):G9 (dch d):=by unfold G9;rw [Ew h];omega
def B9h{c:UInt8}(h:G9 c):dch (c.toNat-48)=c:=by
 unfold G9 at h
 apply UInt8.toNat_inj.1
 rw [Ew (by omega)];omega
def dd(n:Nat):List UInt8:=if _h:n=0 then [] else dd (n/10)++[dch (n%10)]
def I8:dd 0=[]:=by unfold dd;simp
def T6{n:Nat}(h:n≠0):dd n=dd (n/10)++[dch (n%10)]:=by rw [dd];simp [h]
def J4(l:List UInt8):Nat:=l.foldl (fun a c=>10*a+(c.toNat-48)) 0
def Ip(l:List UInt8)(c:UInt8):J4 (l++[c])=10*J4 l+(c.toNat-48):=by simp [J4]
def C1j(l:List UInt8):∀ a,l.foldl (fun a c=>10*a+(c.toNat-48)) a=a*10^l.length+J4 l:=by
 induction l with
 | nil=>intro a;simp [J4]
 | cons c l ih=>
  intro a
  unfold J4
  rw [List.foldl_cons,List.foldl_cons,ih,ih,List.length_cons,aK]
  grind
def Gs(a b:List UInt8):J4 (a++b)=J4 a*10^b.length+J4 b:=by
 unfold J4;rw [List.foldl_append,C1j b];rfl
def B42(c:UInt8)(l:List UInt8):J4 (c::l)=(c.toNat-48)*10^l.length+J4 l:=by
 rw [<- List.singleton_append,Gs];simp [J4]
def Gr{l:List UInt8}(h:∀ c∈l,G9 c):J4 l<10^l.length:=by
 induction l with
 | nil=>simp [J4]
 | cons c l ih=>
  have d:=ih fun x a=>h x (by simp [a])
  have b:=h c (by simp)
  unfold G9 at b
  rw [B42,List.length_cons,aK]
  have:(c.toNat-48)*10^l.length<=9*10^l.length:=Nat.mul_le_mul_right _ (by omega)
  omega
def C1k(n:Nat):J4 (dd n)=n:=by
 induction n using bH with
 | _ n ih=>
  by_cases h:n=0
  ·subst h;rw [I8];rfl
  ·rw [T6 h,Ip,ih _ (by omega),Ew (by omega)];omega
def C3s(n:Nat):∀ c∈dd n,G9 c:=by
 induction n using bH with
 | _ n ih=>
  by_cases h:n=0
  ·subst h;rw [I8];simp
  ·rw [T6 h]
   intro c b
   rcases List.mem_append.1 b with a|a
   ·exact ih _ (by omega) c a
   ·rw [List.mem_singleton.1 a];exact C1q (by omega)
def B7o{n:Nat}(h:n≠0):dd n≠[]:=by rw [T6 h];simp
def B49(n:Nat)(h:n≠0):(dd n).head? ≠ some 48:=by
 induction n using bH with
 | _ n ih=>
  rw [T6 h]
  by_cases a:n/10=0
  ·rw [a,I8]
   simp only [bJ,List.head?_cons,ne_eq,Option.some.injEq]
   intro e
   have:=Ew (d:=n%10) (by omega)
   rw [e] at this
   simp at this
   omega
  ·have:=ih _ (by omega) a
   obtain ⟨c,r,e⟩:=bL (B7o a)
   rw [e] at this ⊢
   simpa using this
def B4a{l:List UInt8}(h:∀ c∈l,G9 c)(h0:l.head? ≠ some 48):dd (J4 l)=l:=by
 obtain ⟨n,f⟩:∃ n,l.length=n:=⟨_,rfl⟩
 induction n generalizing l with
 | zero=>rw [bF f];exact I8
 | succ n ih=>
  obtain ⟨m,c,rfl⟩:∃ m c,l=m++[c]:=by
   refine ⟨l.dropLast,l.getLast (by rintro rfl;simp at f),?_⟩
   rw [List.dropLast_concat_getLast]
  have b:=h c (by simp)
  have g:=b
  unfold G9 at g
  rw [Ip]
  cases m with
  | nil=>
   simp at h0
   have k:c.toNat-48≠0:=by
    intro e
    apply h0
    apply UInt8.toNat_inj.1
    show c.toNat=48
    omega
   rw [T6 (by simp [J4];omega)]
   simp only [J4,List.foldl_nil,bJ]
   rw [show (10*0+(c.toNat-48))/10=0 by omega,I8,show (10*0+(c.toNat-48))%10=c.toNat-48 by omega,B9h b];rfl
  | cons d m=>
   have a:=ih (l:=d::m) (fun x i=>h x (by simp at i ⊢;rcases i with h|h<;>simp [h])) (by simpa using h0) (by simpa using f)
   have j:J4 (d::m)≠0:=by
    intro e
    rw [e,I8] at a
    cases a
   rw [T6 (by omega),show (10*J4 (d::m)+(c.toNat-48))/10=J4 (d::m) by omega,a,show (10*J4 (d::m)+(c.toNat-48))%10=c.toNat-48 by omega,B9h b]
def Q9{n k:Nat}:(dd n).length<=k↔n<10^k:=by
 induction k generalizing n with
 | zero=>
  constructor
  ·intro h
   have:dd n=[]:=bF (by omega)
   by_cases a:n=0
   ·subst a;decide
   ·exact absurd this (B7o a)
  ·intro h
   have:n=0:=by simp at h;exact h
   subst this;rw [I8];simp
 | succ k ih=>
  by_cases a:n=0
  ·subst a;rw [I8];simp [aJ]
  ·rw [T6 a,aX,List.length_singleton,Nat.add_le_add_iff_right,ih,aK]
   omega
def pad(w n:Nat):List UInt8:=List.replicate (w-(dd n).length) 48++dd n
def A8c(n:Nat):pad 0 n=dd n:=by simp [pad]
def Yo{w n:Nat}(h:n<10^w):(pad w n).length=w:=by
 have:=Q9.2 h
 simp [pad];omega
def Tj(w n:Nat):pad (w+1) n=pad w (n/10)++[dch (n%10)]:=by
 unfold pad
 by_cases h:n=0
 ·subst h
  rw [I8]
  simp only [List.length_nil,Nat.sub_zero,List.append_nil,Nat.zero_mod]
  rw [List.replicate_succ'];rfl
 ·rw [T6 h,aX,List.length_singleton,Nat.add_sub_add_right,aI]
def C3r{h l k:Nat}(h0:h≠0)(hl:l<10^k):dd (h*10^k+l)=dd h++pad k l:=by
 induction k generalizing l with
 | zero=>
  have:l=0:=by simpa using hl
  subst this;simp [pad,I8]
 | succ k ih=>
  have d:0<10^k:=aJ (by decide)
  have a:h*10^(k+1)+l≠0:=by
   have:0<h*10^(k+1):=Nat.mul_pos (by omega) (aJ (by decide))
   omega
  have c:(h*10^(k+1)+l)/10=h*10^k+l/10:=by
   rw [aK,<- Nat.mul_assoc];omega
  have b:(h*10^(k+1)+l)%10=l%10:=by
   rw [aK,<- Nat.mul_assoc];omega
  rw [T6 a,c,b,ih (by rw [aK] at hl;omega),Tj,aI]
def A3k{w h l k:Nat}(hl:l<10^k)(hw:h≠0\/k<=w):pad w (h*10^k+l)=pad (w-k) h++pad k l:=by
 by_cases b:h=0
 ·subst b
  have c:k<=w:=by
   rcases hw with h|h
   ·exact absurd rfl h
   ·exact h
  have:=Q9.2 hl
  unfold pad
  rw [I8]
  simp only [Nat.zero_mul,Nat.zero_add,List.length_nil,Nat.sub_zero,List.append_nil,<- aI,List.replicate_append_replicate]
  congr 2;omega
 ·have e:=C3r b hl
  have a:=Yo hl
  unfold pad at a
  unfold pad at e ⊢
  rw [e,aX,a,<- aI]
  congr 3;omega
def N8(n:Nat):List UInt8:=if n=0 then [48] else dd n
def Z8{n:Nat}(h:n≠0):N8 n=dd n:=by simp [N8,h]
def Ai(n:Nat):J4 (N8 n)=n:=by
 unfold N8;split
 ·rename_i h;subst h;rfl
 ·exact C1k n
def Ox(n:Nat):∀ c∈N8 n,G9 c:=by
 unfold N8;split
 ·intro c a;rw [List.mem_singleton.1 a];decide
 ·exact C3s n
def Vu(n:Nat):N8 n≠[]:=by
 unfold N8;split
 ·simp
 ·rename_i h;exact B7o h
def B7n{a b:Nat}(h:N8 a=N8 b):a=b:=by rw [<- Ai a,h,Ai]
def Ow{l:List UInt8}(h:∀ c∈l,G9 c)(hn:l≠[])(h0:l.head? ≠ some 48\/l=[48]):N8 (J4 l)=l:=by
 rcases h0 with h0|h0
 ·have:=B4a h h0
  rw [Z8,this]
  intro e
  rw [e,I8] at this
  exact hn this.symm
 ·subst h0;rfl
def Ov{n k:Nat}(hk:0<k):(N8 n).length<=k↔n<10^k:=by
 by_cases h:n=0
 ·subst h;have:0<10^k:=aJ (by decide);simp [N8];omega
 ·rw [Z8 h];exact Q9
def Hl(z:Int):List UInt8:=if z<0 then 45::N8 z.natAbs else N8 z.natAbs
def I9(q:Rat):List UInt8:=Hl q.num++(if q.den=1 then [] else 47::N8 q.den)
structure Form (s:List UInt8) (neg:Bool) (a b:List UInt8):Prop where
 eq:s=(if neg then [45] else [])++a++(if b=[] then [] else 47::b)
 da:∀ c∈a,G9 c
 db:∀ c∈b,G9 c
 ne:a≠[]
 ha:a.head? ≠ some 48\/(a=[48]/\neg=false/\b=[])
 hb:b.head? ≠ some 48
 b1:b≠[49]
def A8k{c:UInt8}(h:G9 c):c≠45/\c≠47:=by
 unfold G9 at h
 constructor<;>(rintro rfl;revert h;decide)
def Fq{a r:List UInt8}(h:∀ c∈a,G9 c)(hr:∀ c,r.head? = some c->¬ G9 c):(a++r).takeWhile (fun c=>decide (G9 c))=a/\(a++r).dropWhile (fun c=>decide (G9 c))=r:=by
 induction a with
 | nil=>
  cases r with
  | nil=>simp
  | cons c r=>
   have:=hr c rfl
   simp [this]
 | cons c a ih=>
  have d:=h c (by simp)
  have:=ih fun x b=>h x (by simp [b])
  simp [d,this]
def Form.head{s:List UInt8}{neg:Bool}{a b:List UInt8}(f:Form s neg a b):neg=(s.head? == some 45):=by
 obtain ⟨c,r,e⟩:=bL f.ne
 have d:=(A8k (f.da c (by simp [e]))).1
 rw [f.eq,e]
 cases neg<;>simp [d]
def Form.unique{s:List UInt8}{neg neg':Bool}{a b a' b':List UInt8}(f:Form s neg a b)(g:Form s neg' a' b'):neg=neg'/\a=a'/\b=b':=by
 have p:neg=neg':=by rw [f.head,g.head]
 subst p
 have e:=f.eq.symm.trans g.eq
 rw [aI,aI] at e
 have q:=List.append_cancel_left e
 have l:∀ b:List UInt8,∀ c,(if b=[] then [] else 47::b:List UInt8).head? = some c->¬ G9 c:=by
  intro b c d
  split at d
  ·simp at d
  ·simp at d;subst d;decide
 have j:=Fq f.da (l b)
 have k:=Fq g.da (l b')
 rw [q] at j
 have o:a=a':=j.1.symm.trans k.1
 have m:=j.2.symm.trans k.2
 refine ⟨rfl,o,?_⟩
 by_cases n:b=[]<;>by_cases i:b'=[]<;>simp [n,i] at m ⊢
 exact m
def Vw{q:Rat}(h:q.num=0):q.den=1:=by
 have:=q.reduced
 rw [h] at this
 simpa using this
def Hw(q:Rat):Form (I9 q) (decide (q.num<0)) (N8 q.num.natAbs) (if q.den=1 then [] else N8 q.den):=by
 constructor
 ·unfold I9 Hl
  by_cases a:q.num<0<;>by_cases b:q.den=1<;>simp [a,b,Vu]
 ·exact Ox _
 ·split
  ·simp
  ·exact Ox _
 ·exact Vu _
 ·by_cases h:q.num=0
  ·right
   rw [Vw h,h];simp [N8]
  ·left
   rw [Z8 (by omega)];exact B49 _ (by omega)
 ·split
  ·simp
  ·rw [Z8 q.den_nz];exact B49 _ q.den_nz
 ·split
  ·simp
  ·rename_i h
   intro e
   have c:N8 q.den=N8 1:=by rw [e];simp [N8,T6,I8,dch]
   exact h (B7n c)
def Sd(neg:Bool)(a:List UInt8):Int:=if neg then -(J4 a:Int) else J4 a
def Mi(b:List UInt8):Nat:=if b=[] then 1 else J4 b
def Vq{b:List UInt8}(h:∀ c∈b,G9 c)(hn:b≠[])(h0:b.head? ≠ some 48):J4 b≠0:=by
 intro e
 have:=B4a h h0
 rw [e,I8] at this
 exact hn this.symm
def Form.den_ne{s:List UInt8}{neg:Bool}{a b:List UInt8}(f:Form s neg a b):Mi b≠0:=by
 unfold Mi;split
 ·decide
 ·rename_i h;exact Vq f.db h f.hb
def Form.txt{s:List UInt8}{neg:Bool}{a b:List UInt8}(f:Form s neg a b){q:Rat}(h1:q.num=Sd neg a)(h2:q.den=Mi b):s=I9 q:=by
 have k:N8 (J4 a)=a:=Ow f.da f.ne (f.ha.imp id fun h=>h.1)
 have g:(Sd neg a).natAbs=J4 a:=by unfold Sd;split<;>simp
 have c:(Sd neg a<0)↔neg=true:=by
  unfold Sd
  cases neg
  ·simp
  ·simp only [if_true]
   constructor
   ·intro _;trivial
   ·intro _
    have:J4 a≠0:=by
     rcases f.ha with h|h
     ·exact Vq f.da f.ne h
     ·exact absurd h.2.1 (by simp)
    omega
 have j:(Mi b=1)↔b=[]:=by
  unfold Mi
  split
  ·rename_i h;simp [h]
  ·rename_i h
   constructor
   ·intro e
    exfalso
    have i:=Ow f.db h (Or.inl f.hb)
    rw [e] at i
    apply f.b1
    rw [<- i];simp [N8,T6,I8,dch]
   ·intro e;exact absurd e h
 rw [f.eq]
 unfold I9 Hl
 rw [h1,h2,g,k]
 by_cases d:b=[]
 ·rw [iP d,iP (j.2 d)]
  cases neg
  ·rw [iN (fun e=>Bool.noConfusion (c.1 e))];simp
  ·rw [iP (c.2 rfl)];simp
 ·rw [iN d,iN (fun e=>d (j.1 e))]
  have l:N8 (Mi b)=b:=by
   unfold Mi;rw [iN d];exact Ow f.db d (Or.inl f.hb)
  rw [l]
  cases neg
  ·rw [iN (fun e=>Bool.noConfusion (c.1 e))];simp
  ·rw [iP (c.2 rfl)];simp
def Form.of_txt{s:List UInt8}{neg:Bool}{a b:List UInt8}(f:Form s neg a b){q:Rat}(e:s=I9 q):q.num=Sd neg a/\q.den=Mi b:=by
 subst e
 obtain ⟨g,c,d⟩:=f.unique (Hw q)
 subst g c d
 constructor
 ·unfold Sd
  rw [Ai]
  by_cases h:q.num<0
  ·simp [h];omega
  ·simp [h];omega
 ·unfold Mi
  by_cases h:q.den=1
  ·simp [h]
  ·simp [h,Vu,Ai]
def IsNum(s:List UInt8):Prop:=∃ q,s=I9 q
def Form.isNum{s:List UInt8}{neg:Bool}{a b:List UInt8}(f:Form s neg a b):IsNum s↔Nat.gcd (J4 a) (Mi b)=1:=by
 have c:(Sd neg a).natAbs=J4 a:=by unfold Sd;split<;>simp
 constructor
 ·rintro ⟨q,e⟩
  have:=f.of_txt e
  have d:=q.reduced
  rw [this.1,this.2,c] at d
  exact d
 ·intro h
  exact ⟨⟨Sd neg a,Mi b,f.den_ne,by rw [c];exact h⟩,f.txt rfl rfl⟩
def IsNum.form{s:List UInt8}(h:IsNum s):∃ neg a b,Form s neg a b:=by
 obtain ⟨q,rfl⟩:=h
 exact ⟨_,_,_,Hw q⟩
def B72(s:List UInt8):Rat:=
 let neg:=s.head? == some 45
 let t:=if neg then s.drop 1 else s
 mkRat (Sd neg (t.takeWhile fun c=>decide (G9 c))) (Mi ((t.dropWhile fun c=>decide (G9 c)).drop 1))
def rv(s:List UInt8):Rat:=if I9 (B72 s)=s then B72 s else 0
def D9(q:Rat):rv (I9 q)=q:=by
 have f:=Hw q
 have l:=f.head
 have g:∀ b:List UInt8,∀ c,(if b=[] then [] else 47::b:List UInt8).head? = some c->¬ G9 c:=by
  intro b c a
  split at a
  ·simp at a
  ·simp at a;subst a;decide
 have e:B72 (I9 q)=q:=by
  unfold B72
  simp only [<- l]
  generalize hb:(if q.den=1 then [] else N8 q.den)=b at f
  have j:(if decide (q.num<0)=true then (I9 q).drop 1 else I9 q)=N8 q.num.natAbs++(if b=[] then [] else 47::b):=by
   rw [f.eq]
   by_cases d:q.num<0<;>simp [d]
  rw [j,(Fq f.da (g b)).1,(Fq f.da (g b)).2]
  have i:=f.of_txt rfl
  have k:(if b=[] then [] else 47::b:List UInt8).drop 1=b:=by
   by_cases d:b=[]<;>simp [d]
  rw [k,<- i.1,<- i.2,Rat.mkRat_self]
 unfold rv
 rw [e,iP rfl]
def A85{s:List UInt8}(h:¬ IsNum s):rv s=0:=by
 unfold rv
 rw [iN (fun e=>h ⟨_,e.symm⟩)]
def B1s{s:List UInt8}(h:IsNum s):I9 (rv s)=s:=by
 obtain ⟨q,rfl⟩:=h
 rw [D9]
def Form.rv_num{s:List UInt8}{neg:Bool}{a b:List UInt8}(f:Form s neg a b)(h:IsNum s):(rv s).num=Sd neg a/\(rv s).den=Mi b:=by
 obtain ⟨q,rfl⟩:=h
 rw [D9];exact f.of_txt rfl
