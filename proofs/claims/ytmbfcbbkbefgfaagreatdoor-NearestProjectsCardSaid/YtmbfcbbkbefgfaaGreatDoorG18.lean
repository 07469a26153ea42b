/- A part. -/
import Derived.Test.YtmbfcbbkbefgfaaGreatDoorG16
import Derived.Test.YtmbfcbbkbefgfaaGreatDoorG17
open Go.Proofs.Tryz
set_option linter.all false
open Int renaming mul_le_mul_of_nonneg_right->aC,sign_eq_one_of_pos->aD,natAbs_natCast->aE,le_of_lt->aG,sign_eq_neg_one_of_neg->aH,gcd->aL,natAbs_of_nonneg->aN,mul_ne_zero->aO,natAbs_neg->aQ,toNat_natCast->aR,natCast_mul->aS,mul_one->aU,toNat_of_nonneg->aW,mul_comm->aY,gcd_dvd_right->aZ,natCast_ediv->bD,mul_le_mul_of_nonneg_left->bG,mul_lt_mul_of_pos_right->bK,tmod_eq_emod_of_nonneg->bM,natAbs_mul->bN,tdiv_eq_ediv_of_dvd->bV
open List renaming append_assoc->aI,length_append->aX,take_length->bC,eq_nil_of_length_eq_zero->bF,nil_append->bJ,exists_cons_of_ne_nil->bL,getElem?_cons_zero->bU
open Nat renaming pow_pos->aJ,pow_succ->aK,le_refl->aT,mul_le_mul_left->aV,strongRecOn->bH,min_eq_left->bI
open Rat renaming divInt->aF,num_divInt_den->aP,divInt_ofNat->bB
open _root_.Go renaming Addr->bO
open _root_.Go.Proofs.YtmbfcbbkbefgfaaGreatDoor renaming FCall->aM,Heap->bW
namespace Go.Proofs.YtmbfcbbkbefgfaaGreatDoor
set_option maxRecDepth 20000
open Go
section
variable {h g:bW} {K:VP} {A B:Option bO} {ac bc:Nat}
def C1a{P:Program}{t e:TypeId}{z:Value}{bytes:Nat}(s:SliceT P t e z 1 bytes){u v:Value}(hu:u.cells=#[u])(hv:v.cells=#[v]){K:VP}{h:bW}
 (x:∀ b,h b=none->K (.slice (some ⟨b,0,none⟩) 2 2) (h.put b (.cells #[u,v] e))):wpH P (Instr.buildSlice t 2 #[(0,u),(1,v)]) K h:=by
 refine Cc s (by omega) (cells:=#[u,v]) ?_ x
 have a:(F4 z.cells 2).size=2:=by simp [F4,s.cells]
 have:F4 z.cells 2=#[(F4 z.cells 2)[0]'(by omega),(F4 z.cells 2)[1]'(by omega)]:=by
  apply Array.ext
  ·simpa using a
  ·intro i d c
   match i with
   | 0=>rfl
   | 1=>rfl
   | i+2=>simp at c;omega
 rw [this]
 simp [Instr.fill,hu,hv]
def Ce{B:Int}(hB:0<B){xs:List Int}(d:Dig B xs){m:Nat}(hl:xs.length=m+1):val B xs<(xs.getD m 0+1)*B^m/\xs.getD m 0*B^m<=val B xs:=by
 have b:=G7 B xs m
 rw [show m+1=xs.length by omega,bC] at b
 have a:=L5 hB (d.take m)
 have e:=C7 hB (d.take m)
 rw [List.length_take,bI (by omega)] at a
 have f:(xs.getD m 0+1)*B^m=B^m*xs.getD m 0+B^m:=by grind
 have c:xs.getD m 0*B^m=B^m*xs.getD m 0:=aY _ _
 omega
def A2m{xs:List Int}{m:Nat}(hl:xs.length=m+1)(hn:Norm xs):xs.getD m 0≠0:=by
 intro a
 have e:=Ic (xs:=xs) (i:=m) (by omega)
 rw [<- hl,bC,a] at e
 apply hn
 rw [e];simp
def Vt{x y:Int}{an bn:Nat}(ma:Mg h A an x)(mb:Mg h B bn y)(hy:y≠0)(hl:an<=100000000)(hl2:bn<=100000000)
 (hK:∀ A1 m1 c1 A2 m2 c2 h',h.le h'->m1<=c1->m2<=c2->Mg h' A1 m1 (x/y)->Mg h' A2 m2 (x%y)->K (.tuple #[.slice A1 m1 c1,.slice A2 m2 c2]) h'):aM prog Ol #[.slice A an ac,.slice B bn bc] h K:=by
 have M:=ma.nonneg (by decide)
 have ai:=mb.nonneg (by decide)
 have az:=mb.len_zero (by decide)
 have Q:=ma.lt (by decide)
 have a0:=mb.lt (by decide)
 refine B13 _ _ _ _ _ _ ?_
 unfold B5r
 refine Vy ma mb (by omega) ⟨_,rfl,B7 (fun C=>?_) (fun C=>E4 (fun h2=>?_) (fun h2=>?_))⟩
 ·have L:x<y:=by
   by_cases f:x<y
   ·exact f
   ·rw [iN f] at C
    by_cases E:x>y
    ·rw [iP E] at C;omega
    ·rw [iN E] at C;omega
  rw [Int.ediv_eq_zero_of_lt M L,Int.emod_eq_of_lt M L] at hK
  obtain ⟨xs,rfl,sx,dx,nx,rfl⟩:=ma
  refine Qj Uh ?_
  intro b hb
  refine ⟨_,_,_,rfl,?_⟩
  have g:=Heap.le_put (h:=h) (b:=b) (.cells #[] C6) hb
  have ah:=SlI.mono g sx
  refine Pb Uh (Priv.nil _ _ _ _) (ys:=xs.map (Value.int .u32)) (by simp) ah (fun v hv=>?_) (by omega) (by omega) ?_
  ·obtain ⟨a,_,rfl⟩:=List.mem_map.1 hv;rfl
  ·intro A' c' h' g' hg F
   rw [bJ] at F
   have z:=F.slV
   simp only [Nat.zero_add] at F ⊢
   exact ⟨_,_,_,rfl,hK none 0 0 A' xs.length c' h' (B0 g (B0 hg F.le)) (aT _) F.2.1 Mag.zero ⟨xs,rfl,z,dx,nx,rfl⟩⟩
 ·obtain ⟨ys,rfl,sy,X,ny,rfl⟩:=mb
  have Z:ys.length=1:=by omega
  obtain ⟨d,rfl⟩:∃ d,ys=[d]:=by
   cases ys with
   | nil=>simp at Z
   | cons d r=>
    cases r with
    | nil=>exact ⟨d,rfl⟩
    | cons _ _=>simp at Z
  rw [Co] at hy ai hK
  have hd:=X d (by simp)
  refine sy.load rfl (by omega) (by simp) ?_
  show aM _ _ #[_,U32 d] _ _
  refine Ni ma ⟨by omega,hd.2⟩ hl ?_
  intro A' m c' h' g hm ay hM
  refine ⟨_,_,_,_,rfl,?_⟩
  refine Dx Uh rfl ?_
  intro b hb
  refine ⟨_,_,_,rfl,?_⟩
  have t:=Heap.le_put (h:=h') (b:=b) (.cells #[U32 (x%d)] C6) hb
  have hr:0<=x%d/\x%d<4294967296:=by
   have h3:=Int.emod_nonneg x (show d≠0 by omega)
   have h4:=Int.emod_lt_of_pos x (show 0<d by omega)
   have h5:=hd.2
   show _/\_<b32
   omega
  refine Bo (xs:=[x%d]) (SlI.new h' b [x%d] C6 _) (Dig.one hr) (aT _) (by simp) ?_
  intro m2 w o
  rw [Co] at o
  exact ⟨_,_,_,rfl,hK _ _ _ _ _ _ _ (B0 g t) hm (by simpa using w) (hM.mono t) o⟩
 ·have aq:y<=x:=by
   by_cases f:x<y
   ·rw [iP f] at C;omega
   ·omega
  have ax:bn<=an:=mb.len_le (by decide) (Int.lt_of_le_of_lt aq Q)
  obtain ⟨xs,rfl,sx,dx,nx,rfl⟩:=ma
  obtain ⟨ys,rfl,sy,X,ny,rfl⟩:=mb
  obtain ⟨mm,hmm⟩:∃ mm,ys.length=mm+2:=⟨ys.length-2,by omega⟩
  have gt:=Cb X (mm+1)
  have a1:=A2m (m:=mm+1) hmm ny
  obtain ⟨af,S⟩:=Ce (B:=b32) (by decide) X (m:=mm+1) hmm
  unfold A51
  refine ⟨fun l h'=>∃ s:Nat,l=[U s]/\h'=h/\s<32/\ys.getD (mm+1) 0*2^s<4294967296,fun l _=>32-(iAt l 0).toNat,⟨0,rfl,rfl,by omega,by rw [Int.pow_zero,aU];exact gt.2⟩,?_⟩
  rintro si av ⟨s,al,rfl,z,au⟩
  obtain rfl:=sI1 al
  have e1:B6 ((ys.length:Int)-1)=((mm+1:Nat):Int):=by rw [B8 (by omega) (by omega)];omega
  rw [e1]
  refine sy.load rfl (by omega) (by omega) ?_
  refine B7 (fun e=>absurd e (by omega)) (fun _=>?_)
  have c:0<(2:Int)^s:=Int.pow_pos (by decide)
  have aw:2^s<=ys.getD (mm+1) 0*2^s:=by
   have:=aC (show 1<=ys.getD (mm+1) 0 by omega) (aG c);omega
  have e2:G8 (ys.getD (((mm+1:Nat):Int)).toNat 0*2^(min ((s:Int)).toNat 32))=ys.getD (mm+1) 0*2^s:=by
   rw [aR,aR,bI (by omega),S9 (by omega) au]
  refine B7 (fun h3=>?_) (fun h3=>?_)
  ·rw [e2] at h3
   have T:s+1<32:=by
    by_cases f:s+1<32
    ·exact f
    ·have:s=31:=by omega
     subst this
     have:(2:Int)^31=2147483648:=by decide
     omega
   have e3:C1 ((s:Int)+1)=((s+1:Nat):Int):=by rw [C3 (by omega) (by omega)];omega
   rw [e3]
   refine ⟨⟨s+1,rfl,rfl,T,?_⟩,by simp only [iAt,bU];omega⟩
   rw [Int.pow_succ,<- Int.mul_assoc];omega
  ·rw [e2] at h3
   have ak:val b32 ys*2^s<b32^(mm+2):=by
    have H:=Nc (Nat.le_of_lt z)
    have t1:ys.getD (mm+1) 0+1<=2^(32-s):=by
     by_cases f:ys.getD (mm+1) 0+1<=2^(32-s)
     ·exact f
     ·have:=aC (show (2:Int)^(32-s)<=ys.getD (mm+1) 0 by omega) (aG c)
      rw [aY,H] at this;omega
    have t2:val b32 ys*2^s<(ys.getD (mm+1) 0+1)*b32^(mm+1)*2^s:=bK af c
    have t3:(ys.getD (mm+1) 0+1)*b32^(mm+1)*2^s=(ys.getD (mm+1) 0+1)*2^s*b32^(mm+1):=by grind
    have t4:(ys.getD (mm+1) 0+1)*2^s*b32^(mm+1)<=4294967296*b32^(mm+1):=by
     apply aC _ (aG (D7 (by decide) _))
     rw [<- H,aY (2^s)]
     exact aC t1 (aG c)
    rw [Int.pow_succ b32 (mm+1),aY (b32^(mm+1))]
    show _<(4294967296:Int)*_
    omega
   have a2:2147483648*b32^(mm+1)<=val b32 ys*2^s:=by
    have t1:ys.getD (mm+1) 0*b32^(mm+1)*2^s<=val b32 ys*2^s:=aC S (aG c)
    have t2:2147483648*b32^(mm+1)<=ys.getD (mm+1) 0*2^s*b32^(mm+1):=aC (by omega) (aG (D7 (by decide) _))
    have t3:ys.getD (mm+1) 0*2^s*b32^(mm+1)=ys.getD (mm+1) 0*b32^(mm+1)*2^s:=by grind
    omega
   refine Kl sy X z (by omega) ?_
   intro bv zv am R ag aa
   refine ⟨_,_,_,rfl,?_⟩
   rw [<- R]
   refine Bo (Dn _ _ _ _ _) ag (aT _) (by omega) ?_
   intro n hn p
   refine ⟨_,_,_,rfl,?_⟩
   rw [aa] at p
   have ar:n=mm+2:=by
    have l1:=p.len_le (by decide) ak
    have l2:=p.lt (by decide)
    by_cases f:n=mm+2
    ·exact f
    ·have:=C9 (B:=b32) (by decide) (show n<=mm+1 by omega)
     have:=D7 (B:=b32) (by decide) (mm+1)
     omega
   subst ar
   obtain ⟨vs,V,sv,dv,nv,u⟩:=p
   have ao:4294967296<=2*vs.getD (mm+1) 0:=by
    obtain ⟨q1,q2⟩:=Ce (B:=b32) (by decide) dv (m:=mm+1) V.symm
    rw [u] at q1
    have:2147483648<vs.getD (mm+1) 0+1:=by
     by_cases f:2147483648<vs.getD (mm+1) 0+1
     ·exact f
     ·have:=aC (show vs.getD (mm+1) 0+1<=2147483648 by omega) (aG (D7 (B:=b32) (by decide) (mm+1)));omega
    omega
   have q:=W8 (k:=.u32) (e:=C6) am zv
   refine Kl (SlI.mono q sx) dx z (by omega) ?_
   intro bu W ad aj O D
   refine ⟨_,_,_,rfl,?_⟩
   obtain ⟨nq,hnq⟩:∃ nq,xs.length+1=nq+(mm+2):=⟨xs.length+1-(mm+2),by omega⟩
   have e4:B6 (B6 (B6 (((xs.length+1:Nat):Int)-((mm+2:Nat):Int))-1)+1)=(nq:Int):=by
    rw [B8 (n:=((xs.length+1:Nat):Int)-((mm+2:Nat):Int)) (by omega) (by omega),B8 (n:=_-(1:Int)) (by omega) (by omega),B8 (by omega) (by omega)];omega
   rw [e4]
   refine K3 Uh (by omega) (by omega) (by omega) ?_
   intro bq j
   rw [aR]
   refine ⟨_,_,_,rfl,?_⟩
   have J:bu≠bq:=by
    rintro rfl
    unfold blk at j
    rw [C0] at j;cases j
   have G:blk .u32 C6 av bv zv bq=none:=by
    have:=j
    unfold blk at this ⊢
    rwa [B9 _ _ J.symm] at this
   refine B0n (us0:=W) (N:=xs.length+1) ad G J sv dv V.symm ao z u rfl O aj D hnq (by omega) (by omega) ?_ ?_
   ·have s1:=F5 b32 W (i:=nq) (by omega)
    have s2:=C7 (by decide) (O.take nq)
    have s3:val b32 W<b32^xs.length*2^s:=by
     rw [D];exact bK Q c
    have s4:b32^(mm+1)<=val b32 ys:=by
     have:=aC (show 1<=ys.getD (mm+1) 0 by omega) (aG (D7 (B:=b32) (by decide) (mm+1)));omega
    have s5:b32^nq*(b32^(mm+1)*2^s)<=b32^nq*(val b32 ys*2^s):=bG (aC s4 (aG c)) (aG (D7 (by decide) nq))
    have s6:b32^nq*(b32^(mm+1)*2^s)=b32^xs.length*2^s:=by
     rw [<- Int.mul_assoc,<- Int.pow_add,show nq+(mm+1)=xs.length by omega]
    by_cases f:val b32 (W.drop nq)<val b32 ys*2^s
    ·exact f
    ·have:=bG (show val b32 ys*2^s<=val b32 (W.drop nq) by omega) (aG (D7 (B:=b32) (by decide) nq));omega
   ·intro A1 m1 c1 A2 m2 c2 h' g ap w ae o
    exact hK _ _ _ _ _ _ _ (B0 q g) ap w ae o
end
def A8x(h:bW)(A:Option bO)(len:Nat):List Int:=(List.range len).map fun i=>
 match A with
 | some a=>(match h.cell? (a.add i) with|some (.int _ n)=>n|_=>0)
 | none=>0
def B39(B:Int)(h:bW)(A:Option bO)(len:Nat):Nat:=(val B (A8x h A len)).toNat
def B4k{k:IntKind}{h:bW}{A:Option bO}{xs:List Int}(s:SlI k h A xs):A8x h A xs.length=xs:=by
 apply List.ext_getElem
 ·simp [A8x]
 ·intro i e d
  obtain ⟨a,c,b⟩:=SlV.at s (i:=i) (by simpa using d)
  subst c
  simp [A8x,b]
def As{k:IntKind}{B:Int}{h:bW}{A:Option bO}{len:Nat}{n:Int}(m:Mag k B h A len n):B39 B h A len=n.toNat:=by
 obtain ⟨a,rfl,s,_,_,rfl⟩:=m
 unfold B39
 rw [B4k s]
def ZB(m:Nat)(z:Int):Prop:=z.natAbs<2^m
def ZB.mono{m n:Nat}{z:Int}(h:ZB m z)(hm:m<=n):ZB n z:=Nat.lt_of_lt_of_le h (Nat.pow_le_pow_right (by decide) hm)
def ZB.neg{m:Nat}{z:Int}(h:ZB m z):ZB m (-z):=by unfold ZB at *;rwa [aQ]
def ZB.add{m:Nat}{x y:Int}(hx:ZB m x)(hy:ZB m y):ZB (m+1) (x+y):=by
 unfold ZB at *;rw [aK]
 have:=Int.natAbs_add_le x y;omega
def ZB.sub{m:Nat}{x y:Int}(hx:ZB m x)(hy:ZB m y):ZB (m+1) (x-y):=by
 rw [Int.sub_eq_add_neg];exact hx.add hy.neg
def ZB.mul{m n:Nat}{x y:Int}(hx:ZB m x)(hy:ZB n y):ZB (m+n) (x*y):=by
 unfold ZB at *;rw [bN,Nat.pow_add]
 have a:x.natAbs*y.natAbs<=x.natAbs*2^n:=aV _ (Nat.le_of_lt hy)
 have b:x.natAbs*2^n<2^m*2^n:=Nat.mul_lt_mul_of_pos_right hx (aJ (by decide))
 omega
def ZB.le{m:Nat}{x y:Int}(hx:ZB m x)(h:y.natAbs<=x.natAbs):ZB m y:=Nat.lt_of_le_of_lt h hx
def ZB.one{m:Nat}(h:1<=m):ZB m 1:=ZB.mono (m:=1) (by unfold ZB;decide) h
def ZB.zero{m:Nat}:ZB m 0:=aJ (by decide)
def C19{k:IntKind}{j:Nat}(hj:0<j){h:bW}{A:Option bO}{n m:Nat}{x:Int}(M:Mag k ((2:Int)^j) h A n x)(hx:x<2^m):n<=m/j+1:=by
 refine M.len_le ?_ ?_
 ·have:=C9 (B:=2) (by decide) hj;omega
 ·have e:((2:Int)^j)^(m/j+1)=2^(j*(m/j+1)):=by rw [Int.pow_mul]
  rw [e]
  have:m<=j*(m/j+1):=by
   have a:=Nat.div_add_mod m j
   have b:=Nat.mod_lt m hj
   rw [Nat.mul_add];omega
  have:=C9 (B:=2) (by decide) this
  omega
structure NI (h:bW) (s:Bool) (A:Option bO) (n c:Nat) (z:Int):Prop where
 mag:Mg h A n (z.natAbs:Int)
 sg:s=decide (z<0)
 cap:n<=c
section
variable {h h':bW} {K:VP} {A B:Option bO} {n c n' c':Nat} {s s':Bool} {x y z:Int} {m:Nat}
def NI.mono(hl:h.le h')(i:NI h s A n c z):NI h' s A n c z:=⟨i.mag.mono hl,i.sg,i.cap⟩
def NI.len(i:NI h s A n c z)(hz:ZB m z)(hm:m<=1000000000):n<=100000000:=by
 have:=C19 (j:=32) (by decide) i.mag (m:=m) (by unfold ZB at hz;have:((z.natAbs:Nat):Int)<((2^m:Nat):Int):=by omega
                                                simpa using this)
 omega
def NI.zero_iff(i:NI h s A n c z):n=0↔z=0:=by
 have:=i.mag.len_zero (by decide)
 omega
def NI.nil:NI h false A 0 0 0:=⟨Mag.zero,rfl,aT _⟩
def R5{neg:Bool}{x:Int}(M:Mg h A n x)(hc:n<=c)(hK:∀ s,NI h s A n c (if neg then -x else x)->K (.agg #[.bool s,.slice A n c]) h):aM prog W4 #[.bool neg,.slice A n c] h K:=by
 have a:=M.nonneg (by decide)
 have b:=M.len_zero (by decide)
 refine B5q _ _ _ _ ?_
 unfold C06
 refine Br.of (fun e=>?_) (fun e=>?_)
 ·subst e
  refine hK _ ⟨?_,?_,hc⟩
  ·have:(((if true=true then -x else x).natAbs:Nat):Int)=x:=by simp;omega
   rw [this];exact M
  ·simp;omega
 ·subst e
  refine hK _ ⟨?_,?_,hc⟩
  ·have:(((if false=true then -x else x).natAbs:Nat):Int)=x:=by simp;omega
   rw [this];exact M
  ·simp;omega
def T5(hz: -9223372036854775808<=z/\z<=9223372036854775807)(hK:∀ s A n c h',h.le h'->NI h' s A n c z->K (.agg #[.bool s,.slice A n c]) h'):aM prog T9 #[I z] h K:=by
 refine A7m _ ?_
 unfold A9d
 refine ⟨fun l h'=>l=[U z.natAbs]/\h'=h,B7 (fun p=>⟨?_,rfl⟩) (fun p=>⟨?_,rfl⟩),?_⟩
 ·have:C1 (0-C1 z)=z.natAbs:=by rw [E7,E7];omega
  rw [this]
 ·have:C1 z=z.natAbs:=by rw [E7];omega
  rw [this]
 ·rintro u g ⟨j,rfl⟩
  obtain rfl:u=(z.natAbs:Int):=by simpa using j
  rw [Z1,Xc,S9 (n:=(z.natAbs:Int)/4294967296) (by omega) (by omega)]
  refine C1a Uh rfl rfl ?_
  intro b k
  refine ⟨_,_,_,rfl,?_⟩
  have a:Dig b32 [(z.natAbs:Int)%4294967296,(z.natAbs:Int)/4294967296]:=by
   intro d a
   simp only [List.mem_cons,List.not_mem_nil,or_false] at a
   show _/\_<(4294967296:Int)
   rcases a with rfl|rfl<;>omega
  refine Bo (xs:=[(z.natAbs:Int)%4294967296,(z.natAbs:Int)/4294967296]) (SlI.new g b _ C6 _) a (aT _) (by simp) ?_
  intro m q f
  have o:val b32 [(z.natAbs:Int)%4294967296,(z.natAbs:Int)/4294967296]=z.natAbs:=by
   simp only [val]
   show _+(4294967296:Int)*(_+4294967296*0)=_
   omega
  rw [o] at f
  refine ⟨_,_,_,rfl,?_⟩
  refine R5 f (by simpa using q) ?_
  intro s i
  refine ⟨_,_,_,_,rfl,hK _ _ _ _ _ (Heap.le_put _ k) ?_⟩
  have:(if decide (z<0)=true then -(z.natAbs:Int) else (z.natAbs:Int))=z:=by
   by_cases e:z<0
   ·rw [iP (by simpa using e)];omega
   ·rw [iN (by simpa using e)];omega
  rw [this] at i
  exact i
def B2d(i:NI h s A n c z)(hK:K (I z.sign) h):aM prog A6q #[.agg #[.bool s,.slice A n c]] h K:=by
 have d:=i.zero_iff
 have b:=i.sg
 refine B8n _ _ _ _ ?_
 unfold C4o
 refine Br.of (fun e=>?_) (fun e=>?_)
 ·have a:z<0:=by rw [b] at e;simpa using e
  rw [aH a] at hK;exact hK
 ·have a:¬ z<0:=by rw [b] at e;simpa using e
  refine E4 (fun e=>?_) (fun e=>?_)
  ·have:z=0:=by omega
   subst this;exact hK
  ·rw [aD (by omega)] at hK;exact hK
def A0j(i:NI h s A n c z)(hK:∀ s,NI h s A n c (-z)->K (.agg #[.bool s,.slice A n c]) h):aM prog A41 #[.agg #[.bool s,.slice A n c]] h K:=by
 refine C2p _ _ _ _ ?_
 unfold C77
 refine R5 i.mag i.cap ?_
 intro d b
 refine ⟨_,_,_,_,rfl,hK _ ?_⟩
 have:(if (!s)=true then -(z.natAbs:Int) else (z.natAbs:Int))= -z:=by
  rw [i.sg]
  by_cases a:z<0
  ·rw [iN (by simpa using a)];omega
  ·rw [iP (by simpa using a)];omega
 rw [this] at b;exact b
def A90(ia:NI h s A n c x)(ib:NI h s' B n' c' y)(hx:ZB m x)(hy:ZB m y)(hm:m<=1000000000)(hK:∀ s A n c h',h.le h'->NI h' s A n c (x+y)->K (.agg #[.bool s,.slice A n c]) h'):aM prog A8r #[.agg #[.bool s,.slice A n c],.agg #[.bool s',.slice B n' c']] h K:=by
 have w:=ia.len hx hm
 have u:=ib.len hy hm
 refine C2s _ _ _ _ _ _ _ _ ?_
 unfold C7a
 have g:=ia.sg
 have b:=ib.sg
 refine Br.of (fun e=>?_) (fun e=>?_)
 ·have o:s=s':=by simpa using e
  refine A78 ia.mag ib.mag w u ?_
  intro A' z c1 l a i q
  refine ⟨_,_,_,rfl,a,?_⟩
  refine R5 q i ?_
  intro C k
  refine ⟨_,_,_,_,rfl,B4 _,hK _ _ _ _ _ a ?_⟩
  have:(if s=true then -((x.natAbs:Int)+y.natAbs) else (x.natAbs:Int)+y.natAbs)=x+y:=by
   rw [o] at g
   by_cases f:x<0
   ·have:s=true:=by rw [o,g];simpa using f
    rw [iP this]
    have:y<0:=by rw [b] at g;simpa [f] using g
    omega
   ·have:¬ s=true:=by rw [o,g];simpa using f
    rw [iN this]
    have:¬ y<0:=by rw [b] at g;simpa [f] using g
    omega
  rw [this] at k;exact k
 ·have o:s≠s':=by simpa using e
  refine Vy ia.mag ib.mag (by omega) ⟨_,rfl,B7 (fun l=>?_) (fun l=>?_)⟩
  ·have p:(y.natAbs:Int)<=x.natAbs:=by
    by_cases t:(x.natAbs:Int)<y.natAbs
    ·rw [iP t] at l;omega
    ·omega
   refine Ui ia.mag ib.mag p w ?_
   intro A' z c1 l a i q
   refine ⟨_,_,_,rfl,a,?_⟩
   refine R5 q i ?_
   intro C k
   refine ⟨_,_,_,_,rfl,B4 _,hK _ _ _ _ _ a ?_⟩
   have:(if s=true then -((x.natAbs:Int)-y.natAbs) else (x.natAbs:Int)-y.natAbs)=x+y:=by
    by_cases f:x<0
    ·have d:s=true:=by rw [g];simpa using f
     rw [iP d]
     have:¬ y<0:=by intro j;apply o;rw [g,b];simp [f,j]
     omega
    ·have d:¬ s=true:=by rw [g];simpa using f
     rw [iN d]
     have:y<0:=by
      by_cases j:y<0
      ·exact j
      ·exact absurd (by rw [g,b];simp [f,j]) o
     omega
   rw [this] at k;exact k
  ·have p:(x.natAbs:Int)<=y.natAbs:=by
    by_cases t:(x.natAbs:Int)<y.natAbs
    ·omega
    ·rw [iN t] at l
     by_cases r:(x.natAbs:Int)>y.natAbs
     ·rw [iP r] at l;omega
     ·rw [iN r] at l;omega
   refine Ui ib.mag ia.mag p u ?_
   intro A' z c1 l a i q
   refine ⟨_,_,_,rfl,a,?_⟩
   refine R5 q i ?_
   intro C k
   refine ⟨_,_,_,_,rfl,B4 _,hK _ _ _ _ _ a ?_⟩
   have:(if s'=true then -((y.natAbs:Int)-x.natAbs) else (y.natAbs:Int)-x.natAbs)=x+y:=by
    by_cases f:y<0
    ·have d:s'=true:=by rw [b];simpa using f
     rw [iP d]
     have:¬ x<0:=by intro j;apply o;rw [g,b];simp [f,j]
     omega
    ·have d:¬ s'=true:=by rw [b];simpa using f
     rw [iN d]
     have:x<0:=by
      by_cases j:x<0
      ·exact j
      ·exact absurd (by rw [g,b];simp [f,j]) o
     omega
   rw [this] at k;exact k
def A30(x y:Int)(p:Nat)(hs:s=decide (x<0))(hs':s'=decide (y<0)):(if (!(s==s'))=true then -(p:Int) else (p:Int))=x.sign*y.sign*p\/x=0\/y=0:=by
 by_cases c:x=0
 ·right;left;exact c
 by_cases d:y=0
 ·right;right;exact d
 left
 by_cases a:x<0<;>by_cases b:y<0
 ·rw [aH a,aH b,iN (by rw [hs,hs'];simp [a,b])];omega
 ·rw [aH a,aD (by omega),iP (by rw [hs,hs'];simp [a,b])];omega
 ·rw [aD (by omega),aH b,iP (by rw [hs,hs'];simp [a,b])];omega
 ·rw [aD (by omega),aD (by omega),iN (by rw [hs,hs'];simp [a,b])];omega
def A9p(x y:Int):x.tdiv y=x.sign*y.sign*((x.natAbs/y.natAbs:Nat):Int):=by
 have key:∀ a b:Nat,(a:Int).tdiv b=(a:Int).sign*(b:Int).sign*((a/b:Nat):Int):=by
  intro a b
  rw [<- Int.ofNat_tdiv]
  by_cases c:a=0
  ·subst c;simp
  by_cases d:b=0
  ·subst d;simp
  rw [aD (by omega),aD (by omega),Int.one_mul,Int.one_mul]
 obtain ⟨a,rfl|rfl⟩:=Int.eq_nat_or_neg x<;>obtain ⟨b,rfl|rfl⟩:=Int.eq_nat_or_neg y<;>simp only [Int.neg_tdiv,Int.tdiv_neg,Int.sign_neg,aQ,aE,key]<;>grind
def Dc{m':Nat}(ia:NI h s A n c x)(ib:NI h s' B n' c' y)(hx:ZB m x)(hy:ZB m' y)(hm:m<=1000000000)(hm':m'<=1000000000)(hK:∀ s A n c h',h.le h'->NI h' s A n c (x*y)->K (.agg #[.bool s,.slice A n c]) h'):aM prog Ko #[.agg #[.bool s,.slice A n c],.agg #[.bool s',.slice B n' c']] h K:=by
 refine C2q _ _ _ _ _ _ _ _ ?_
 unfold C78
 refine A6d ia.mag ib.mag (ia.len hx hm) (ib.len hy hm') ?_
 intro A' j c1 l a b g
 refine ⟨_,_,_,rfl,a,?_⟩
 refine R5 g b ?_
 intro k d
 refine ⟨_,_,_,_,rfl,B4 _,hK _ _ _ _ _ a ?_⟩
 have:(if (!(s==s'))=true then -((x.natAbs:Int)*y.natAbs) else (x.natAbs:Int)*y.natAbs)=x*y:=by
  rcases A30 x y (x.natAbs*y.natAbs) ia.sg ib.sg with e|e|e
  ·rw [aS] at e
   rw [e]
   have i:=Int.sign_mul_natAbs x
   have f:=Int.sign_mul_natAbs y
   have:x.sign*y.sign*((x.natAbs:Int)*y.natAbs)=(x.sign*x.natAbs)*(y.sign*y.natAbs):=by grind
   rw [this,i,f]
  ·subst e;simp
  ·subst e;simp
 rw [this] at d;exact d
def Uo(ia:NI h s A n c x)(ib:NI h s' B n' c' y)(hy0:y≠0)(hx:ZB m x)(hy:ZB m y)(hm:m<=1000000000)(hK:∀ s A n c s' B n' c' h',h.le h'->NI h' s A n c (x.tdiv y)->NI h' s' B n' c' (x.tmod y)->K (.tuple #[.agg #[.bool s,.slice A n c],.agg #[.bool s',.slice B n' c']]) h'):aM prog Ok #[.agg #[.bool s,.slice A n c],.agg #[.bool s',.slice B n' c']] h K:=by
 refine B10 _ _ _ _ _ _ _ _ ?_
 unfold B5n
 refine Vt ia.mag ib.mag (by omega) (ia.len hx hm) (ib.len hy hm) ?_
 intro A1 o c1 A2 p c2 r a b d M1 M2
 refine ⟨_,_,_,_,_,_,rfl,?_⟩
 refine R5 M1 b ?_
 intro q g
 refine ⟨_,_,_,_,rfl,B4 _,?_⟩
 refine R5 M2 d ?_
 intro t i
 refine ⟨_,_,_,_,rfl,B4 _,hK _ _ _ _ _ _ _ _ _ a ?_ ?_⟩
 ·have:(if (!(s==s'))=true then -((x.natAbs:Int)/y.natAbs) else (x.natAbs:Int)/y.natAbs)=x.tdiv y:=by
   rcases A30 x y (x.natAbs/y.natAbs) ia.sg ib.sg with e|e|e
   ·rw [bD] at e
    rw [e,A9p,bD]
   ·subst e;simp
   ·exact absurd e hy0
  rw [this] at g;exact g
 ·have:(if s=true then -((x.natAbs:Int)%y.natAbs) else (x.natAbs:Int)%y.natAbs)=x.tmod y:=by
   rw [ia.sg]
   by_cases f:x<0
   ·rw [iP (by simpa using f)]
    obtain ⟨k,rfl⟩:∃ k:Nat,x= -(k:Int):=⟨x.natAbs,by omega⟩
    rw [Int.neg_tmod,aQ,aE]
    congr 1
    rw [<- bM (by omega)]
    by_cases l:y<0
    ·obtain ⟨j,rfl⟩:∃ j:Nat,y= -(j:Int):=⟨y.natAbs,by omega⟩
     rw [Int.tmod_neg,aQ,aE]
    ·rw [aN (by omega)]
   ·rw [iN (by simpa using f)]
    rw [aN (by omega),<- bM (by omega)]
    by_cases l:y<0
    ·obtain ⟨j,rfl⟩:∃ j:Nat,y= -(j:Int):=⟨y.natAbs,by omega⟩
     rw [Int.tmod_neg,aQ,aE]
    ·rw [aN (by omega)]
  rw [this] at i;exact i
end
def N9(n:Nat):Nat:=if n=0 then 0 else Nat.log2 n+1
def A4d:N9 0=0:=rfl
def B4l{n:Nat}(h:n≠0):N9 n=N9 (n/2)+1:=by
 unfold N9
 rw [iN h]
 by_cases a:n/2=0
 ·have:n=1:=by omega
  subst this;rfl
 ·rw [iN a,Nat.log2_def n,iP (by omega)]
def Ff{n:Nat}(h:n≠0):2^(N9 n-1)<=n/\n<2^N9 n:=by
 unfold N9
 rw [iN h,Nat.add_sub_cancel]
 exact ⟨Nat.log2_self_le h,Nat.lt_log2_self⟩
def A75{n k:Nat}(h1:2^k<=n)(h2:n<2^(k+1)):N9 n=k+1:=by
 have c:n≠0:=by have:=aJ (n:=k) (show 0<2 by decide);omega
 unfold N9
 rw [iN c]
 have a:=(Nat.le_log2 c).2 h1
 have b:=(Nat.log2_lt c).2 h2
 omega
def Yw{l t j:Nat}(hl:l<2^j)(ht:t≠0):N9 (l+2^j*t)=j+N9 t:=by
 obtain ⟨a,b⟩:=Ff ht
 have c:N9 t=N9 t-1+1:=by unfold N9;rw [iN ht];omega
 have d:0<2^j:=aJ (by decide)
 rw [c,<- Nat.add_assoc]
 apply A75
 ·rw [Nat.pow_add]
  have:=aV (2^j) a
  omega
 ·rw [Nat.add_assoc,<- c,Nat.pow_add]
  have:=aV (2^j) (show t+1<=2^N9 t by omega)
  rw [Nat.mul_add] at this;omega
def Iy{n k:Nat}(h:n<2^k):N9 n<=k:=by
 by_cases a:n=0
 ·subst a;rw [A4d];omega
 ·unfold N9;rw [iN a];have:=(Nat.log2_lt a).2 h;omega
def A8y{n:Nat}:N9 n=1↔n=1:=by
 constructor
 ·intro h
  by_cases a:n=0
  ·subst a;cases h
  ·have:=Ff a
   rw [h] at this;simp at this;omega
 ·rintro rfl;rfl
def A76{n:Nat}:1<N9 n↔1<n:=by
 by_cases a:n=0
 ·subst a;simp [N9]
 by_cases b:n=1
 ·subst b;decide
 ·have d:N9 n≠0:=by unfold N9;rw [iN a];omega
  have c:N9 n≠1:=fun e=>b (A8y.1 e)
  omega
section
variable {h h':bW} {K:VP} {A B:Option bO} {n c n' c':Nat} {s s':Bool} {x y z:Int} {m:Nat}
def B7g(ia:NI h s A n c x)(ib:NI h s' B n' c' y)(hx:ZB m x)(hy:ZB m y)(hm:m<=1000000000)(hK:∀ s A n c h',h.le h'->NI h' s A n c (aL x y)->K (.agg #[.bool s,.slice A n c]) h'):aM prog B3x #[.agg #[.bool s,.slice A n c],.agg #[.bool s',.slice B n' c']] h K:=by
 refine C2r _ _ _ _ _ _ _ _ ?_
 unfold C79
 refine ⟨fun l b=>∃ (A B:Option bO) (n c n' c' X Y:Nat),l=[.slice A n c,.slice B n' c']/\h.le b/\Mg b A n X/\Mg b B n' Y/\n<=c/\n'<=c'/\Nat.gcd X Y=aL x y/\n<=100000000/\n'<=100000000,fun l b=>match l with|[_,.slice A n _]=>B39 b32 b A n|_=>0,⟨_,_,_,_,_,_,_,_,rfl,B4 h,ia.mag,ib.mag,ia.cap,ib.cap,rfl,ia.len hx hm,ib.len hy hm⟩,?_⟩
 rintro A1 w c1 B1 q c2 b ⟨A1',B1',g,i,f,o,X,Y,C,d,M1,M2,D,E,p,z,r⟩
 obtain ⟨⟨rfl,rfl,rfl⟩,rfl,rfl,rfl⟩:(A1=A1'/\w=g/\c1=i)/\B1=B1'/\q=f/\c2=o:=by simpa using C
 have O:=M2.len_zero (by decide)
 refine B7 (fun u=>?_) (fun u=>?_)
 ·have k:Y≠0:=by omega
  refine Vt M1 M2 (by omega) z r ?_
  intro A3 M Q A4 J L h' a N G M3 M4
  have e:((X:Int)%(Y:Int))=((X%Y:Nat):Int):=by omega
  rw [e] at M4
  have F:=Nat.mod_lt X (Nat.pos_of_ne_zero k)
  refine ⟨_,_,_,_,_,_,rfl,⟨_,_,_,_,_,_,Y,X%Y,rfl,B0 d a,M2.mono a,M4,E,G,?_,r,?_⟩,?_⟩
  ·rw [<- p,Nat.gcd_comm X Y,Nat.gcd_rec Y X,Nat.gcd_comm]
  ·have:=M4.len_le (by decide) (j:=q) (Int.lt_trans (show ((X%Y:Nat):Int)<(Y:Int) by omega) (M2.lt (by decide)))
   omega
  ·simp only [As M4,As M2];omega
 ·have k:Y=0:=by omega
  subst k
  rw [Nat.gcd_zero_right] at p
  refine R5 M1 D ?_
  intro H t
  refine ⟨_,_,_,_,rfl,hK _ _ _ _ _ d ?_⟩
  rw [p] at t
  exact t
def A4e(i:NI h s A n c z)(hz:ZB m z)(hm:m<=1000000000)(hK:K (I (N9 z.natAbs)) h):aM prog A15 #[.agg #[.bool s,.slice A n c]] h K:=by
 have S:=i.len hz hm
 have N:=i.zero_iff
 refine B8v _ _ _ _ ?_
 unfold C4w
 refine E4 (fun e=>?_) (fun e=>?_)
 ·have:z=0:=N.1 (by omega)
  subst this;exact hK
 ·obtain ⟨a,o,w,j,G,M⟩:=i.mag
  obtain ⟨k,hk⟩:∃ k,a.length=k+1:=⟨a.length-1,by omega⟩
  have F:B6 ((n:Int)-1)=(k:Int):=by rw [B8 (by omega) (by omega)];omega
  have C:B6 (32*(k:Int))=((32*k:Nat):Int):=by rw [B8 (by omega) (by omega)];omega
  rw [F,C]
  refine w.load o (by omega) (by omega) ?_
  rw [aR]
  have q:=Cb j k
  have Q:=A2m hk G
  have u:32*k+N9 (a.getD k 0).toNat=N9 z.natAbs:=by
   have r:=G7 b32 a k
   rw [<- hk,bC] at r
   have x:=L5 (by decide) (j.take k)
   have H:=C7 (by decide) (j.take k)
   rw [List.length_take,bI (by omega)] at x
   have E:b32^k=((2^(32*k):Nat):Int):=by
    rw [show b32=(2:Int)^32 by decide,<- Int.pow_mul];simp
   have g:z.natAbs=(val b32 (a.take k)).toNat+2^(32*k)*(a.getD k 0).toNat:=by
    have:((z.natAbs:Nat):Int)=(((val b32 (a.take k)).toNat+2^(32*k)*(a.getD k 0).toNat:Nat):Int):=by
     rw [<- M,r,Int.natCast_add,aS,<- E,aW H,aW q.1]
    omega
   rw [g,Yw (by omega) (by omega)]
  refine ⟨fun l p=>∃ (t k:Nat),l=[I k,U32 t]/\p=h/\k+N9 t=N9 z.natAbs/\t<4294967296,fun l _=>(iAt l 1).toNat,⟨(a.getD k 0).toNat,32*k,?_,rfl,u,by omega⟩,?_⟩
  ·rw [aW q.1]
  ·rintro O D p ⟨t,d,f,rfl,b,J⟩
   obtain ⟨rfl,rfl⟩:O=(d:Int)/\D=(t:Int):=by simpa using f
   have B:N9 z.natAbs<=m:=Iy hz
   refine B7 (fun y=>?_) (fun y=>?_)
   ·have g:Int.fdiv (t:Int) (2^(min ((1:Int)).toNat 32))=((t/2:Nat):Int):=by
     rw [show (2:Int)^(min ((1:Int)).toNat 32)=2 by decide,Int.fdiv_eq_ediv_of_nonneg _ (by decide)];omega
    have R:=B4l (n:=t) (by omega)
    have L:B6 ((d:Int)+1)=((d+1:Nat):Int):=by rw [B8 (by omega) (by omega)];omega
    rw [g,L]
    exact ⟨⟨t/2,d+1,rfl,rfl,by omega,by omega⟩,by simp only [iAt,bU,List.getElem?_cons_succ];omega⟩
   ·have:t=0:=by omega
    subst this
    rw [A4d,Nat.add_zero] at b
    rw [b];exact hK
end
structure QV where
 s:Bool
 A:Option bO
 n:Nat
 c:Nat
 s2:Bool
 A2:Option bO
 n2:Nat
 c2:Nat
abbrev QV.v(w:QV):Value:=.agg #[.bool w.s,.slice w.A w.n w.c,.bool w.s2,.slice w.A2 w.n2 w.c2]
structure NQ (h:bW) (w:QV) (q:Rat):Prop where
 num:NI h w.s w.A w.n w.c q.num
 den:NI h w.s2 w.A2 w.n2 w.c2 (if q.den=1 then 0 else (q.den:Int))
structure Sz (m:Nat) (q:Rat):Prop where
 num:ZB m q.num
 den:ZB m q.den
def Sz.mono{m n:Nat}{q:Rat}(h:Sz m q)(hm:m<=n):Sz n q:=⟨h.num.mono hm,h.den.mono hm⟩
def Sz.neg{m:Nat}{q:Rat}(h:Sz m q):Sz m (-q):=⟨by rw [Rat.neg_num];exact h.num.neg,by rw [Rat.neg_den];exact h.den⟩
def Vu{a b:Int}(hb:b≠0):(aF a b).num.natAbs<=a.natAbs/\(aF a b).den<=b.natAbs:=by
 have d:0<aL b a:=Int.gcd_pos_of_ne_zero_left a hb
 rw [Rat.num_divInt,Rat.den_divInt,iN hb]
 constructor
 ·have c:(aL b a:Int)∣b.sign*a:=Int.dvd_mul_of_dvd_right (aZ b a)
  rw [Int.natAbs_ediv_of_dvd c,bN,aE]
  have:b.sign.natAbs=1:=by
   rw [Int.natAbs_sign];simp [hb]
  rw [this,Nat.one_mul]
  exact Nat.div_le_self _ _
 ·exact Nat.div_le_self _ _
def Jm{m:Nat}{a b:Int}(hb:b≠0)(h1:ZB m a)(h2:ZB m b):Sz m (aF a b):=by
 have:=Vu (a:=a) hb
 exact ⟨h1.le this.1,h2.le (by simpa using this.2)⟩
def Fh(p q:Rat):p+q=aF (p.num*q.den+q.num*p.den) (p.den*q.den):=by
 rw [Rat.add_def',<- aS,bB]
def Jy(p q:Rat):p*q=aF (p.num*q.num) (p.den*q.den):=by
 rw [Rat.mul_def',<- aS,bB]
def Rc(z:Int):aF z 1=(z:Rat):=by
 show aF z ((1:Nat):Int)=_
 rw [bB]
 apply Rat.ext
 ·rw [Rat.num_mkRat];simp
 ·rw [Rat.den_mkRat];simp
def den_ne(q:Rat):(q.den:Int)≠0:=by have:=q.den_nz;omega
def Ys(p q:Rat):p/q=aF (p.num*q.den) (p.den*q.num):=by
 rw [Rat.div_def,<- aP p,<- aP q,Rat.inv_divInt,Rat.divInt_mul_divInt]
 rw [aP,aP]
def Sz.add{m n:Nat}{p q:Rat}(hp:Sz m p)(hq:Sz n q):Sz (m+n+1) (p+q):=by
 rw [Fh]
 refine Jm (aO (den_ne p) (den_ne q)) ?_ ((hp.den.mul hq.den).mono (by omega))
 exact (hp.num.mul hq.den).add ((hq.num.mul hp.den).mono (by omega))
def Sz.sub{m n:Nat}{p q:Rat}(hp:Sz m p)(hq:Sz n q):Sz (m+n+1) (p-q):=by
 rw [Rat.sub_eq_add_neg];exact hp.add hq.neg
def Sz.mul{m n:Nat}{p q:Rat}(hp:Sz m p)(hq:Sz n q):Sz (m+n) (p*q):=by
 rw [Jy]
 exact Jm (aO (den_ne p) (den_ne q)) (hp.num.mul hq.num) (hp.den.mul hq.den)
def Sz.zero{m:Nat}(hm:1<=m):Sz m 0:=⟨ZB.zero,ZB.one hm⟩
def Sz.inv{m:Nat}{q:Rat}(h:Sz m q)(hm:1<=m):Sz m q⁻¹:=by
 constructor
 ·rw [Rat.num_inv]
  refine h.den.le ?_
  rw [bN]
  by_cases a:q.num=0
  ·rw [a];simp
  ·rw [Int.natAbs_sign];simp [a]
 ·rw [Rat.den_inv]
  split
  ·exact ZB.one hm
  ·have:=h.num
   unfold ZB at *
   simpa using this
def Sz.div{m n:Nat}{p q:Rat}(hp:Sz m p)(hq:Sz n q)(hn:1<=n):Sz (m+n) (p/q):=by
 rw [Rat.div_def];exact hp.mul (hq.inv hn)
def Sz.int{m:Nat}{z:Int}(h:ZB m z)(hm:1<=m):Sz m (z:Rat):=⟨by simpa using h,by simpa using ZB.one hm⟩
section
variable {h h':bW} {K:VP} {A B:Option bO} {n c n' c':Nat} {s s':Bool} {x y z:Int} {m:Nat} {p q:Rat} {a b w:QV}
def NQ.mono(hl:h.le h')(i:NQ h w q):NQ h' w q:=⟨i.num.mono hl,i.den.mono hl⟩
def NQ.whole(i:NI h s A n c z){B:Option bO}:NQ h ⟨s,A,n,c,false,B,0,0⟩ (z:Rat):=⟨by simpa using i,by simpa using NI.nil⟩
def NQ.den_zero(i:NQ h w q):w.n2=0↔q.den=1:=by
 rw [i.den.zero_iff]
 have:=q.den_nz
 split<;>omega
def NQ.zero:NQ h ⟨false,none,0,0,false,none,0,0⟩ 0:=⟨NI.nil,NI.nil⟩
def Al(i:NQ h w q)(hK:∀ s A n c h',h.le h'->NI h' s A n c q.den->K (.agg #[.bool s,.slice A n c]) h'):aM prog Dy #[w.v] h K:=by
 refine B8u _ _ _ _ _ _ _ _ ?_
 unfold C4v
 have a:=i.den_zero
 refine E4 (fun e=>?_) (fun e=>?_)
 ·refine T5 (by decide) ?_
  intro s A n c j d f
  refine ⟨_,_,_,_,rfl,hK _ _ _ _ _ d ?_⟩
  rw [a.1 (by omega)];exact f
 ·have b:=i.den
  rw [iN (fun g=>e (by have:=a.2 g;omega))] at b
  exact hK _ _ _ _ _ (B4 h) b
def Ij(ix:NI h s A n c x)(iy:NI h s' B n' c' y)(hy0:y≠0)(hx:ZB m x)(hy:ZB m y)(hm:m<=1000000000)(hK:∀ w h',h.le h'->NQ h' w (aF x y)->K w.v h'):aM prog Lr #[.agg #[.bool s,.slice A n c],.agg #[.bool s',.slice B n' c']] h K:=by
 refine B8t _ _ _ _ _ _ _ _ ?_
 unfold C4u
 refine ⟨fun l k=>∃ s A n c s' B n' c' d f,l=[.bool s,.slice A n c,.bool s',.slice B n' c']/\h.le k/\NI k s A n c d/\NI k s' B n' c' f/\0<f/\aF d f=aF x y/\ZB m d/\ZB m f,Br.of (fun e=>?_) (fun e=>?_),?_⟩
 ·have aj:y<0:=by have:=iy.sg;rw [e] at this;simpa using this.symm
  refine A0j ix ?_
  intro s1 D
  refine ⟨_,_,_,_,rfl,B4 h,?_⟩
  refine A0j iy ?_
  intro s2 u
  exact ⟨_,_,_,_,rfl,B4 h,_,_,_,_,_,_,_,_,-x,-y,rfl,B4 h,D,u,by omega,Rat.neg_divInt_neg x y,hx.neg,hy.neg⟩
 ·have j:0<y:=by have:=iy.sg;rw [e] at this;have:¬ y<0:=by simpa using this.symm
                 omega
  exact ⟨_,_,_,_,_,_,_,_,x,y,rfl,B4 h,ix,iy,j,rfl,hx,hy⟩
 rintro s1 A1 n1 c1 s2 A2 n2 c2 am ⟨R,A1',Q,Z,N,A2',M,ah,d,f,hl,z,D,u,j,hq,t,o⟩
 obtain ⟨rfl,⟨rfl,rfl,rfl⟩,rfl,rfl,rfl,rfl⟩:s1=R/\(A1=A1'/\n1=Q/\c1=Z)/\s2=N/\A2=A2'/\n2=M/\c2=ah:=by simpa using hl
 refine B7g D u t o hm ?_
 intro s3 A3 n3 c3 h3 r H
 refine ⟨_,_,_,_,rfl,?_⟩
 rw [<- hq] at hK
 generalize hqq:aF d f=q at *
 have i:q.num=d/(aL d f:Int):=by
  rw [<- hqq,Rat.num_divInt,aD j,Int.one_mul,Int.gcd_comm]
 have g:(q.den:Int)=f/(aL d f:Int):=by
  rw [<- hqq,Rat.den_divInt,iN (by omega),Int.gcd_comm,bD,aN (by omega)]
 have al:0<aL d f:=Int.gcd_pos_of_ne_zero_right d (by omega)
 have p:ZB m (aL d f:Int):=by
  refine o.le ?_
  rw [aE]
  exact Nat.le_of_dvd (by omega) (by have:=aZ d f;exact Int.ofNat_dvd_left.1 this)
 refine ⟨fun l k=>∃ s A n c s' B n' c',l=[.bool s,.slice A n c,.bool s',.slice B n' c']/\h.le k/\NI k s A n c q.num/\NI k s' B n' c' q.den,?_,?_⟩
 ·refine A4e H p hm ⟨_,rfl,?_⟩
  rw [aE]
  refine B7 (fun e=>?_) (fun e=>?_)
  ·refine Uo (D.mono r) H (by omega) t p hm ?_
   intro s4 A4 n4 V s5 A5 n5 c5 h4 T E _
   refine ⟨_,_,_,_,_,_,_,_,rfl,?_⟩
   refine Uo ((u.mono r).mono T) (H.mono T) (by omega) o p hm ?_
   intro s6 A6 G c6 s7 A7 n7 c7 h5 l5 F _
   have e1:d.tdiv (aL d f:Int)=q.num:=by rw [i,bV (Int.gcd_dvd_left d f)]
   have e2:f.tdiv (aL d f:Int)=q.den:=by rw [g,bV (aZ d f)]
   rw [e1] at E
   rw [e2] at F
   exact ⟨_,_,_,_,_,_,_,_,rfl,_,_,_,_,_,_,_,_,rfl,B0 z (B0 r (B0 T l5)),E.mono l5,F⟩
  ·have hg:aL d f=1:=by
    have:¬ 1<N9 (aL d f):=by omega
    rw [A76] at this;omega
   rw [hg] at i g
   simp at i g
   exact ⟨_,_,_,_,_,_,_,_,rfl,B0 z r,by rw [i];exact D.mono r,by rw [g];exact u.mono r⟩
 rintro s4 A4 n4 V s5 A5 n5 c5 ac ⟨J,A4',S,af,ae,A5',L,O,ag,C,E,i5⟩
 obtain ⟨rfl,⟨rfl,rfl,rfl⟩,rfl,rfl,rfl,rfl⟩:s4=J/\(A4=A4'/\n4=S/\V=af)/\s5=ae/\A5=A5'/\n5=L/\c5=O:=by simpa using ag
 have W:ZB m (q.den:Int):=by
  refine o.le ?_
  have:=(Vu (a:=d) (b:=f) (by omega)).2
  rw [hqq] at this
  simpa using this
 refine ⟨fun l k=>∃ s' B n' c',l=[.bool s',.slice B n' c']/\k=ac/\NI k s' B n' c' (if q.den=1 then 0 else (q.den:Int)),?_,?_⟩
 ·refine A4e i5 W hm ⟨_,rfl,?_⟩
  rw [aE]
  refine E4 (fun e=>?_) (fun e=>?_)
  ·have:q.den=1:=A8y.1 (by omega)
   exact ⟨_,_,_,_,rfl,rfl,by rw [iP this];exact NI.nil⟩
  ·have:¬ q.den=1:=fun e1=>e (by rw [e1];rfl)
   exact ⟨_,_,_,_,rfl,rfl,by rw [iN this];exact i5⟩
 rintro s6 A6 G c6 ak ⟨ad,A6',ai,X,aa,rfl,F⟩
 obtain ⟨rfl,rfl,rfl,rfl⟩:s6=ad/\A6=A6'/\G=ai/\c6=X:=by simpa using aa
 exact hK ⟨s4,A4,n4,V,s6,A6,G,c6⟩ _ C ⟨E,F⟩
def C3h(hz: -9223372036854775808<=z/\z<=9223372036854775807)(hK:∀ w h',h.le h'->NQ h' w (z:Rat)->K w.v h'):aM prog C5t #[I z] h K:=by
 refine C66 _ ?_
 unfold NR
 refine T5 hz ?_
 intro s A n c d b a
 exact ⟨_,_,_,_,rfl,hK ⟨s,A,n,c,false,none,0,0⟩ _ b (NQ.whole a)⟩
def En(i:NQ h w q)(hK:K (I q.num.sign) h):aM prog Gq #[w.v] h K:=by
 refine B5m _ _ _ _ _ _ _ _ ?_
 unfold C05
 exact B2d i.num ⟨_,rfl,hK⟩
def A34(i:NQ h w q)(hK:∀ w,NQ h w (-q)->K w.v h):aM prog A0y #[w.v] h K:=by
 refine B8p _ _ _ _ _ _ _ _ ?_
 unfold C4q
 refine A0j i.num ?_
 intro b a
 exact ⟨_,_,_,_,rfl,B4 h,hK ⟨b,w.A,w.n,w.c,w.s2,w.A2,w.n2,w.c2⟩ ⟨a,i.den⟩⟩
def Nq(ia:NQ h a p)(ib:NQ h b q)(hp:Sz m p)(hq:Sz m q)(hm:m<=400000000)(hK:∀ w h',h.le h'->NQ h' w (p+q)->K w.v h'):aM prog Qt #[a.v,b.v] h K:=by
 have o:=ia.den_zero
 have T:=ib.den_zero
 refine B8s _ _ _ _ _ _ _ _ _ _ _ _ _ _ _ _ ?_
 unfold C4t
 refine ⟨fun l h'=>l=[.bool (decide (p.den=1/\q.den=1))]/\h'=h,E4 (fun e=>?_) (fun e=>?_),?_⟩
 ·have k:p.den=1:=o.1 (by omega)
  refine ⟨?_,rfl⟩
  have:((b.n2:Int)==0)=decide (p.den=1/\q.den=1):=by
   rw [Bool.eq_iff_iff];simp [k];omega
  rw [this]
 ·have k:¬ p.den=1:=fun M=>e (by have:=o.2 M;omega)
  exact ⟨by simp [k],rfl⟩
 rintro t Q ⟨O,rfl⟩
 obtain rfl:t=decide (p.den=1/\q.den=1):=by simpa using O
 have g:=hp.num;have c:=hp.den;have f:=hq.num;have d:=hq.den
 refine B7 (fun e=>?_) (fun e=>?_)
 ·refine A90 ia.num ib.num g f (by omega) ?_
  intro B A1 E c1 k j z
  refine ⟨_,_,_,_,rfl,hK ⟨B,A1,E,c1,false,none,0,0⟩ _ j ?_⟩
  have:p+q=((p.num+q.num:Int):Rat):=by
   rw [Fh,e.1,e.2]
   show aF (p.num*1+q.num*1) (1*1)=_
   rw [aU,aU,aU,Rc]
  rw [this];exact NQ.whole z
 ·refine Al ib ?_
  intro B A1 E c1 k j z
  refine ⟨_,_,_,_,rfl,j,?_⟩
  refine Dc (ia.num.mono j) z g d (by omega) (by omega) ?_
  intro s2 A2 n2 c2 X y L
  refine ⟨_,_,_,_,rfl,y,?_⟩
  refine Al (ia.mono (B0 j y)) ?_
  intro s3 A3 n3 c3 h3 u G
  refine ⟨_,_,_,_,rfl,u,?_⟩
  have n:=B0 j (B0 y u)
  refine Dc (ib.num.mono n) G f c (by omega) (by omega) ?_
  intro s4 A4 n4 c4 h4 x R
  refine ⟨_,_,_,_,rfl,x,?_⟩
  refine A90 (L.mono (B0 u x)) R (g.mul d) (f.mul c) (by omega) ?_
  intro s5 A5 n5 Z h5 C N
  refine ⟨_,_,_,_,rfl,C,?_⟩
  have i:=B0 n (B0 x C)
  refine Al (ia.mono i) ?_
  intro s6 A6 V c6 h6 s S
  refine ⟨_,_,_,_,rfl,s,?_⟩
  refine Al (ib.mono (B0 i s)) ?_
  intro s7 A7 n7 c7 h7 r J
  refine ⟨_,_,_,_,rfl,r,?_⟩
  refine Dc (S.mono r) J c d (by omega) (by omega) ?_
  intro s8 A8 n8 W h8 A H
  refine ⟨_,_,_,_,rfl,A,?_⟩
  refine Ij (m:=m+m+1) (N.mono (B0 s (B0 r A))) H (aO (den_ne p) (den_ne q)) ((g.mul d).add (f.mul c)) ((c.mul d).mono (by omega)) (by omega) ?_
  intro w h9 F D
  rw [<- Fh] at D
  exact ⟨_,_,_,_,_,_,_,_,rfl,F,hK w _ (B0 i (B0 s (B0 r (B0 A F)))) D⟩
def A32(ia:NQ h a p)(ib:NQ h b q)(hp:Sz m p)(hq:Sz m q)(hm:m<=400000000)(hK:∀ w h',h.le h'->NQ h' w (p-q)->K w.v h'):aM prog A0x #[a.v,b.v] h K:=by
 refine B8o _ _ _ _ _ _ _ _ _ _ _ _ _ _ _ _ ?_
 unfold C4p
 refine A34 ib ?_
 intro w i
 refine ⟨_,_,_,_,_,_,_,_,rfl,B4 h,?_⟩
 refine Nq ia i hp hq.neg hm ?_
 intro e f d c
 rw [<- Rat.sub_eq_add_neg] at c
 exact ⟨_,_,_,_,_,_,_,_,rfl,d,hK e _ d c⟩
def No(ia:NQ h a p)(ib:NQ h b q)(hp:Sz m p)(hq:Sz m q)(hm:m<=400000000)(hK:∀ w h',h.le h'->NQ h' w (p*q)->K w.v h'):aM prog Qs #[a.v,b.v] h K:=by
 have k:=ia.den_zero
 have G:=ib.den_zero
 refine B8q _ _ _ _ _ _ _ _ _ _ _ _ _ _ _ _ ?_
 unfold C4r
 refine ⟨fun l h'=>l=[.bool (decide (p.den=1/\q.den=1))]/\h'=h,E4 (fun e=>?_) (fun e=>?_),?_⟩
 ·have g:p.den=1:=k.1 (by omega)
  refine ⟨?_,rfl⟩
  have:((b.n2:Int)==0)=decide (p.den=1/\q.den=1):=by
   rw [Bool.eq_iff_iff];simp [g];omega
  rw [this]
 ·have g:¬ p.den=1:=fun C=>e (by have:=k.2 C;omega)
  exact ⟨by simp [g],rfl⟩
 rintro t E ⟨D,rfl⟩
 obtain rfl:t=decide (p.den=1/\q.den=1):=by simpa using D
 have d:=hp.num;have i:=hp.den;have c:=hq.num;have j:=hq.den
 refine B7 (fun e=>?_) (fun e=>?_)
 ·refine Dc ia.num ib.num d c (by omega) (by omega) ?_
  intro u A1 y c1 g f s
  refine ⟨_,_,_,_,rfl,hK ⟨u,A1,y,c1,false,none,0,0⟩ _ f ?_⟩
  have:p*q=((p.num*q.num:Int):Rat):=by
   rw [Jy,e.1,e.2]
   show aF (p.num*q.num) (1*1)=_
   rw [aU,Rc]
  rw [this];exact NQ.whole s
 ·refine Dc ia.num ib.num d c (by omega) (by omega) ?_
  intro u A1 y c1 g f s
  refine ⟨_,_,_,_,rfl,f,?_⟩
  refine Al (ia.mono f) ?_
  intro W A2 M c2 H o B
  refine ⟨_,_,_,_,rfl,o,?_⟩
  refine Al (ib.mono (B0 f o)) ?_
  intro J A3 R T S n A
  refine ⟨_,_,_,_,rfl,n,?_⟩
  refine Dc (B.mono n) A i j (by omega) (by omega) ?_
  intro Q A4 V L O r F
  refine ⟨_,_,_,_,rfl,r,?_⟩
  refine Ij (m:=m+m) (s.mono (B0 o (B0 n r))) F (aO (den_ne p) (den_ne q)) (d.mul c) (i.mul j) (by omega) ?_
  intro w N z x
  rw [<- Jy] at x
  exact ⟨_,_,_,_,_,_,_,_,rfl,z,hK w _ (B0 f (B0 o (B0 n (B0 r z)))) x⟩
def A3a(ia:NQ h a p)(ib:NQ h b q)(hp:Sz m p)(hq:Sz m q)(hm:m<=400000000)(hK:∀ w h',h.le h'->NQ h' w (p/q)->K w.v h'):aM prog A0z #[a.v,b.v] h K:=by
 refine B8r _ _ _ _ _ _ _ _ _ _ _ _ _ _ _ _ ?_
 unfold C4s
 have i:=hp.num;have d:=hp.den;have c:=hq.num;have f:=hq.den
 refine En ib ⟨_,rfl,E4 (fun e=>?_) (fun e=>?_)⟩
 ·have y:q=0:=Rat.num_eq_zero.1 (Int.sign_eq_zero_iff_zero.1 e)
  have:=hK ⟨false,none,0,0,false,none,0,0⟩ h (B4 h) (by rw [y,Rat.div_def,Rat.inv_zero,Rat.mul_zero];exact NQ.zero)
  exact this
 ·have o:q.num≠0:=fun x=>e (by rw [x];rfl)
  refine Al ib ?_
  intro C A1 G c1 E j A
  refine ⟨_,_,_,_,rfl,j,?_⟩
  refine Dc (ia.num.mono j) A i f (by omega) (by omega) ?_
  intro S A2 H c2 B n u
  refine ⟨_,_,_,_,rfl,n,?_⟩
  refine Al (ia.mono (B0 j n)) ?_
  intro D A3 N Q O k t
  refine ⟨_,_,_,_,rfl,k,?_⟩
  have g:=B0 j (B0 n k)
  refine Dc t (ib.num.mono g) d c (by omega) (by omega) ?_
  intro M A4 R F L l z
  refine ⟨_,_,_,_,rfl,l,?_⟩
  refine Ij (m:=m+m) (u.mono (B0 k l)) z (aO (den_ne p) o) (i.mul f) (d.mul c) (by omega) ?_
  intro w J s r
  rw [<- Ys] at r
  exact ⟨_,_,_,_,_,_,_,_,rfl,s,hK w _ (B0 g (B0 l s)) r⟩
end
def dch(d:Nat):UInt8:=UInt8.ofNat (48+d)
def Fb{d:Nat}(h:d<10):(dch d).toNat=48+d:=by
 unfold dch;rw [UInt8.toNat_ofNat'];omega
def J9(c:UInt8):Prop:=48<=c.toNat/\c.toNat<=57
instance (c:UInt8):Decidable (J9 c):=by unfold J9;infer_instance
def C1s{d:Nat}(h:d<10):J9 (dch d):=by unfold J9;rw [Fb h];omega
def B9m{c:UInt8}(h:J9 c):dch (c.toNat-48)=c:=by
 unfold J9 at h
 apply UInt8.toNat_inj.1
 rw [Fb (by omega)];omega
def dd(n:Nat):List UInt8:=if _h:n=0 then [] else dd (n/10)++[dch (n%10)]
def I7:dd 0=[]:=by unfold dd;simp
def U1{n:Nat}(h:n≠0):dd n=dd (n/10)++[dch (n%10)]:=by rw [dd];simp [h]
def Q8(l:List UInt8):Nat:=l.foldl (fun a c=>10*a+(c.toNat-48)) 0
def Ox(l:List UInt8)(c:UInt8):Q8 (l++[c])=10*Q8 l+(c.toNat-48):=by simp [Q8]
def C1l(l:List UInt8):∀ a,l.foldl (fun a c=>10*a+(c.toNat-48)) a=a*10^l.length+Q8 l:=by
 induction l with
 | nil=>intro a;simp [Q8]
 | cons c l ih=>
  intro a
  unfold Q8
  rw [List.foldl_cons,List.foldl_cons,ih,ih,List.length_cons,aK]
  grind
def Lx(a b:List UInt8):Q8 (a++b)=Q8 a*10^b.length+Q8 b:=by
 unfold Q8;rw [List.foldl_append,C1l b];rfl
def B46(c:UInt8)(l:List UInt8):Q8 (c::l)=(c.toNat-48)*10^l.length+Q8 l:=by
 rw [<- List.singleton_append,Lx];simp [Q8]
def Lw{l:List UInt8}(h:∀ c∈l,J9 c):Q8 l<10^l.length:=by
 induction l with
 | nil=>simp [Q8]
 | cons c l ih=>
  have d:=ih fun x a=>h x (by simp [a])
  have b:=h c (by simp)
  unfold J9 at b
  rw [B46,List.length_cons,aK]
  have:(c.toNat-48)*10^l.length<=9*10^l.length:=Nat.mul_le_mul_right _ (by omega)
  omega
def C1m(n:Nat):Q8 (dd n)=n:=by
 induction n using bH with
 | _ n ih=>
  by_cases h:n=0
  ·subst h;rw [I7];rfl
  ·rw [U1 h,Ox,ih _ (by omega),Fb (by omega)];omega
def C42(n:Nat):∀ c∈dd n,J9 c:=by
 induction n using bH with
 | _ n ih=>
  by_cases h:n=0
  ·subst h;rw [I7];simp
  ·rw [U1 h]
   intro c b
   rcases List.mem_append.1 b with a|a
   ·exact ih _ (by omega) c a
   ·rw [List.mem_singleton.1 a];exact C1s (by omega)
def B7t{n:Nat}(h:n≠0):dd n≠[]:=by rw [U1 h];simp
def B4c(n:Nat)(h:n≠0):(dd n).head? ≠ some 48:=by
 induction n using bH with
 | _ n ih=>
  rw [U1 h]
  by_cases a:n/10=0
  ·rw [a,I7]
   simp only [bJ,List.head?_cons,ne_eq,Option.some.injEq]
   intro e
   have:=Fb (d:=n%10) (by omega)
   rw [e] at this
   simp at this
   omega
  ·have:=ih _ (by omega) a
   obtain ⟨c,r,e⟩:=bL (B7t a)
   rw [e] at this ⊢
   simpa using this
def B4d{l:List UInt8}(h:∀ c∈l,J9 c)(h0:l.head? ≠ some 48):dd (Q8 l)=l:=by
 obtain ⟨n,b⟩:∃ n,l.length=n:=⟨_,rfl⟩
 induction n generalizing l with
 | zero=>rw [bF b];exact I7
 | succ n ih=>
  obtain ⟨m,c,rfl⟩:∃ m c,l=m++[c]:=by
   refine ⟨l.dropLast,l.getLast (by rintro rfl;simp at b),?_⟩
   rw [List.dropLast_concat_getLast]
  have f:=h c (by simp)
  have g:=f
  unfold J9 at g
  rw [Ox]
  cases m with
  | nil=>
   simp at h0
   have k:c.toNat-48≠0:=by
    intro e
    apply h0
    apply UInt8.toNat_inj.1
    show c.toNat=48
    omega
   rw [U1 (by simp [Q8];omega)]
   simp only [Q8,List.foldl_nil,bJ]
   rw [show (10*0+(c.toNat-48))/10=0 by omega,I7,show (10*0+(c.toNat-48))%10=c.toNat-48 by omega,B9m f];rfl
  | cons d m=>
   have a:=ih (l:=d::m) (fun x i=>h x (by simp at i ⊢;rcases i with h|h<;>simp [h])) (by simpa using h0) (by simpa using b)
   have j:Q8 (d::m)≠0:=by
    intro e
    rw [e,I7] at a
    cases a
   rw [U1 (by omega),show (10*Q8 (d::m)+(c.toNat-48))/10=Q8 (d::m) by omega,a,show (10*Q8 (d::m)+(c.toNat-48))%10=c.toNat-48 by omega,B9m f]
def Q9{n k:Nat}:(dd n).length<=k↔n<10^k:=by
 induction k generalizing n with
 | zero=>
  constructor
  ·intro h
   have:dd n=[]:=bF (by omega)
   by_cases a:n=0
   ·subst a;decide
   ·exact absurd this (B7t a)
  ·intro h
   have:n=0:=by simp at h;exact h
   subst this;rw [I7];simp
 | succ k ih=>
  by_cases a:n=0
  ·subst a;rw [I7];simp [aJ]
  ·rw [U1 a,aX,List.length_singleton,Nat.add_le_add_iff_right,ih,aK]
   omega
def pad(w n:Nat):List UInt8:=List.replicate (w-(dd n).length) 48++dd n
def A8b(n:Nat):pad 0 n=dd n:=by simp [pad]
def Yk{w n:Nat}(h:n<10^w):(pad w n).length=w:=by
 have:=Q9.2 h
 simp [pad];omega
def Tj(w n:Nat):pad (w+1) n=pad w (n/10)++[dch (n%10)]:=by
 unfold pad
 by_cases h:n=0
 ·subst h
  rw [I7]
  simp only [List.length_nil,Nat.sub_zero,List.append_nil,Nat.zero_mod]
  rw [List.replicate_succ'];rfl
 ·rw [U1 h,aX,List.length_singleton,Nat.add_sub_add_right,aI]
def C41{h l k:Nat}(h0:h≠0)(hl:l<10^k):dd (h*10^k+l)=dd h++pad k l:=by
 induction k generalizing l with
 | zero=>
  have:l=0:=by simpa using hl
  subst this;simp [pad,I7]
 | succ k ih=>
  have d:0<10^k:=aJ (by decide)
  have a:h*10^(k+1)+l≠0:=by
   have:0<h*10^(k+1):=Nat.mul_pos (by omega) (aJ (by decide))
   omega
  have c:(h*10^(k+1)+l)/10=h*10^k+l/10:=by
   rw [aK,<- Nat.mul_assoc];omega
  have b:(h*10^(k+1)+l)%10=l%10:=by
   rw [aK,<- Nat.mul_assoc];omega
  rw [U1 a,c,b,ih (by rw [aK] at hl;omega),Tj,aI]
def A3d{w h l k:Nat}(hl:l<10^k)(hw:h≠0\/k<=w):pad w (h*10^k+l)=pad (w-k) h++pad k l:=by
 by_cases b:h=0
 ·subst b
  have c:k<=w:=by
   rcases hw with h|h
   ·exact absurd rfl h
   ·exact h
  have:=Q9.2 hl
  unfold pad
  rw [I7]
  simp only [Nat.zero_mul,Nat.zero_add,List.length_nil,Nat.sub_zero,List.append_nil,<- aI,List.replicate_append_replicate]
  congr 2;omega
 ·have e:=C41 b hl
  have a:=Yk hl
  unfold pad at a
  unfold pad at e ⊢
  rw [e,aX,a,<- aI]
  congr 3;omega
def P7(n:Nat):List UInt8:=if n=0 then [48] else dd n
def Ab{n:Nat}(h:n≠0):P7 n=dd n:=by simp [P7,h]
def Oy(n:Nat):Q8 (P7 n)=n:=by
 unfold P7;split
 ·rename_i h;subst h;rfl
 ·exact C1m n
def A8v(n:Nat):∀ c∈P7 n,J9 c:=by
 unfold P7;split
 ·intro c a;rw [List.mem_singleton.1 a];decide
 ·exact C42 n
def A6y(n:Nat):P7 n≠[]:=by
 unfold P7;split
 ·simp
 ·rename_i h;exact B7t h
def B7s{a b:Nat}(h:P7 a=P7 b):a=b:=by rw [<- Oy a,h,Oy]
def Pa{l:List UInt8}(h:∀ c∈l,J9 c)(hn:l≠[])(h0:l.head? ≠ some 48\/l=[48]):P7 (Q8 l)=l:=by
 rcases h0 with h0|h0
 ·have:=B4d h h0
  rw [Ab,this]
  intro e
  rw [e,I7] at this
  exact hn this.symm
 ·subst h0;rfl
def Oz{n k:Nat}(hk:0<k):(P7 n).length<=k↔n<10^k:=by
 by_cases h:n=0
 ·subst h;have:0<10^k:=aJ (by decide);simp [P7];omega
 ·rw [Ab h];exact Q9
def Ia(z:Int):List UInt8:=if z<0 then 45::P7 z.natAbs else P7 z.natAbs
def I8(q:Rat):List UInt8:=Ia q.num++(if q.den=1 then [] else 47::P7 q.den)
structure Form (s:List UInt8) (neg:Bool) (a b:List UInt8):Prop where
 eq:s=(if neg then [45] else [])++a++(if b=[] then [] else 47::b)
 da:∀ c∈a,J9 c
 db:∀ c∈b,J9 c
 ne:a≠[]
 ha:a.head? ≠ some 48\/(a=[48]/\neg=false/\b=[])
 hb:b.head? ≠ some 48
 b1:b≠[49]
def B7e{c:UInt8}(h:J9 c):c≠45/\c≠47:=by
 unfold J9 at h
 constructor<;>(rintro rfl;revert h;decide)
def Fw{a r:List UInt8}(h:∀ c∈a,J9 c)(hr:∀ c,r.head? = some c->¬ J9 c):(a++r).takeWhile (fun c=>decide (J9 c))=a/\(a++r).dropWhile (fun c=>decide (J9 c))=r:=by
 induction a with
 | nil=>
  cases r with
  | nil=>simp
  | cons c r=>
   have:=hr c rfl
   simp [this]
 | cons c a ih=>
  have b:=h c (by simp)
  have:=ih fun x d=>h x (by simp [d])
  simp [b,this]
def Form.head{s:List UInt8}{neg:Bool}{a b:List UInt8}(f:Form s neg a b):neg=(s.head? == some 45):=by
 obtain ⟨c,r,e⟩:=bL f.ne
 have d:=(B7e (f.da c (by simp [e]))).1
 rw [f.eq,e]
 cases neg<;>simp [d]
def Form.unique{s:List UInt8}{neg neg':Bool}{a b a' b':List UInt8}(f:Form s neg a b)(g:Form s neg' a' b'):neg=neg'/\a=a'/\b=b':=by
 have n:neg=neg':=by rw [f.head,g.head]
 subst n
 have e:=f.eq.symm.trans g.eq
 rw [aI,aI] at e
 have o:=List.append_cancel_left e
 have m:∀ b:List UInt8,∀ c,(if b=[] then [] else 47::b:List UInt8).head? = some c->¬ J9 c:=by
  intro b c d
  split at d
  ·simp at d
  ·simp at d;subst d;decide
 have j:=Fw f.da (m b)
 have l:=Fw g.da (m b')
 rw [o] at j
 have q:a=a':=j.1.symm.trans l.1
 have k:=j.2.symm.trans l.2
 refine ⟨rfl,q,?_⟩
 by_cases p:b=[]<;>by_cases i:b'=[]<;>simp [p,i] at k ⊢
 exact k
def Vw{q:Rat}(h:q.num=0):q.den=1:=by
 have:=q.reduced
 rw [h] at this
 simpa using this
def Nb(q:Rat):Form (I8 q) (decide (q.num<0)) (P7 q.num.natAbs) (if q.den=1 then [] else P7 q.den):=by
 constructor
 ·unfold I8 Ia
  by_cases b:q.num<0<;>by_cases c:q.den=1<;>simp [b,c,A6y]
 ·exact A8v _
 ·split
  ·simp
  ·exact A8v _
 ·exact A6y _
 ·by_cases h:q.num=0
  ·right
   rw [Vw h,h];simp [P7]
  ·left
   rw [Ab (by omega)];exact B4c _ (by omega)
 ·split
  ·simp
  ·rw [Ab q.den_nz];exact B4c _ q.den_nz
 ·split
  ·simp
  ·rename_i h
   intro e
   have a:P7 q.den=P7 1:=by rw [e];simp [P7,U1,I7,dch]
   exact h (B7s a)
def Vn(neg:Bool)(a:List UInt8):Int:=if neg then -(Q8 a:Int) else Q8 a
def Ps(b:List UInt8):Nat:=if b=[] then 1 else Q8 b
def Vr{b:List UInt8}(h:∀ c∈b,J9 c)(hn:b≠[])(h0:b.head? ≠ some 48):Q8 b≠0:=by
 intro e
 have:=B4d h h0
 rw [e,I7] at this
 exact hn this.symm
def Form.den_ne{s:List UInt8}{neg:Bool}{a b:List UInt8}(f:Form s neg a b):Ps b≠0:=by
 unfold Ps;split
 ·decide
 ·rename_i h;exact Vr f.db h f.hb
def Form.txt{s:List UInt8}{neg:Bool}{a b:List UInt8}(f:Form s neg a b){q:Rat}(h1:q.num=Vn neg a)(h2:q.den=Ps b):s=I8 q:=by
 have l:P7 (Q8 a)=a:=Pa f.da f.ne (f.ha.imp id fun h=>h.1)
 have g:(Vn neg a).natAbs=Q8 a:=by unfold Vn;split<;>simp
 have c:(Vn neg a<0)↔neg=true:=by
  unfold Vn
  cases neg
  ·simp
  ·simp only [if_true]
   constructor
   ·intro _;trivial
   ·intro _
    have:Q8 a≠0:=by
     rcases f.ha with h|h
     ·exact Vr f.da f.ne h
     ·exact absurd h.2.1 (by simp)
    omega
 have j:(Ps b=1)↔b=[]:=by
  unfold Ps
  split
  ·rename_i h;simp [h]
  ·rename_i h
   constructor
   ·intro e
    exfalso
    have i:=Pa f.db h (Or.inl f.hb)
    rw [e] at i
    apply f.b1
    rw [<- i];simp [P7,U1,I7,dch]
   ·intro e;exact absurd e h
 rw [f.eq]
 unfold I8 Ia
 rw [h1,h2,g,l]
 by_cases d:b=[]
 ·rw [iP d,iP (j.2 d)]
  cases neg
  ·rw [iN (fun e=>Bool.noConfusion (c.1 e))];simp
  ·rw [iP (c.2 rfl)];simp
 ·rw [iN d,iN (fun e=>d (j.1 e))]
  have k:P7 (Ps b)=b:=by
   unfold Ps;rw [iN d];exact Pa f.db d (Or.inl f.hb)
  rw [k]
  cases neg
  ·rw [iN (fun e=>Bool.noConfusion (c.1 e))];simp
  ·rw [iP (c.2 rfl)];simp
def Form.of_txt{s:List UInt8}{neg:Bool}{a b:List UInt8}(f:Form s neg a b){q:Rat}(e:s=I8 q):q.num=Vn neg a/\q.den=Ps b:=by
 subst e
 obtain ⟨c,g,d⟩:=f.unique (Nb q)
 subst c g d
 constructor
 ·unfold Vn
  rw [Oy]
  by_cases h:q.num<0
  ·simp [h];omega
  ·simp [h];omega
 ·unfold Ps
  by_cases h:q.den=1
  ·simp [h]
  ·simp [h,A6y,Oy]
def IsNum(s:List UInt8):Prop:=∃ q,s=I8 q
def Form.isNum{s:List UInt8}{neg:Bool}{a b:List UInt8}(f:Form s neg a b):IsNum s↔Nat.gcd (Q8 a) (Ps b)=1:=by
 have c:(Vn neg a).natAbs=Q8 a:=by unfold Vn;split<;>simp
 constructor
 ·rintro ⟨q,e⟩
  have:=f.of_txt e
  have d:=q.reduced
  rw [this.1,this.2,c] at d
  exact d
 ·intro h
  exact ⟨⟨Vn neg a,Ps b,f.den_ne,by rw [c];exact h⟩,f.txt rfl rfl⟩
def IsNum.form{s:List UInt8}(h:IsNum s):∃ neg a b,Form s neg a b:=by
 obtain ⟨q,rfl⟩:=h
 exact ⟨_,_,_,Nb q⟩
def B76(s:List UInt8):Rat:=
 let neg:=s.head? == some 45
 let t:=if neg then s.drop 1 else s
 mkRat (Vn neg (t.takeWhile fun c=>decide (J9 c))) (Ps ((t.dropWhile fun c=>decide (J9 c)).drop 1))
def rv(s:List UInt8):Rat:=if I8 (B76 s)=s then B76 s else 0
def D9(q:Rat):rv (I8 q)=q:=by
 have f:=Nb q
 have j:=f.head
 have g:∀ b:List UInt8,∀ c,(if b=[] then [] else 47::b:List UInt8).head? = some c->¬ J9 c:=by
  intro b c a
  split at a
  ·simp at a
  ·simp at a;subst a;decide
 have e:B76 (I8 q)=q:=by
  unfold B76
  simp only [<- j]
  generalize hb:(if q.den=1 then [] else P7 q.den)=b at f
  have l:(if decide (q.num<0)=true then (I8 q).drop 1 else I8 q)=P7 q.num.natAbs++(if b=[] then [] else 47::b):=by
   rw [f.eq]
   by_cases d:q.num<0<;>simp [d]
  rw [l,(Fw f.da (g b)).1,(Fw f.da (g b)).2]
  have i:=f.of_txt rfl
  have k:(if b=[] then [] else 47::b:List UInt8).drop 1=b:=by
   by_cases d:b=[]<;>simp [d]
  rw [k,<- i.1,<- i.2,Rat.mkRat_self]
 unfold rv
 rw [e,iP rfl]
def B2i{s:List UInt8}(h:¬ IsNum s):rv s=0:=by
 unfold rv
 rw [iN (fun e=>h ⟨_,e.symm⟩)]
def B1s{s:List UInt8}(h:IsNum s):I8 (rv s)=s:=by
 obtain ⟨q,rfl⟩:=h
 rw [D9]
