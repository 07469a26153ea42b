/- A part. -/
import Derived.Test.YtmbfcbbkbefgfaaGreatDoorG16
import Derived.Test.YtmbfcbbkbefgfaaGreatDoorG17
open Go.Proofs.Tryz
set_option linter.all false
open Int renaming mul_le_mul_of_nonneg_right->aC,sign_eq_one_of_pos->aD,natAbs_natCast->aE,le_of_lt->aG,sign_eq_neg_one_of_neg->aH,gcd->aL,natAbs_of_nonneg->aN,mul_ne_zero->aO,natAbs_neg->aQ,toNat_natCast->aR,natCast_mul->aS,mul_one->aU,toNat_of_nonneg->aW,mul_comm->aY,gcd_dvd_right->aZ,natCast_ediv->bD,mul_le_mul_of_nonneg_left->bG,mul_lt_mul_of_pos_right->bK,tmod_eq_emod_of_nonneg->bM,natAbs_mul->bN,tdiv_eq_ediv_of_dvd->bV
open List renaming append_assoc->aI,length_append->aX,take_length->bC,eq_nil_of_length_eq_zero->bF,nil_append->bJ,exists_cons_of_ne_nil->bL,getElem?_cons_zero->bU
open Nat renaming pow_pos->aJ,pow_succ->aK,le_refl->aT,mul_le_mul_left->aV,strongRecOn->bH,min_eq_left->bI
open Rat renaming divInt->aF,num_divInt_den->aP,divInt_ofNat->bB
open _root_.Go renaming Addr->bO
open _root_.Go.Proofs.YtmbfcbbkbefgfaaGreatDoor renaming FCall->aM,Heap->bW
namespace Go.Proofs.YtmbfcbbkbefgfaaGreatDoor
set_option maxRecDepth 20000
open Go
section
variable {h g:bW} {K:VP} {A B:Option bO} {ac bc:Nat}
def C16{P:Program}{t e:TypeId}{z:Value}{bytes:Nat}(s:SliceT P t e z 1 bytes){u v:Value}(hu:u.cells=#[u])(hv:v.cells=#[v]){K:VP}{h:bW}
 (x:∀ b,h b=none->K (.slice (some ⟨b,0,none⟩) 2 2) (h.put b (.cells #[u,v] e))):wpH P (Instr.buildSlice t 2 #[(0,u),(1,v)]) K h:=by
 refine Bw s (by omega) (cells:=#[u,v]) ?_ x
 have a:(F2 z.cells 2).size=2:=by simp [F2,s.cells]
 have:F2 z.cells 2=#[(F2 z.cells 2)[0]'(by omega),(F2 z.cells 2)[1]'(by omega)]:=by
  apply Array.ext
  ·simpa using a
  ·intro i d c
   match i with
   | 0=>rfl
   | 1=>rfl
   | i+2=>simp at c;omega
 rw [this]
 simp [Instr.fill,hu,hv]
def Bz{B:Int}(hB:0<B){xs:List Int}(d:Dig B xs){m:Nat}(hl:xs.length=m+1):val B xs<(xs.getD m 0+1)*B^m/\xs.getD m 0*B^m<=val B xs:=by
 have a:=G1 B xs m
 rw [show m+1=xs.length by omega,bC] at a
 have b:=L5 hB (d.take m)
 have c:=C6 hB (d.take m)
 rw [List.length_take,bI (by omega)] at b
 have f:(xs.getD m 0+1)*B^m=B^m*xs.getD m 0+B^m:=by grind
 have e:xs.getD m 0*B^m=B^m*xs.getD m 0:=aY _ _
 omega
def A2t{xs:List Int}{m:Nat}(hl:xs.length=m+1)(hn:Norm xs):xs.getD m 0≠0:=by
 intro a
 have e:=Hy (xs:=xs) (i:=m) (by omega)
 rw [<- hl,bC,a] at e
 apply hn
 rw [e];simp
def Vs{x y:Int}{an bn:Nat}(ma:Mg h A an x)(mb:Mg h B bn y)(hy:y≠0)(hl:an<=100000000)(hl2:bn<=100000000)
 (hK:∀ A1 m1 c1 A2 m2 c2 h',h.le h'->m1<=c1->m2<=c2->Mg h' A1 m1 (x/y)->Mg h' A2 m2 (x%y)->K (.tuple #[.slice A1 m1 c1,.slice A2 m2 c2]) h'):aM prog Ok #[.slice A an ac,.slice B bn bc] h K:=by
 have V:=ma.nonneg (by decide)
 have ar:=mb.nonneg (by decide)
 have a0:=mb.len_zero (by decide)
 have F:=ma.lt (by decide)
 have ax:=mb.lt (by decide)
 refine B11 _ _ _ _ _ _ ?_
 unfold B5o
 refine Vy ma mb (by omega) ⟨_,rfl,B6 (fun M=>?_) (fun M=>D8 (fun h2=>?_) (fun h2=>?_))⟩
 ·have Z:x<y:=by
   by_cases f:x<y
   ·exact f
   ·rw [iN f] at M
    by_cases Q:x>y
    ·rw [iP Q] at M;omega
    ·rw [iN Q] at M;omega
  rw [Int.ediv_eq_zero_of_lt V Z,Int.emod_eq_of_lt V Z] at hK
  obtain ⟨xs,rfl,sx,dx,nx,rfl⟩:=ma
  refine La Pv ?_
  intro b hb
  refine ⟨_,_,_,rfl,?_⟩
  have g:=Heap.le_put (h:=h) (b:=b) (.cells #[] C3) hb
  have ao:=SlI.mono g sx
  refine Oy Pv (Priv.nil _ _ _ _) (ys:=xs.map (Value.int .u32)) (by simp) ao (fun v hv=>?_) (by omega) (by omega) ?_
  ·obtain ⟨a,_,rfl⟩:=List.mem_map.1 hv;rfl
  ·intro A' c' h' g' hg J
   rw [bJ] at J
   have z:=J.slV
   simp only [Nat.zero_add] at J ⊢
   exact ⟨_,_,_,rfl,hK none 0 0 A' xs.length c' h' (Heap.le_trans g (Heap.le_trans hg J.le)) (aT _) J.2.1 Mag.zero ⟨xs,rfl,z,dx,nx,rfl⟩⟩
 ·obtain ⟨ys,rfl,sy,T,ny,rfl⟩:=mb
  have G:ys.length=1:=by omega
  obtain ⟨d,rfl⟩:∃ d,ys=[d]:=by
   cases ys with
   | nil=>simp at G
   | cons d r=>
    cases r with
    | nil=>exact ⟨d,rfl⟩
    | cons _ _=>simp at G
  rw [W4] at hy ar hK
  have hd:=T d (by simp)
  refine sy.load rfl (by omega) (by simp) ?_
  show aM _ _ #[_,U32 d] _ _
  refine Nf ma ⟨by omega,hd.2⟩ hl ?_
  intro A' m c' h' g hm ay hM
  refine ⟨_,_,_,_,rfl,?_⟩
  refine An Pv rfl ?_
  intro b hb
  refine ⟨_,_,_,rfl,?_⟩
  have q:=Heap.le_put (h:=h') (b:=b) (.cells #[U32 (x%d)] C3) hb
  have hr:0<=x%d/\x%d<4294967296:=by
   have h3:=Int.emod_nonneg x (show d≠0 by omega)
   have h4:=Int.emod_lt_of_pos x (show 0<d by omega)
   have h5:=hd.2
   show _/\_<b32
   omega
  refine Y8 (xs:=[x%d]) (SlI.new h' b [x%d] C3 _) (Dig.one hr) (aT _) (by simp) ?_
  intro m2 w p
  rw [W4] at p
  exact ⟨_,_,_,rfl,hK _ _ _ _ _ _ _ (Heap.le_trans g q) hm (by simpa using w) (hM.mono q) p⟩
 ·have ak:y<=x:=by
   by_cases f:x<y
   ·rw [iP f] at M;omega
   ·omega
  have a1:bn<=an:=mb.len_le (by decide) (Int.lt_of_le_of_lt ak F)
  obtain ⟨xs,rfl,sx,dx,nx,rfl⟩:=ma
  obtain ⟨ys,rfl,sy,T,ny,rfl⟩:=mb
  obtain ⟨mm,hmm⟩:∃ mm,ys.length=mm+2:=⟨ys.length-2,by omega⟩
  have gt:=Bv T (mm+1)
  have az:=A2t (m:=mm+1) hmm ny
  obtain ⟨am,O⟩:=Bz (B:=b32) (by decide) T (m:=mm+1) hmm
  unfold A55
  refine ⟨fun l h'=>∃ s:Nat,l=[U s]/\h'=h/\s<32/\ys.getD (mm+1) 0*2^s<4294967296,fun l _=>32-(iAt l 0).toNat,⟨0,rfl,rfl,by omega,by rw [Int.pow_zero,aU];exact gt.2⟩,?_⟩
  rintro si ai ⟨s,al,rfl,z,ag⟩
  obtain rfl:=sI1 al
  have e1:B4 ((ys.length:Int)-1)=((mm+1:Nat):Int):=by rw [B7 (by omega) (by omega)];omega
  rw [e1]
  refine sy.load rfl (by omega) (by omega) ?_
  refine B6 (fun e=>absurd e (by omega)) (fun _=>?_)
  have c:0<(2:Int)^s:=Int.pow_pos (by decide)
  have aw:2^s<=ys.getD (mm+1) 0*2^s:=by
   have:=aC (show 1<=ys.getD (mm+1) 0 by omega) (aG c);omega
  have e2:F6 (ys.getD (((mm+1:Nat):Int)).toNat 0*2^(min ((s:Int)).toNat 32))=ys.getD (mm+1) 0*2^s:=by
   rw [aR,aR,bI (by omega),O1 (by omega) ag]
  refine B6 (fun h3=>?_) (fun h3=>?_)
  ·rw [e2] at h3
   have H:s+1<32:=by
    by_cases f:s+1<32
    ·exact f
    ·have:s=31:=by omega
     subst this
     have:(2:Int)^31=2147483648:=by decide
     omega
   have e3:C0 ((s:Int)+1)=((s+1:Nat):Int):=by rw [C2 (by omega) (by omega)];omega
   rw [e3]
   refine ⟨⟨s+1,rfl,rfl,H,?_⟩,by simp only [iAt,bU];omega⟩
   rw [Int.pow_succ,<- Int.mul_assoc];omega
  ·rw [e2] at h3
   have au:val b32 ys*2^s<b32^(mm+2):=by
    have S:=Na (Nat.le_of_lt z)
    have t1:ys.getD (mm+1) 0+1<=2^(32-s):=by
     by_cases f:ys.getD (mm+1) 0+1<=2^(32-s)
     ·exact f
     ·have:=aC (show (2:Int)^(32-s)<=ys.getD (mm+1) 0 by omega) (aG c)
      rw [aY,S] at this;omega
    have t2:val b32 ys*2^s<(ys.getD (mm+1) 0+1)*b32^(mm+1)*2^s:=bK am c
    have t3:(ys.getD (mm+1) 0+1)*b32^(mm+1)*2^s=(ys.getD (mm+1) 0+1)*2^s*b32^(mm+1):=by grind
    have t4:(ys.getD (mm+1) 0+1)*2^s*b32^(mm+1)<=4294967296*b32^(mm+1):=by
     apply aC _ (aG (D5 (by decide) _))
     rw [<- S,aY (2^s)]
     exact aC t1 (aG c)
    rw [Int.pow_succ b32 (mm+1),aY (b32^(mm+1))]
    show _<(4294967296:Int)*_
    omega
   have a2:2147483648*b32^(mm+1)<=val b32 ys*2^s:=by
    have t1:ys.getD (mm+1) 0*b32^(mm+1)*2^s<=val b32 ys*2^s:=aC O (aG c)
    have t2:2147483648*b32^(mm+1)<=ys.getD (mm+1) 0*2^s*b32^(mm+1):=aC (by omega) (aG (D5 (by decide) _))
    have t3:ys.getD (mm+1) 0*2^s*b32^(mm+1)=ys.getD (mm+1) 0*b32^(mm+1)*2^s:=by grind
    omega
   refine Ki sy T z (by omega) ?_
   intro bv zv af D ap ad
   refine ⟨_,_,_,rfl,?_⟩
   rw [<- D]
   refine Y8 (Dl _ _ _ _ _) ap (aT _) (by omega) ?_
   intro n hn o
   refine ⟨_,_,_,rfl,?_⟩
   rw [ad] at o
   have aa:n=mm+2:=by
    have l1:=o.len_le (by decide) au
    have l2:=o.lt (by decide)
    by_cases f:n=mm+2
    ·exact f
    ·have:=C8 (B:=b32) (by decide) (show n<=mm+1 by omega)
     have:=D5 (B:=b32) (by decide) (mm+1)
     omega
   subst aa
   obtain ⟨vs,X,sv,dv,nv,u⟩:=o
   have aq:4294967296<=2*vs.getD (mm+1) 0:=by
    obtain ⟨q1,q2⟩:=Bz (B:=b32) (by decide) dv (m:=mm+1) X.symm
    rw [u] at q1
    have:2147483648<vs.getD (mm+1) 0+1:=by
     by_cases f:2147483648<vs.getD (mm+1) 0+1
     ·exact f
     ·have:=aC (show vs.getD (mm+1) 0+1<=2147483648 by omega) (aG (D5 (B:=b32) (by decide) (mm+1)));omega
    omega
   have t:=V8 (k:=.u32) (e:=C3) af zv
   refine Ki (SlI.mono t sx) dx z (by omega) ?_
   intro bu C aj ae W R
   refine ⟨_,_,_,rfl,?_⟩
   obtain ⟨nq,hnq⟩:∃ nq,xs.length+1=nq+(mm+2):=⟨xs.length+1-(mm+2),by omega⟩
   have e4:B4 (B4 (B4 (((xs.length+1:Nat):Int)-((mm+2:Nat):Int))-1)+1)=(nq:Int):=by
    rw [B7 (n:=((xs.length+1:Nat):Int)-((mm+2:Nat):Int)) (by omega) (by omega),B7 (n:=_-(1:Int)) (by omega) (by omega),B7 (by omega) (by omega)];omega
   rw [e4]
   refine J7 Pv (by omega) (by omega) (by omega) ?_
   intro bq j
   rw [aR]
   refine ⟨_,_,_,rfl,?_⟩
   have L:bu≠bq:=by
    rintro rfl
    unfold blk at j
    rw [B9] at j;cases j
   have E:blk .u32 C3 ai bv zv bq=none:=by
    have:=j
    unfold blk at this ⊢
    rwa [B8 _ _ L.symm] at this
   refine B0m (us0:=C) (N:=xs.length+1) aj E L sv dv X.symm aq z u rfl W ae R hnq (by omega) (by omega) ?_ ?_
   ·have s1:=F3 b32 C (i:=nq) (by omega)
    have s2:=C6 (by decide) (W.take nq)
    have s3:val b32 C<b32^xs.length*2^s:=by
     rw [R];exact bK F c
    have s4:b32^(mm+1)<=val b32 ys:=by
     have:=aC (show 1<=ys.getD (mm+1) 0 by omega) (aG (D5 (B:=b32) (by decide) (mm+1)));omega
    have s5:b32^nq*(b32^(mm+1)*2^s)<=b32^nq*(val b32 ys*2^s):=bG (aC s4 (aG c)) (aG (D5 (by decide) nq))
    have s6:b32^nq*(b32^(mm+1)*2^s)=b32^xs.length*2^s:=by
     rw [<- Int.mul_assoc,<- Int.pow_add,show nq+(mm+1)=xs.length by omega]
    by_cases f:val b32 (C.drop nq)<val b32 ys*2^s
    ·exact f
    ·have:=bG (show val b32 ys*2^s<=val b32 (C.drop nq) by omega) (aG (D5 (B:=b32) (by decide) nq));omega
   ·intro A1 m1 c1 A2 m2 c2 h' g av w ah p
    exact hK _ _ _ _ _ _ _ (Heap.le_trans t g) av w ah p
end
def A8y(h:bW)(A:Option bO)(len:Nat):List Int:=(List.range len).map fun i=>
 match A with
 | some a=>(match h.cell? (a.add i) with|some (.int _ n)=>n|_=>0)
 | none=>0
def B37(B:Int)(h:bW)(A:Option bO)(len:Nat):Nat:=(val B (A8y h A len)).toNat
def B4h{k:IntKind}{h:bW}{A:Option bO}{xs:List Int}(s:SlI k h A xs):A8y h A xs.length=xs:=by
 apply List.ext_getElem
 ·simp [A8y]
 ·intro i e b
  obtain ⟨a,d,c⟩:=SlV.at s (i:=i) (by simpa using b)
  subst d
  simp [A8y,c]
def Am{k:IntKind}{B:Int}{h:bW}{A:Option bO}{len:Nat}{n:Int}(m:Mag k B h A len n):B37 B h A len=n.toNat:=by
 obtain ⟨a,rfl,s,_,_,rfl⟩:=m
 unfold B37
 rw [B4h s]
def ZB(m:Nat)(z:Int):Prop:=z.natAbs<2^m
def ZB.mono{m n:Nat}{z:Int}(h:ZB m z)(hm:m<=n):ZB n z:=Nat.lt_of_lt_of_le h (Nat.pow_le_pow_right (by decide) hm)
def ZB.neg{m:Nat}{z:Int}(h:ZB m z):ZB m (-z):=by unfold ZB at *;rwa [aQ]
def ZB.add{m:Nat}{x y:Int}(hx:ZB m x)(hy:ZB m y):ZB (m+1) (x+y):=by
 unfold ZB at *;rw [aK]
 have:=Int.natAbs_add_le x y;omega
def ZB.sub{m:Nat}{x y:Int}(hx:ZB m x)(hy:ZB m y):ZB (m+1) (x-y):=by
 rw [Int.sub_eq_add_neg];exact hx.add hy.neg
def ZB.mul{m n:Nat}{x y:Int}(hx:ZB m x)(hy:ZB n y):ZB (m+n) (x*y):=by
 unfold ZB at *;rw [bN,Nat.pow_add]
 have a:x.natAbs*y.natAbs<=x.natAbs*2^n:=aV _ (Nat.le_of_lt hy)
 have b:x.natAbs*2^n<2^m*2^n:=Nat.mul_lt_mul_of_pos_right hx (aJ (by decide))
 omega
def ZB.le{m:Nat}{x y:Int}(hx:ZB m x)(h:y.natAbs<=x.natAbs):ZB m y:=Nat.lt_of_le_of_lt h hx
def ZB.one{m:Nat}(h:1<=m):ZB m 1:=ZB.mono (m:=1) (by unfold ZB;decide) h
def ZB.zero{m:Nat}:ZB m 0:=aJ (by decide)
def B3c{k:IntKind}{j:Nat}(hj:0<j){h:bW}{A:Option bO}{n m:Nat}{x:Int}(M:Mag k ((2:Int)^j) h A n x)(hx:x<2^m):n<=m/j+1:=by
 refine M.len_le ?_ ?_
 ·have:=C8 (B:=2) (by decide) hj;omega
 ·have e:((2:Int)^j)^(m/j+1)=2^(j*(m/j+1)):=by rw [Int.pow_mul]
  rw [e]
  have:m<=j*(m/j+1):=by
   have a:=Nat.div_add_mod m j
   have b:=Nat.mod_lt m hj
   rw [Nat.mul_add];omega
  have:=C8 (B:=2) (by decide) this
  omega
structure NI (h:bW) (s:Bool) (A:Option bO) (n c:Nat) (z:Int):Prop where
 mag:Mg h A n (z.natAbs:Int)
 sg:s=decide (z<0)
 cap:n<=c
section
variable {h h':bW} {K:VP} {A B:Option bO} {n c n' c':Nat} {s s':Bool} {x y z:Int} {m:Nat}
def NI.mono(hl:h.le h')(i:NI h s A n c z):NI h' s A n c z:=⟨i.mag.mono hl,i.sg,i.cap⟩
def NI.len(i:NI h s A n c z)(hz:ZB m z)(hm:m<=1000000000):n<=100000000:=by
 have:=B3c (j:=32) (by decide) i.mag (m:=m) (by unfold ZB at hz;have:((z.natAbs:Nat):Int)<((2^m:Nat):Int):=by omega
                                                simpa using this)
 omega
def NI.zero_iff(i:NI h s A n c z):n=0↔z=0:=by
 have:=i.mag.len_zero (by decide)
 omega
def NI.nil:NI h false A 0 0 0:=⟨Mag.zero,rfl,aT _⟩
def N6{neg:Bool}{x:Int}(M:Mg h A n x)(hc:n<=c)(hK:∀ s,NI h s A n c (if neg then -x else x)->K (.agg #[.bool s,.slice A n c]) h):aM prog R8 #[.bool neg,.slice A n c] h K:=by
 have b:=M.nonneg (by decide)
 have a:=M.len_zero (by decide)
 refine B5n _ _ _ _ ?_
 unfold C01
 refine Br.of (fun e=>?_) (fun e=>?_)
 ·subst e
  refine hK _ ⟨?_,?_,hc⟩
  ·have:(((if true=true then -x else x).natAbs:Nat):Int)=x:=by simp;omega
   rw [this];exact M
  ·simp;omega
 ·subst e
  refine hK _ ⟨?_,?_,hc⟩
  ·have:(((if false=true then -x else x).natAbs:Nat):Int)=x:=by simp;omega
   rw [this];exact M
  ·simp;omega
def Rw(hz: -9223372036854775808<=z/\z<=9223372036854775807)(hK:∀ s A n c h',h.le h'->NI h' s A n c z->K (.agg #[.bool s,.slice A n c]) h'):aM prog Jz #[I z] h K:=by
 refine A7j _ ?_
 unfold A9e
 refine ⟨fun l h'=>l=[U z.natAbs]/\h'=h,B6 (fun k=>⟨?_,rfl⟩) (fun k=>⟨?_,rfl⟩),?_⟩
 ·have:C0 (0-C0 z)=z.natAbs:=by rw [E4,E4];omega
  rw [this]
 ·have:C0 z=z.natAbs:=by rw [E4];omega
  rw [this]
 ·rintro u p ⟨q,rfl⟩
  obtain rfl:u=(z.natAbs:Int):=by simpa using q
  rw [Y5,Xf,O1 (n:=(z.natAbs:Int)/4294967296) (by omega) (by omega)]
  refine C16 Pv rfl rfl ?_
  intro b j
  refine ⟨_,_,_,rfl,?_⟩
  have a:Dig b32 [(z.natAbs:Int)%4294967296,(z.natAbs:Int)/4294967296]:=by
   intro d a
   simp only [List.mem_cons,List.not_mem_nil,or_false] at a
   show _/\_<(4294967296:Int)
   rcases a with rfl|rfl<;>omega
  refine Y8 (xs:=[(z.natAbs:Int)%4294967296,(z.natAbs:Int)/4294967296]) (SlI.new p b _ C3 _) a (aT _) (by simp) ?_
  intro m g f
  have o:val b32 [(z.natAbs:Int)%4294967296,(z.natAbs:Int)/4294967296]=z.natAbs:=by
   simp only [val]
   show _+(4294967296:Int)*(_+4294967296*0)=_
   omega
  rw [o] at f
  refine ⟨_,_,_,rfl,?_⟩
  refine N6 f (by simpa using g) ?_
  intro s i
  refine ⟨_,_,_,_,rfl,hK _ _ _ _ _ (Heap.le_put _ j) ?_⟩
  have:(if decide (z<0)=true then -(z.natAbs:Int) else (z.natAbs:Int))=z:=by
   by_cases e:z<0
   ·rw [iP (by simpa using e)];omega
   ·rw [iN (by simpa using e)];omega
  rw [this] at i
  exact i
def A37(i:NI h s A n c z)(hK:K (I z.sign) h):aM prog A19 #[.agg #[.bool s,.slice A n c]] h K:=by
 have d:=i.zero_iff
 have b:=i.sg
 refine B8e _ _ _ _ ?_
 unfold C4a
 refine Br.of (fun e=>?_) (fun e=>?_)
 ·have a:z<0:=by rw [b] at e;simpa using e
  rw [aH a] at hK;exact hK
 ·have a:¬ z<0:=by rw [b] at e;simpa using e
  refine D8 (fun e=>?_) (fun e=>?_)
  ·have:z=0:=by omega
   subst this;exact hK
  ·rw [aD (by omega)] at hK;exact hK
def A0p(i:NI h s A n c z)(hK:∀ s,NI h s A n c (-z)->K (.agg #[.bool s,.slice A n c]) h):aM prog A49 #[.agg #[.bool s,.slice A n c]] h K:=by
 refine C2i _ _ _ _ ?_
 unfold C6u
 refine N6 i.mag i.cap ?_
 intro d b
 refine ⟨_,_,_,_,rfl,hK _ ?_⟩
 have:(if (!s)=true then -(z.natAbs:Int) else (z.natAbs:Int))= -z:=by
  rw [i.sg]
  by_cases a:z<0
  ·rw [iN (by simpa using a)];omega
  ·rw [iP (by simpa using a)];omega
 rw [this] at b;exact b
def A91(ia:NI h s A n c x)(ib:NI h s' B n' c' y)(hx:ZB m x)(hy:ZB m y)(hm:m<=1000000000)(hK:∀ s A n c h',h.le h'->NI h' s A n c (x+y)->K (.agg #[.bool s,.slice A n c]) h'):aM prog A8r #[.agg #[.bool s,.slice A n c],.agg #[.bool s',.slice B n' c']] h K:=by
 have z:=ia.len hx hm
 have u:=ib.len hy hm
 refine C2l _ _ _ _ _ _ _ _ ?_
 unfold C6x
 have g:=ia.sg
 have a:=ib.sg
 refine Br.of (fun e=>?_) (fun e=>?_)
 ·have l:s=s':=by simpa using e
  refine Wd ia.mag ib.mag z u ?_
  intro A' w c1 o b i r
  refine ⟨_,_,_,rfl,b,?_⟩
  refine N6 r i ?_
  intro C k
  refine ⟨_,_,_,_,rfl,B3 _,hK _ _ _ _ _ b ?_⟩
  have:(if s=true then -((x.natAbs:Int)+y.natAbs) else (x.natAbs:Int)+y.natAbs)=x+y:=by
   rw [l] at g
   by_cases f:x<0
   ·have:s=true:=by rw [l,g];simpa using f
    rw [iP this]
    have:y<0:=by rw [a] at g;simpa [f] using g
    omega
   ·have:¬ s=true:=by rw [l,g];simpa using f
    rw [iN this]
    have:¬ y<0:=by rw [a] at g;simpa [f] using g
    omega
  rw [this] at k;exact k
 ·have l:s≠s':=by simpa using e
  refine Vy ia.mag ib.mag (by omega) ⟨_,rfl,B6 (fun o=>?_) (fun o=>?_)⟩
  ·have p:(y.natAbs:Int)<=x.natAbs:=by
    by_cases t:(x.natAbs:Int)<y.natAbs
    ·rw [iP t] at o;omega
    ·omega
   refine Ui ia.mag ib.mag p z ?_
   intro A' w c1 o b i r
   refine ⟨_,_,_,rfl,b,?_⟩
   refine N6 r i ?_
   intro C k
   refine ⟨_,_,_,_,rfl,B3 _,hK _ _ _ _ _ b ?_⟩
   have:(if s=true then -((x.natAbs:Int)-y.natAbs) else (x.natAbs:Int)-y.natAbs)=x+y:=by
    by_cases f:x<0
    ·have d:s=true:=by rw [g];simpa using f
     rw [iP d]
     have:¬ y<0:=by intro j;apply l;rw [g,a];simp [f,j]
     omega
    ·have d:¬ s=true:=by rw [g];simpa using f
     rw [iN d]
     have:y<0:=by
      by_cases j:y<0
      ·exact j
      ·exact absurd (by rw [g,a];simp [f,j]) l
     omega
   rw [this] at k;exact k
  ·have p:(x.natAbs:Int)<=y.natAbs:=by
    by_cases t:(x.natAbs:Int)<y.natAbs
    ·omega
    ·rw [iN t] at o
     by_cases q:(x.natAbs:Int)>y.natAbs
     ·rw [iP q] at o;omega
     ·rw [iN q] at o;omega
   refine Ui ib.mag ia.mag p u ?_
   intro A' w c1 o b i r
   refine ⟨_,_,_,rfl,b,?_⟩
   refine N6 r i ?_
   intro C k
   refine ⟨_,_,_,_,rfl,B3 _,hK _ _ _ _ _ b ?_⟩
   have:(if s'=true then -((y.natAbs:Int)-x.natAbs) else (y.natAbs:Int)-x.natAbs)=x+y:=by
    by_cases f:y<0
    ·have d:s'=true:=by rw [a];simpa using f
     rw [iP d]
     have:¬ x<0:=by intro j;apply l;rw [g,a];simp [f,j]
     omega
    ·have d:¬ s'=true:=by rw [a];simpa using f
     rw [iN d]
     have:x<0:=by
      by_cases j:x<0
      ·exact j
      ·exact absurd (by rw [g,a];simp [f,j]) l
     omega
   rw [this] at k;exact k
def A36(x y:Int)(p:Nat)(hs:s=decide (x<0))(hs':s'=decide (y<0)):(if (!(s==s'))=true then -(p:Int) else (p:Int))=x.sign*y.sign*p\/x=0\/y=0:=by
 by_cases c:x=0
 ·right;left;exact c
 by_cases d:y=0
 ·right;right;exact d
 left
 by_cases a:x<0<;>by_cases b:y<0
 ·rw [aH a,aH b,iN (by rw [hs,hs'];simp [a,b])];omega
 ·rw [aH a,aD (by omega),iP (by rw [hs,hs'];simp [a,b])];omega
 ·rw [aD (by omega),aH b,iP (by rw [hs,hs'];simp [a,b])];omega
 ·rw [aD (by omega),aD (by omega),iN (by rw [hs,hs'];simp [a,b])];omega
def A9r(x y:Int):x.tdiv y=x.sign*y.sign*((x.natAbs/y.natAbs:Nat):Int):=by
 have key:∀ a b:Nat,(a:Int).tdiv b=(a:Int).sign*(b:Int).sign*((a/b:Nat):Int):=by
  intro a b
  rw [<- Int.ofNat_tdiv]
  by_cases d:a=0
  ·subst d;simp
  by_cases c:b=0
  ·subst c;simp
  rw [aD (by omega),aD (by omega),Int.one_mul,Int.one_mul]
 obtain ⟨a,rfl|rfl⟩:=Int.eq_nat_or_neg x<;>obtain ⟨b,rfl|rfl⟩:=Int.eq_nat_or_neg y<;>simp only [Int.neg_tdiv,Int.tdiv_neg,Int.sign_neg,aQ,aE,key]<;>grind
def Da{m':Nat}(ia:NI h s A n c x)(ib:NI h s' B n' c' y)(hx:ZB m x)(hy:ZB m' y)(hm:m<=1000000000)(hm':m'<=1000000000)(hK:∀ s A n c h',h.le h'->NI h' s A n c (x*y)->K (.agg #[.bool s,.slice A n c]) h'):aM prog Kl #[.agg #[.bool s,.slice A n c],.agg #[.bool s',.slice B n' c']] h K:=by
 refine C2j _ _ _ _ _ _ _ _ ?_
 unfold C6v
 refine Uz ia.mag ib.mag (ia.len hx hm) (ib.len hy hm') ?_
 intro A' j c1 k a b i
 refine ⟨_,_,_,rfl,a,?_⟩
 refine N6 i b ?_
 intro l d
 refine ⟨_,_,_,_,rfl,B3 _,hK _ _ _ _ _ a ?_⟩
 have:(if (!(s==s'))=true then -((x.natAbs:Int)*y.natAbs) else (x.natAbs:Int)*y.natAbs)=x*y:=by
  rcases A36 x y (x.natAbs*y.natAbs) ia.sg ib.sg with e|e|e
  ·rw [aS] at e
   rw [e]
   have g:=Int.sign_mul_natAbs x
   have f:=Int.sign_mul_natAbs y
   have:x.sign*y.sign*((x.natAbs:Int)*y.natAbs)=(x.sign*x.natAbs)*(y.sign*y.natAbs):=by grind
   rw [this,g,f]
  ·subst e;simp
  ·subst e;simp
 rw [this] at d;exact d
def Up(ia:NI h s A n c x)(ib:NI h s' B n' c' y)(hy0:y≠0)(hx:ZB m x)(hy:ZB m y)(hm:m<=1000000000)(hK:∀ s A n c s' B n' c' h',h.le h'->NI h' s A n c (x.tdiv y)->NI h' s' B n' c' (x.tmod y)->K (.tuple #[.agg #[.bool s,.slice A n c],.agg #[.bool s',.slice B n' c']]) h'):aM prog Oi #[.agg #[.bool s,.slice A n c],.agg #[.bool s',.slice B n' c']] h K:=by
 refine B0z _ _ _ _ _ _ _ _ ?_
 unfold B5k
 refine Vs ia.mag ib.mag (by omega) (ia.len hx hm) (ib.len hy hm) ?_
 intro A1 p c1 A2 o c2 r a d b M1 M2
 refine ⟨_,_,_,_,_,_,rfl,?_⟩
 refine N6 M1 d ?_
 intro t g
 refine ⟨_,_,_,_,rfl,B3 _,?_⟩
 refine N6 M2 b ?_
 intro q i
 refine ⟨_,_,_,_,rfl,B3 _,hK _ _ _ _ _ _ _ _ _ a ?_ ?_⟩
 ·have:(if (!(s==s'))=true then -((x.natAbs:Int)/y.natAbs) else (x.natAbs:Int)/y.natAbs)=x.tdiv y:=by
   rcases A36 x y (x.natAbs/y.natAbs) ia.sg ib.sg with e|e|e
   ·rw [bD] at e
    rw [e,A9r,bD]
   ·subst e;simp
   ·exact absurd e hy0
  rw [this] at g;exact g
 ·have:(if s=true then -((x.natAbs:Int)%y.natAbs) else (x.natAbs:Int)%y.natAbs)=x.tmod y:=by
   rw [ia.sg]
   by_cases f:x<0
   ·rw [iP (by simpa using f)]
    obtain ⟨k,rfl⟩:∃ k:Nat,x= -(k:Int):=⟨x.natAbs,by omega⟩
    rw [Int.neg_tmod,aQ,aE]
    congr 1
    rw [<- bM (by omega)]
    by_cases l:y<0
    ·obtain ⟨j,rfl⟩:∃ j:Nat,y= -(j:Int):=⟨y.natAbs,by omega⟩
     rw [Int.tmod_neg,aQ,aE]
    ·rw [aN (by omega)]
   ·rw [iN (by simpa using f)]
    rw [aN (by omega),<- bM (by omega)]
    by_cases l:y<0
    ·obtain ⟨j,rfl⟩:∃ j:Nat,y= -(j:Int):=⟨y.natAbs,by omega⟩
     rw [Int.tmod_neg,aQ,aE]
    ·rw [aN (by omega)]
  rw [this] at i;exact i
end
def O0(n:Nat):Nat:=if n=0 then 0 else Nat.log2 n+1
def A4j:O0 0=0:=rfl
def B4i{n:Nat}(h:n≠0):O0 n=O0 (n/2)+1:=by
 unfold O0
 rw [iN h]
 by_cases a:n/2=0
 ·have:n=1:=by omega
  subst this;rfl
 ·rw [iN a,Nat.log2_def n,iP (by omega)]
def Fb{n:Nat}(h:n≠0):2^(O0 n-1)<=n/\n<2^O0 n:=by
 unfold O0
 rw [iN h,Nat.add_sub_cancel]
 exact ⟨Nat.log2_self_le h,Nat.lt_log2_self⟩
def A73{n k:Nat}(h1:2^k<=n)(h2:n<2^(k+1)):O0 n=k+1:=by
 have c:n≠0:=by have:=aJ (n:=k) (show 0<2 by decide);omega
 unfold O0
 rw [iN c]
 have a:=(Nat.le_log2 c).2 h1
 have b:=(Nat.log2_lt c).2 h2
 omega
def Za{l t j:Nat}(hl:l<2^j)(ht:t≠0):O0 (l+2^j*t)=j+O0 t:=by
 obtain ⟨a,b⟩:=Fb ht
 have c:O0 t=O0 t-1+1:=by unfold O0;rw [iN ht];omega
 have d:0<2^j:=aJ (by decide)
 rw [c,<- Nat.add_assoc]
 apply A73
 ·rw [Nat.pow_add]
  have:=aV (2^j) a
  omega
 ·rw [Nat.add_assoc,<- c,Nat.pow_add]
  have:=aV (2^j) (show t+1<=2^O0 t by omega)
  rw [Nat.mul_add] at this;omega
def Iv{n k:Nat}(h:n<2^k):O0 n<=k:=by
 by_cases a:n=0
 ·subst a;rw [A4j];omega
 ·unfold O0;rw [iN a];have:=(Nat.log2_lt a).2 h;omega
def A8z{n:Nat}:O0 n=1↔n=1:=by
 constructor
 ·intro h
  by_cases a:n=0
  ·subst a;cases h
  ·have:=Fb a
   rw [h] at this;simp at this;omega
 ·rintro rfl;rfl
def A74{n:Nat}:1<O0 n↔1<n:=by
 by_cases b:n=0
 ·subst b;simp [O0]
 by_cases a:n=1
 ·subst a;decide
 ·have d:O0 n≠0:=by unfold O0;rw [iN b];omega
  have c:O0 n≠1:=fun e=>a (A8z.1 e)
  omega
section
variable {h h':bW} {K:VP} {A B:Option bO} {n c n' c':Nat} {s s':Bool} {x y z:Int} {m:Nat}
def B7c(ia:NI h s A n c x)(ib:NI h s' B n' c' y)(hx:ZB m x)(hy:ZB m y)(hm:m<=1000000000)(hK:∀ s A n c h',h.le h'->NI h' s A n c (aL x y)->K (.agg #[.bool s,.slice A n c]) h'):aM prog B3t #[.agg #[.bool s,.slice A n c],.agg #[.bool s',.slice B n' c']] h K:=by
 refine C2k _ _ _ _ _ _ _ _ ?_
 unfold C6w
 refine ⟨fun l b=>∃ (A B:Option bO) (n c n' c' X Y:Nat),l=[.slice A n c,.slice B n' c']/\h.le b/\Mg b A n X/\Mg b B n' Y/\n<=c/\n'<=c'/\Nat.gcd X Y=aL x y/\n<=100000000/\n'<=100000000,fun l b=>match l with|[_,.slice A n _]=>B37 b32 b A n|_=>0,⟨_,_,_,_,_,_,_,_,rfl,B3 h,ia.mag,ib.mag,ia.cap,ib.cap,rfl,ia.len hx hm,ib.len hy hm⟩,?_⟩
 rintro A1 E c1 B1 r c2 b ⟨A1',B1',g,p,k,i,X,Y,G,d,M1,M2,u,C,f,z,t⟩
 obtain ⟨⟨rfl,rfl,rfl⟩,rfl,rfl,rfl⟩:(A1=A1'/\E=g/\c1=p)/\B1=B1'/\r=k/\c2=i:=by simpa using G
 have M:=M2.len_zero (by decide)
 refine B6 (fun F=>?_) (fun F=>?_)
 ·have o:Y≠0:=by omega
  refine Vs M1 M2 (by omega) z t ?_
  intro A3 L H A4 Q N h' a J w M3 M4
  have e:((X:Int)%(Y:Int))=((X%Y:Nat):Int):=by omega
  rw [e] at M4
  have D:=Nat.mod_lt X (Nat.pos_of_ne_zero o)
  refine ⟨_,_,_,_,_,_,rfl,⟨_,_,_,_,_,_,Y,X%Y,rfl,Heap.le_trans d a,M2.mono a,M4,C,w,?_,t,?_⟩,?_⟩
  ·rw [<- f,Nat.gcd_comm X Y,Nat.gcd_rec Y X,Nat.gcd_comm]
  ·have:=M4.len_le (by decide) (j:=r) (Int.lt_trans (show ((X%Y:Nat):Int)<(Y:Int) by omega) (M2.lt (by decide)))
   omega
  ·simp only [Am M4,Am M2];omega
 ·have o:Y=0:=by omega
  subst o
  rw [Nat.gcd_zero_right] at f
  refine N6 M1 u ?_
  intro O q
  refine ⟨_,_,_,_,rfl,hK _ _ _ _ _ d ?_⟩
  rw [f] at q
  exact q
def A4k(i:NI h s A n c z)(hz:ZB m z)(hm:m<=1000000000)(hK:K (I (O0 z.natAbs)) h):aM prog A1d #[.agg #[.bool s,.slice A n c]] h K:=by
 have S:=i.len hz hm
 have C:=i.zero_iff
 refine B8o _ _ _ _ ?_
 unfold C4k
 refine D8 (fun e=>?_) (fun e=>?_)
 ·have:z=0:=C.1 (by omega)
  subst this;exact hK
 ·obtain ⟨a,f,B,g,L,G⟩:=i.mag
  obtain ⟨k,hk⟩:∃ k,a.length=k+1:=⟨a.length-1,by omega⟩
  have x:B4 ((n:Int)-1)=(k:Int):=by rw [B7 (by omega) (by omega)];omega
  have E:B4 (32*(k:Int))=((32*k:Nat):Int):=by rw [B7 (by omega) (by omega)];omega
  rw [x,E]
  refine B.load f (by omega) (by omega) ?_
  rw [aR]
  have r:=Bv g k
  have Q:=A2t hk L
  have O:32*k+O0 (a.getD k 0).toNat=O0 z.natAbs:=by
   have p:=G1 b32 a k
   rw [<- hk,bC] at p
   have N:=L5 (by decide) (g.take k)
   have u:=C6 (by decide) (g.take k)
   rw [List.length_take,bI (by omega)] at N
   have J:b32^k=((2^(32*k):Nat):Int):=by
    rw [show b32=(2:Int)^32 by decide,<- Int.pow_mul];simp
   have j:z.natAbs=(val b32 (a.take k)).toNat+2^(32*k)*(a.getD k 0).toNat:=by
    have:((z.natAbs:Nat):Int)=(((val b32 (a.take k)).toNat+2^(32*k)*(a.getD k 0).toNat:Nat):Int):=by
     rw [<- G,p,Int.natCast_add,aS,<- J,aW u,aW r.1]
    omega
   rw [j,Za (by omega) (by omega)]
  refine ⟨fun l q=>∃ (t k:Nat),l=[I k,U32 t]/\q=h/\k+O0 t=O0 z.natAbs/\t<4294967296,fun l _=>(iAt l 1).toNat,⟨(a.getD k 0).toNat,32*k,?_,rfl,O,by omega⟩,?_⟩
  ·rw [aW r.1]
  ·rintro y H q ⟨t,d,o,rfl,b,M⟩
   obtain ⟨rfl,rfl⟩:y=(d:Int)/\H=(t:Int):=by simpa using o
   have D:O0 z.natAbs<=m:=Iv hz
   refine B6 (fun F=>?_) (fun F=>?_)
   ·have j:Int.fdiv (t:Int) (2^(min ((1:Int)).toNat 32))=((t/2:Nat):Int):=by
     rw [show (2:Int)^(min ((1:Int)).toNat 32)=2 by decide,Int.fdiv_eq_ediv_of_nonneg _ (by decide)];omega
    have R:=B4i (n:=t) (by omega)
    have w:B4 ((d:Int)+1)=((d+1:Nat):Int):=by rw [B7 (by omega) (by omega)];omega
    rw [j,w]
    exact ⟨⟨t/2,d+1,rfl,rfl,by omega,by omega⟩,by simp only [iAt,bU,List.getElem?_cons_succ];omega⟩
   ·have:t=0:=by omega
    subst this
    rw [A4j,Nat.add_zero] at b
    rw [b];exact hK
end
structure QV where
 s:Bool
 A:Option bO
 n:Nat
 c:Nat
 s2:Bool
 A2:Option bO
 n2:Nat
 c2:Nat
abbrev QV.v(w:QV):Value:=.agg #[.bool w.s,.slice w.A w.n w.c,.bool w.s2,.slice w.A2 w.n2 w.c2]
structure NQ (h:bW) (w:QV) (q:Rat):Prop where
 num:NI h w.s w.A w.n w.c q.num
 den:NI h w.s2 w.A2 w.n2 w.c2 (if q.den=1 then 0 else (q.den:Int))
structure Sz (m:Nat) (q:Rat):Prop where
 num:ZB m q.num
 den:ZB m q.den
def Sz.mono{m n:Nat}{q:Rat}(h:Sz m q)(hm:m<=n):Sz n q:=⟨h.num.mono hm,h.den.mono hm⟩
def Sz.neg{m:Nat}{q:Rat}(h:Sz m q):Sz m (-q):=⟨by rw [Rat.neg_num];exact h.num.neg,by rw [Rat.neg_den];exact h.den⟩
def Vt{a b:Int}(hb:b≠0):(aF a b).num.natAbs<=a.natAbs/\(aF a b).den<=b.natAbs:=by
 have d:0<aL b a:=Int.gcd_pos_of_ne_zero_left a hb
 rw [Rat.num_divInt,Rat.den_divInt,iN hb]
 constructor
 ·have c:(aL b a:Int)∣b.sign*a:=Int.dvd_mul_of_dvd_right (aZ b a)
  rw [Int.natAbs_ediv_of_dvd c,bN,aE]
  have:b.sign.natAbs=1:=by
   rw [Int.natAbs_sign];simp [hb]
  rw [this,Nat.one_mul]
  exact Nat.div_le_self _ _
 ·exact Nat.div_le_self _ _
def Pk{m:Nat}{a b:Int}(hb:b≠0)(h1:ZB m a)(h2:ZB m b):Sz m (aF a b):=by
 have:=Vt (a:=a) hb
 exact ⟨h1.le this.1,h2.le (by simpa using this.2)⟩
def Fd(p q:Rat):p+q=aF (p.num*q.den+q.num*p.den) (p.den*q.den):=by
 rw [Rat.add_def',<- aS,bB]
def Ju(p q:Rat):p*q=aF (p.num*q.num) (p.den*q.den):=by
 rw [Rat.mul_def',<- aS,bB]
def Kb(z:Int):aF z 1=(z:Rat):=by
 show aF z ((1:Nat):Int)=_
 rw [bB]
 apply Rat.ext
 ·rw [Rat.num_mkRat];simp
 ·rw [Rat.den_mkRat];simp
def den_ne(q:Rat):(q.den:Int)≠0:=by have:=q.den_nz;omega
def Yv(p q:Rat):p/q=aF (p.num*q.den) (p.den*q.num):=by
 rw [Rat.div_def,<- aP p,<- aP q,Rat.inv_divInt,Rat.divInt_mul_divInt]
 rw [aP,aP]
def Sz.add{m n:Nat}{p q:Rat}(hp:Sz m p)(hq:Sz n q):Sz (m+n+1) (p+q):=by
 rw [Fd]
 refine Pk (aO (den_ne p) (den_ne q)) ?_ ((hp.den.mul hq.den).mono (by omega))
 exact (hp.num.mul hq.den).add ((hq.num.mul hp.den).mono (by omega))
def Sz.sub{m n:Nat}{p q:Rat}(hp:Sz m p)(hq:Sz n q):Sz (m+n+1) (p-q):=by
 rw [Rat.sub_eq_add_neg];exact hp.add hq.neg
def Sz.mul{m n:Nat}{p q:Rat}(hp:Sz m p)(hq:Sz n q):Sz (m+n) (p*q):=by
 rw [Ju]
 exact Pk (aO (den_ne p) (den_ne q)) (hp.num.mul hq.num) (hp.den.mul hq.den)
def Sz.zero{m:Nat}(hm:1<=m):Sz m 0:=⟨ZB.zero,ZB.one hm⟩
def Sz.inv{m:Nat}{q:Rat}(h:Sz m q)(hm:1<=m):Sz m q⁻¹:=by
 constructor
 ·rw [Rat.num_inv]
  refine h.den.le ?_
  rw [bN]
  by_cases a:q.num=0
  ·rw [a];simp
  ·rw [Int.natAbs_sign];simp [a]
 ·rw [Rat.den_inv]
  split
  ·exact ZB.one hm
  ·have:=h.num
   unfold ZB at *
   simpa using this
def Sz.div{m n:Nat}{p q:Rat}(hp:Sz m p)(hq:Sz n q)(hn:1<=n):Sz (m+n) (p/q):=by
 rw [Rat.div_def];exact hp.mul (hq.inv hn)
def Sz.int{m:Nat}{z:Int}(h:ZB m z)(hm:1<=m):Sz m (z:Rat):=⟨by simpa using h,by simpa using ZB.one hm⟩
section
variable {h h':bW} {K:VP} {A B:Option bO} {n c n' c':Nat} {s s':Bool} {x y z:Int} {m:Nat} {p q:Rat} {a b w:QV}
def NQ.mono(hl:h.le h')(i:NQ h w q):NQ h' w q:=⟨i.num.mono hl,i.den.mono hl⟩
def NQ.whole(i:NI h s A n c z){B:Option bO}:NQ h ⟨s,A,n,c,false,B,0,0⟩ (z:Rat):=⟨by simpa using i,by simpa using NI.nil⟩
def NQ.den_zero(i:NQ h w q):w.n2=0↔q.den=1:=by
 rw [i.den.zero_iff]
 have:=q.den_nz
 split<;>omega
def NQ.zero:NQ h ⟨false,none,0,0,false,none,0,0⟩ 0:=⟨NI.nil,NI.nil⟩
def Aj(i:NQ h w q)(hK:∀ s A n c h',h.le h'->NI h' s A n c q.den->K (.agg #[.bool s,.slice A n c]) h'):aM prog Du #[w.v] h K:=by
 refine B8n _ _ _ _ _ _ _ _ ?_
 unfold C4j
 have a:=i.den_zero
 refine D8 (fun e=>?_) (fun e=>?_)
 ·refine Rw (by decide) ?_
  intro s A n c j f d
  refine ⟨_,_,_,_,rfl,hK _ _ _ _ _ f ?_⟩
  rw [a.1 (by omega)];exact d
 ·have b:=i.den
  rw [iN (fun g=>e (by have:=a.2 g;omega))] at b
  exact hK _ _ _ _ _ (B3 h) b
def Ob(ix:NI h s A n c x)(iy:NI h s' B n' c' y)(hy0:y≠0)(hx:ZB m x)(hy:ZB m y)(hm:m<=1000000000)(hK:∀ w h',h.le h'->NQ h' w (aF x y)->K w.v h'):aM prog Qs #[.agg #[.bool s,.slice A n c],.agg #[.bool s',.slice B n' c']] h K:=by
 refine B8m _ _ _ _ _ _ _ _ ?_
 unfold C4i
 refine ⟨fun l k=>∃ s A n c s' B n' c' d f,l=[.bool s,.slice A n c,.bool s',.slice B n' c']/\h.le k/\NI k s A n c d/\NI k s' B n' c' f/\0<f/\aF d f=aF x y/\ZB m d/\ZB m f,Br.of (fun e=>?_) (fun e=>?_),?_⟩
 ·have al:y<0:=by have:=iy.sg;rw [e] at this;simpa using this.symm
  refine A0p ix ?_
  intro s1 u
  refine ⟨_,_,_,_,rfl,B3 h,?_⟩
  refine A0p iy ?_
  intro s2 z
  exact ⟨_,_,_,_,rfl,B3 h,_,_,_,_,_,_,_,_,-x,-y,rfl,B3 h,u,z,by omega,Rat.neg_divInt_neg x y,hx.neg,hy.neg⟩
 ·have j:0<y:=by have:=iy.sg;rw [e] at this;have:¬ y<0:=by simpa using this.symm
                 omega
  exact ⟨_,_,_,_,_,_,_,_,x,y,rfl,B3 h,ix,iy,j,rfl,hx,hy⟩
 rintro s1 A1 n1 c1 s2 A2 n2 c2 am ⟨R,A1',N,ag,ae,A2',aa,Q,d,f,hl,t,u,z,j,hq,C,o⟩
 obtain ⟨rfl,⟨rfl,rfl,rfl⟩,rfl,rfl,rfl,rfl⟩:s1=R/\(A1=A1'/\n1=N/\c1=ag)/\s2=ae/\A2=A2'/\n2=aa/\c2=Q:=by simpa using hl
 refine B7c u z C o hm ?_
 intro s3 A3 n3 c3 h3 r M
 refine ⟨_,_,_,_,rfl,?_⟩
 rw [<- hq] at hK
 generalize hqq:aF d f=q at *
 have g:q.num=d/(aL d f:Int):=by
  rw [<- hqq,Rat.num_divInt,aD j,Int.one_mul,Int.gcd_comm]
 have i:(q.den:Int)=f/(aL d f:Int):=by
  rw [<- hqq,Rat.den_divInt,iN (by omega),Int.gcd_comm,bD,aN (by omega)]
 have an:0<aL d f:=Int.gcd_pos_of_ne_zero_right d (by omega)
 have p:ZB m (aL d f:Int):=by
  refine o.le ?_
  rw [aE]
  exact Nat.le_of_dvd (by omega) (by have:=aZ d f;exact Int.ofNat_dvd_left.1 this)
 refine ⟨fun l k=>∃ s A n c s' B n' c',l=[.bool s,.slice A n c,.bool s',.slice B n' c']/\h.le k/\NI k s A n c q.num/\NI k s' B n' c' q.den,?_,?_⟩
 ·refine A4k M p hm ⟨_,rfl,?_⟩
  rw [aE]
  refine B6 (fun e=>?_) (fun e=>?_)
  ·refine Up (u.mono r) M (by omega) C p hm ?_
   intro Z A4 n4 T s5 A5 n5 c5 h4 l4 F _
   refine ⟨_,_,_,_,_,_,_,_,rfl,?_⟩
   refine Up ((z.mono r).mono l4) (M.mono l4) (by omega) o p hm ?_
   intro H A6 S c6 s7 A7 n7 c7 h5 l5 E _
   have W:d.tdiv (aL d f:Int)=q.num:=by rw [g,bV (Int.gcd_dvd_left d f)]
   have e2:f.tdiv (aL d f:Int)=q.den:=by rw [i,bV (aZ d f)]
   rw [W] at F
   rw [e2] at E
   exact ⟨_,_,_,_,_,_,_,_,rfl,_,_,_,_,_,_,_,_,rfl,Heap.le_trans t (Heap.le_trans r (Heap.le_trans l4 l5)),F.mono l5,E⟩
  ·have hg:aL d f=1:=by
    have:¬ 1<O0 (aL d f):=by omega
    rw [A74] at this;omega
   rw [hg] at g i
   simp at g i
   exact ⟨_,_,_,_,_,_,_,_,rfl,Heap.le_trans t r,by rw [g];exact u.mono r,by rw [i];exact z.mono r⟩
 rintro Z A4 n4 T s5 A5 n5 c5 ai ⟨O,A4',ah,X,ac,A5',J,af,L,D,F,i5⟩
 obtain ⟨rfl,⟨rfl,rfl,rfl⟩,rfl,rfl,rfl,rfl⟩:Z=O/\(A4=A4'/\n4=ah/\T=X)/\s5=ac/\A5=A5'/\n5=J/\c5=af:=by simpa using L
 have ak:ZB m (q.den:Int):=by
  refine o.le ?_
  have:=(Vt (a:=d) (b:=f) (by omega)).2
  rw [hqq] at this
  simpa using this
 refine ⟨fun l k=>∃ s' B n' c',l=[.bool s',.slice B n' c']/\k=ai/\NI k s' B n' c' (if q.den=1 then 0 else (q.den:Int)),?_,?_⟩
 ·refine A4k i5 ak hm ⟨_,rfl,?_⟩
  rw [aE]
  refine D8 (fun e=>?_) (fun e=>?_)
  ·have:q.den=1:=A8z.1 (by omega)
   exact ⟨_,_,_,_,rfl,rfl,by rw [iP this];exact NI.nil⟩
  ·have:¬ q.den=1:=fun W=>e (by rw [W];rfl)
   exact ⟨_,_,_,_,rfl,rfl,by rw [iN this];exact i5⟩
 rintro H A6 S c6 ao ⟨V,A6',aj,G,ad,rfl,E⟩
 obtain ⟨rfl,rfl,rfl,rfl⟩:H=V/\A6=A6'/\S=aj/\c6=G:=by simpa using ad
 exact hK ⟨Z,A4,n4,T,H,A6,S,c6⟩ _ D ⟨F,E⟩
def C38(hz: -9223372036854775808<=z/\z<=9223372036854775807)(hK:∀ w h',h.le h'->NQ h' w (z:Rat)->K w.v h'):aM prog C5h #[I z] h K:=by
 refine C5t _ ?_
 unfold NR
 refine Rw hz ?_
 intro s A n c d b a
 exact ⟨_,_,_,_,rfl,hK ⟨s,A,n,c,false,none,0,0⟩ _ b (NQ.whole a)⟩
def Cb(i:NQ h w q)(hK:K (I q.num.sign) h):aM prog Df #[w.v] h K:=by
 refine B5j _ _ _ _ _ _ _ _ ?_
 unfold C00
 exact A37 i.num ⟨_,rfl,hK⟩
def A3b(i:NQ h w q)(hK:∀ w,NQ h w (-q)->K w.v h):aM prog A1b #[w.v] h K:=by
 refine B8h _ _ _ _ _ _ _ _ ?_
 unfold C4d
 refine A0p i.num ?_
 intro b a
 exact ⟨_,_,_,_,rfl,B3 h,hK ⟨b,w.A,w.n,w.c,w.s2,w.A2,w.n2,w.c2⟩ ⟨a,i.den⟩⟩
def Nn(ia:NQ h a p)(ib:NQ h b q)(hp:Sz m p)(hq:Sz m q)(hm:m<=400000000)(hK:∀ w h',h.le h'->NQ h' w (p+q)->K w.v h'):aM prog Qr #[a.v,b.v] h K:=by
 have k:=ia.den_zero
 have H:=ib.den_zero
 refine B8k _ _ _ _ _ _ _ _ _ _ _ _ _ _ _ _ ?_
 unfold C4g
 refine ⟨fun l h'=>l=[.bool (decide (p.den=1/\q.den=1))]/\h'=h,D8 (fun e=>?_) (fun e=>?_),?_⟩
 ·have n:p.den=1:=k.1 (by omega)
  refine ⟨?_,rfl⟩
  have:((b.n2:Int)==0)=decide (p.den=1/\q.den=1):=by
   rw [Bool.eq_iff_iff];simp [n];omega
  rw [this]
 ·have n:¬ p.den=1:=fun O=>e (by have:=k.2 O;omega)
  exact ⟨by simp [n],rfl⟩
 rintro t G ⟨R,rfl⟩
 obtain rfl:t=decide (p.den=1/\q.den=1):=by simpa using R
 have g:=hp.num;have d:=hp.den;have f:=hq.num;have c:=hq.den
 refine B6 (fun e=>?_) (fun e=>?_)
 ·refine A91 ia.num ib.num g f (by omega) ?_
  intro E A1 F c1 n j u
  refine ⟨_,_,_,_,rfl,hK ⟨E,A1,F,c1,false,none,0,0⟩ _ j ?_⟩
  have:p+q=((p.num+q.num:Int):Rat):=by
   rw [Fd,e.1,e.2]
   show aF (p.num*1+q.num*1) (1*1)=_
   rw [aU,aU,aU,Kb]
  rw [this];exact NQ.whole u
 ·refine Aj ib ?_
  intro E A1 F c1 n j u
  refine ⟨_,_,_,_,rfl,j,?_⟩
  refine Da (ia.num.mono j) u g c (by omega) (by omega) ?_
  intro s2 A2 n2 c2 h2 x N
  refine ⟨_,_,_,_,rfl,x,?_⟩
  refine Aj (ia.mono (Heap.le_trans j x)) ?_
  intro s3 A3 n3 X h3 y L
  refine ⟨_,_,_,_,rfl,y,?_⟩
  have o:=Heap.le_trans j (Heap.le_trans x y)
  refine Da (ib.num.mono o) L f d (by omega) (by omega) ?_
  intro s4 A4 n4 c4 h4 z T
  refine ⟨_,_,_,_,rfl,z,?_⟩
  refine A91 (N.mono (Heap.le_trans y z)) T (g.mul c) (f.mul d) (by omega) ?_
  intro s5 A5 Z c5 h5 B J
  refine ⟨_,_,_,_,rfl,B,?_⟩
  have i:=Heap.le_trans o (Heap.le_trans z B)
  refine Aj (ia.mono i) ?_
  intro W A6 n6 c6 h6 s Q
  refine ⟨_,_,_,_,rfl,s,?_⟩
  refine Aj (ib.mono (Heap.le_trans i s)) ?_
  intro s7 A7 n7 V h7 r M
  refine ⟨_,_,_,_,rfl,r,?_⟩
  refine Da (Q.mono r) M d c (by omega) (by omega) ?_
  intro s8 A8 n8 c8 h8 A S
  refine ⟨_,_,_,_,rfl,A,?_⟩
  refine Ob (m:=m+m+1) (J.mono (Heap.le_trans s (Heap.le_trans r A))) S (aO (den_ne p) (den_ne q)) ((g.mul c).add (f.mul d)) ((d.mul c).mono (by omega)) (by omega) ?_
  intro w h9 C D
  rw [<- Fd] at D
  exact ⟨_,_,_,_,_,_,_,_,rfl,C,hK w _ (Heap.le_trans i (Heap.le_trans s (Heap.le_trans r (Heap.le_trans A C)))) D⟩
def A39(ia:NQ h a p)(ib:NQ h b q)(hp:Sz m p)(hq:Sz m q)(hm:m<=400000000)(hK:∀ w h',h.le h'->NQ h' w (p-q)->K w.v h'):aM prog A1a #[a.v,b.v] h K:=by
 refine B8g _ _ _ _ _ _ _ _ _ _ _ _ _ _ _ _ ?_
 unfold C4c
 refine A3b ib ?_
 intro w i
 refine ⟨_,_,_,_,_,_,_,_,rfl,B3 h,?_⟩
 refine Nn ia i hp hq.neg hm ?_
 intro e f c d
 rw [<- Rat.sub_eq_add_neg] at d
 exact ⟨_,_,_,_,_,_,_,_,rfl,c,hK e _ c d⟩
def Nl(ia:NQ h a p)(ib:NQ h b q)(hp:Sz m p)(hq:Sz m q)(hm:m<=400000000)(hK:∀ w h',h.le h'->NQ h' w (p*q)->K w.v h'):aM prog Qq #[a.v,b.v] h K:=by
 have g:=ia.den_zero
 have B:=ib.den_zero
 refine B8i _ _ _ _ _ _ _ _ _ _ _ _ _ _ _ _ ?_
 unfold C4e
 refine ⟨fun l h'=>l=[.bool (decide (p.den=1/\q.den=1))]/\h'=h,D8 (fun e=>?_) (fun e=>?_),?_⟩
 ·have j:p.den=1:=g.1 (by omega)
  refine ⟨?_,rfl⟩
  have:((b.n2:Int)==0)=decide (p.den=1/\q.den=1):=by
   rw [Bool.eq_iff_iff];simp [j];omega
  rw [this]
 ·have j:¬ p.den=1:=fun E=>e (by have:=g.2 E;omega)
  exact ⟨by simp [j],rfl⟩
 rintro t A ⟨F,rfl⟩
 obtain rfl:t=decide (p.den=1/\q.den=1):=by simpa using F
 have d:=hp.num;have k:=hp.den;have c:=hq.num;have i:=hq.den
 refine B6 (fun e=>?_) (fun e=>?_)
 ·refine Da ia.num ib.num d c (by omega) (by omega) ?_
  intro y A1 z c1 j f r
  refine ⟨_,_,_,_,rfl,hK ⟨y,A1,z,c1,false,none,0,0⟩ _ f ?_⟩
  have:p*q=((p.num*q.num:Int):Rat):=by
   rw [Ju,e.1,e.2]
   show aF (p.num*q.num) (1*1)=_
   rw [aU,Kb]
  rw [this];exact NQ.whole r
 ·refine Da ia.num ib.num d c (by omega) (by omega) ?_
  intro y A1 z c1 j f r
  refine ⟨_,_,_,_,rfl,f,?_⟩
  refine Aj (ia.mono f) ?_
  intro S A2 M c2 V n D
  refine ⟨_,_,_,_,rfl,n,?_⟩
  refine Aj (ib.mono (Heap.le_trans f n)) ?_
  intro T A3 N H J o C
  refine ⟨_,_,_,_,rfl,o,?_⟩
  refine Da (D.mono o) C k i (by omega) (by omega) ?_
  intro Q A4 R O L s G
  refine ⟨_,_,_,_,rfl,s,?_⟩
  refine Ob (m:=m+m) (r.mono (Heap.le_trans n (Heap.le_trans o s))) G (aO (den_ne p) (den_ne q)) (d.mul c) (k.mul i) (by omega) ?_
  intro w W u x
  rw [<- Ju] at x
  exact ⟨_,_,_,_,_,_,_,_,rfl,u,hK w _ (Heap.le_trans f (Heap.le_trans n (Heap.le_trans o (Heap.le_trans s u)))) x⟩
def A3h(ia:NQ h a p)(ib:NQ h b q)(hp:Sz m p)(hq:Sz m q)(hm:m<=400000000)(hK:∀ w h',h.le h'->NQ h' w (p/q)->K w.v h'):aM prog A1c #[a.v,b.v] h K:=by
 refine B8j _ _ _ _ _ _ _ _ _ _ _ _ _ _ _ _ ?_
 unfold C4f
 have f:=hp.num;have g:=hp.den;have d:=hq.num;have c:=hq.den
 refine Cb ib ⟨_,rfl,D8 (fun e=>?_) (fun e=>?_)⟩
 ·have z:q=0:=Rat.num_eq_zero.1 (Int.sign_eq_zero_iff_zero.1 e)
  have:=hK ⟨false,none,0,0,false,none,0,0⟩ h (B3 h) (by rw [z,Rat.div_def,Rat.inv_zero,Rat.mul_zero];exact NQ.zero)
  exact this
 ·have o:q.num≠0:=fun y=>e (by rw [y];rfl)
  refine Aj ib ?_
  intro H A1 L c1 Q j t
  refine ⟨_,_,_,_,rfl,j,?_⟩
  refine Da (ia.num.mono j) t f c (by omega) (by omega) ?_
  intro N A2 E c2 R k x
  refine ⟨_,_,_,_,rfl,k,?_⟩
  refine Aj (ia.mono (Heap.le_trans j k)) ?_
  intro O A3 F B C l u
  refine ⟨_,_,_,_,rfl,l,?_⟩
  have i:=Heap.le_trans j (Heap.le_trans k l)
  refine Da u (ib.num.mono i) g d (by omega) (by omega) ?_
  intro J A4 M G D n A
  refine ⟨_,_,_,_,rfl,n,?_⟩
  refine Ob (m:=m+m) (x.mono (Heap.le_trans l n)) A (aO (den_ne p) o) (f.mul c) (g.mul d) (by omega) ?_
  intro w S r s
  rw [<- Yv] at s
  exact ⟨_,_,_,_,_,_,_,_,rfl,r,hK w _ (Heap.le_trans i (Heap.le_trans n r)) s⟩
end
def dch(d:Nat):UInt8:=UInt8.ofNat (48+d)
def Ew{d:Nat}(h:d<10):(dch d).toNat=48+d:=by
 unfold dch;rw [UInt8.toNat_ofNat'];omega
def G9(c:UInt8):Prop:=48<=c.toNat/\c.toNat<=57
instance (c:UInt8):Decidable (G9 c):=by unfold G9;infer_instance
def C1p{d:Nat}(h:d<10):G9 (dch d):=by unfold G9;rw [Ew h];omega
def B9g{c:UInt8}(h:G9 c):dch (c.toNat-48)=c:=by
 unfold G9 at h
 apply UInt8.toNat_inj.1
 rw [Ew (by omega)];omega
def dd(n:Nat):List UInt8:=if _h:n=0 then [] else dd (n/10)++[dch (n%10)]
def I8:dd 0=[]:=by unfold dd;simp
def T6{n:Nat}(h:n≠0):dd n=dd (n/10)++[dch (n%10)]:=by rw [dd];simp [h]
def J4(l:List UInt8):Nat:=l.foldl (fun a c=>10*a+(c.toNat-48)) 0
def Ip(l:List UInt8)(c:UInt8):J4 (l++[c])=10*J4 l+(c.toNat-48):=by simp [J4]
def C1i(l:List UInt8):∀ a,l.foldl (fun a c=>10*a+(c.toNat-48)) a=a*10^l.length+J4 l:=by
 induction l with
 | nil=>intro a;simp [J4]
 | cons c l ih=>
  intro a
  unfold J4
  rw [List.foldl_cons,List.foldl_cons,ih,ih,List.length_cons,aK]
  grind
def Gs(a b:List UInt8):J4 (a++b)=J4 a*10^b.length+J4 b:=by
 unfold J4;rw [List.foldl_append,C1i b];rfl
def B42(c:UInt8)(l:List UInt8):J4 (c::l)=(c.toNat-48)*10^l.length+J4 l:=by
 rw [<- List.singleton_append,Gs];simp [J4]
def Gr{l:List UInt8}(h:∀ c∈l,G9 c):J4 l<10^l.length:=by
 induction l with
 | nil=>simp [J4]
 | cons c l ih=>
  have d:=ih fun x a=>h x (by simp [a])
  have b:=h c (by simp)
  unfold G9 at b
  rw [B42,List.length_cons,aK]
  have:(c.toNat-48)*10^l.length<=9*10^l.length:=Nat.mul_le_mul_right _ (by omega)
  omega
def C1j(n:Nat):J4 (dd n)=n:=by
 induction n using bH with
 | _ n ih=>
  by_cases h:n=0
  ·subst h;rw [I8];rfl
  ·rw [T6 h,Ip,ih _ (by omega),Ew (by omega)];omega
def C3r(n:Nat):∀ c∈dd n,G9 c:=by
 induction n using bH with
 | _ n ih=>
  by_cases h:n=0
  ·subst h;rw [I8];simp
  ·rw [T6 h]
   intro c b
   rcases List.mem_append.1 b with a|a
   ·exact ih _ (by omega) c a
   ·rw [List.mem_singleton.1 a];exact C1p (by omega)
def B7o{n:Nat}(h:n≠0):dd n≠[]:=by rw [T6 h];simp
def B49(n:Nat)(h:n≠0):(dd n).head? ≠ some 48:=by
 induction n using bH with
 | _ n ih=>
  rw [T6 h]
  by_cases a:n/10=0
  ·rw [a,I8]
   simp only [bJ,List.head?_cons,ne_eq,Option.some.injEq]
   intro e
   have:=Ew (d:=n%10) (by omega)
   rw [e] at this
   simp at this
   omega
  ·have:=ih _ (by omega) a
   obtain ⟨c,r,e⟩:=bL (B7o a)
   rw [e] at this ⊢
   simpa using this
def B4a{l:List UInt8}(h:∀ c∈l,G9 c)(h0:l.head? ≠ some 48):dd (J4 l)=l:=by
 obtain ⟨n,g⟩:∃ n,l.length=n:=⟨_,rfl⟩
 induction n generalizing l with
 | zero=>rw [bF g];exact I8
 | succ n ih=>
  obtain ⟨m,c,rfl⟩:∃ m c,l=m++[c]:=by
   refine ⟨l.dropLast,l.getLast (by rintro rfl;simp at g),?_⟩
   rw [List.dropLast_concat_getLast]
  have b:=h c (by simp)
  have f:=b
  unfold G9 at f
  rw [Ip]
  cases m with
  | nil=>
   simp at h0
   have k:c.toNat-48≠0:=by
    intro e
    apply h0
    apply UInt8.toNat_inj.1
    show c.toNat=48
    omega
   rw [T6 (by simp [J4];omega)]
   simp only [J4,List.foldl_nil,bJ]
   rw [show (10*0+(c.toNat-48))/10=0 by omega,I8,show (10*0+(c.toNat-48))%10=c.toNat-48 by omega,B9g b];rfl
  | cons d m=>
   have a:=ih (l:=d::m) (fun x i=>h x (by simp at i ⊢;rcases i with h|h<;>simp [h])) (by simpa using h0) (by simpa using g)
   have j:J4 (d::m)≠0:=by
    intro e
    rw [e,I8] at a
    cases a
   rw [T6 (by omega),show (10*J4 (d::m)+(c.toNat-48))/10=J4 (d::m) by omega,a,show (10*J4 (d::m)+(c.toNat-48))%10=c.toNat-48 by omega,B9g b]
def Q9{n k:Nat}:(dd n).length<=k↔n<10^k:=by
 induction k generalizing n with
 | zero=>
  constructor
  ·intro h
   have:dd n=[]:=bF (by omega)
   by_cases a:n=0
   ·subst a;decide
   ·exact absurd this (B7o a)
  ·intro h
   have:n=0:=by simp at h;exact h
   subst this;rw [I8];simp
 | succ k ih=>
  by_cases a:n=0
  ·subst a;rw [I8];simp [aJ]
  ·rw [T6 a,aX,List.length_singleton,Nat.add_le_add_iff_right,ih,aK]
   omega
def pad(w n:Nat):List UInt8:=List.replicate (w-(dd n).length) 48++dd n
def A8b(n:Nat):pad 0 n=dd n:=by simp [pad]
def Yo{w n:Nat}(h:n<10^w):(pad w n).length=w:=by
 have:=Q9.2 h
 simp [pad];omega
def Tj(w n:Nat):pad (w+1) n=pad w (n/10)++[dch (n%10)]:=by
 unfold pad
 by_cases h:n=0
 ·subst h
  rw [I8]
  simp only [List.length_nil,Nat.sub_zero,List.append_nil,Nat.zero_mod]
  rw [List.replicate_succ'];rfl
 ·rw [T6 h,aX,List.length_singleton,Nat.add_sub_add_right,aI]
def C3q{h l k:Nat}(h0:h≠0)(hl:l<10^k):dd (h*10^k+l)=dd h++pad k l:=by
 induction k generalizing l with
 | zero=>
  have:l=0:=by simpa using hl
  subst this;simp [pad,I8]
 | succ k ih=>
  have d:0<10^k:=aJ (by decide)
  have a:h*10^(k+1)+l≠0:=by
   have:0<h*10^(k+1):=Nat.mul_pos (by omega) (aJ (by decide))
   omega
  have c:(h*10^(k+1)+l)/10=h*10^k+l/10:=by
   rw [aK,<- Nat.mul_assoc];omega
  have b:(h*10^(k+1)+l)%10=l%10:=by
   rw [aK,<- Nat.mul_assoc];omega
  rw [T6 a,c,b,ih (by rw [aK] at hl;omega),Tj,aI]
def A3k{w h l k:Nat}(hl:l<10^k)(hw:h≠0\/k<=w):pad w (h*10^k+l)=pad (w-k) h++pad k l:=by
 by_cases b:h=0
 ·subst b
  have c:k<=w:=by
   rcases hw with h|h
   ·exact absurd rfl h
   ·exact h
  have:=Q9.2 hl
  unfold pad
  rw [I8]
  simp only [Nat.zero_mul,Nat.zero_add,List.length_nil,Nat.sub_zero,List.append_nil,<- aI,List.replicate_append_replicate]
  congr 2;omega
 ·have e:=C3q b hl
  have a:=Yo hl
  unfold pad at a
  unfold pad at e ⊢
  rw [e,aX,a,<- aI]
  congr 3;omega
def N8(n:Nat):List UInt8:=if n=0 then [48] else dd n
def Z8{n:Nat}(h:n≠0):N8 n=dd n:=by simp [N8,h]
def Ai(n:Nat):J4 (N8 n)=n:=by
 unfold N8;split
 ·rename_i h;subst h;rfl
 ·exact C1j n
def Ox(n:Nat):∀ c∈N8 n,G9 c:=by
 unfold N8;split
 ·intro c a;rw [List.mem_singleton.1 a];decide
 ·exact C3r n
def Vu(n:Nat):N8 n≠[]:=by
 unfold N8;split
 ·simp
 ·rename_i h;exact B7o h
def B7n{a b:Nat}(h:N8 a=N8 b):a=b:=by rw [<- Ai a,h,Ai]
def Ow{l:List UInt8}(h:∀ c∈l,G9 c)(hn:l≠[])(h0:l.head? ≠ some 48\/l=[48]):N8 (J4 l)=l:=by
 rcases h0 with h0|h0
 ·have:=B4a h h0
  rw [Z8,this]
  intro e
  rw [e,I8] at this
  exact hn this.symm
 ·subst h0;rfl
def Ov{n k:Nat}(hk:0<k):(N8 n).length<=k↔n<10^k:=by
 by_cases h:n=0
 ·subst h;have:0<10^k:=aJ (by decide);simp [N8];omega
 ·rw [Z8 h];exact Q9
def Hl(z:Int):List UInt8:=if z<0 then 45::N8 z.natAbs else N8 z.natAbs
def I9(q:Rat):List UInt8:=Hl q.num++(if q.den=1 then [] else 47::N8 q.den)
structure Form (s:List UInt8) (neg:Bool) (a b:List UInt8):Prop where
 eq:s=(if neg then [45] else [])++a++(if b=[] then [] else 47::b)
 da:∀ c∈a,G9 c
 db:∀ c∈b,G9 c
 ne:a≠[]
 ha:a.head? ≠ some 48\/(a=[48]/\neg=false/\b=[])
 hb:b.head? ≠ some 48
 b1:b≠[49]
def A8j{c:UInt8}(h:G9 c):c≠45/\c≠47:=by
 unfold G9 at h
 constructor<;>(rintro rfl;revert h;decide)
def Fq{a r:List UInt8}(h:∀ c∈a,G9 c)(hr:∀ c,r.head? = some c->¬ G9 c):(a++r).takeWhile (fun c=>decide (G9 c))=a/\(a++r).dropWhile (fun c=>decide (G9 c))=r:=by
 induction a with
 | nil=>
  cases r with
  | nil=>simp
  | cons c r=>
   have:=hr c rfl
   simp [this]
 | cons c a ih=>
  have b:=h c (by simp)
  have:=ih fun x d=>h x (by simp [d])
  simp [b,this]
def Form.head{s:List UInt8}{neg:Bool}{a b:List UInt8}(f:Form s neg a b):neg=(s.head? == some 45):=by
 obtain ⟨c,r,e⟩:=bL f.ne
 have d:=(A8j (f.da c (by simp [e]))).1
 rw [f.eq,e]
 cases neg<;>simp [d]
def Form.unique{s:List UInt8}{neg neg':Bool}{a b a' b':List UInt8}(f:Form s neg a b)(g:Form s neg' a' b'):neg=neg'/\a=a'/\b=b':=by
 have o:neg=neg':=by rw [f.head,g.head]
 subst o
 have e:=f.eq.symm.trans g.eq
 rw [aI,aI] at e
 have p:=List.append_cancel_left e
 have k:∀ b:List UInt8,∀ c,(if b=[] then [] else 47::b:List UInt8).head? = some c->¬ G9 c:=by
  intro b c d
  split at d
  ·simp at d
  ·simp at d;subst d;decide
 have i:=Fq f.da (k b)
 have m:=Fq g.da (k b')
 rw [p] at i
 have n:a=a':=i.1.symm.trans m.1
 have l:=i.2.symm.trans m.2
 refine ⟨rfl,n,?_⟩
 by_cases q:b=[]<;>by_cases j:b'=[]<;>simp [q,j] at l ⊢
 exact l
def Vw{q:Rat}(h:q.num=0):q.den=1:=by
 have:=q.reduced
 rw [h] at this
 simpa using this
def Hw(q:Rat):Form (I9 q) (decide (q.num<0)) (N8 q.num.natAbs) (if q.den=1 then [] else N8 q.den):=by
 constructor
 ·unfold I9 Hl
  by_cases a:q.num<0<;>by_cases c:q.den=1<;>simp [a,c,Vu]
 ·exact Ox _
 ·split
  ·simp
  ·exact Ox _
 ·exact Vu _
 ·by_cases h:q.num=0
  ·right
   rw [Vw h,h];simp [N8]
  ·left
   rw [Z8 (by omega)];exact B49 _ (by omega)
 ·split
  ·simp
  ·rw [Z8 q.den_nz];exact B49 _ q.den_nz
 ·split
  ·simp
  ·rename_i h
   intro e
   have b:N8 q.den=N8 1:=by rw [e];simp [N8,T6,I8,dch]
   exact h (B7n b)
def Sd(neg:Bool)(a:List UInt8):Int:=if neg then -(J4 a:Int) else J4 a
def Mi(b:List UInt8):Nat:=if b=[] then 1 else J4 b
def Vq{b:List UInt8}(h:∀ c∈b,G9 c)(hn:b≠[])(h0:b.head? ≠ some 48):J4 b≠0:=by
 intro e
 have:=B4a h h0
 rw [e,I8] at this
 exact hn this.symm
def Form.den_ne{s:List UInt8}{neg:Bool}{a b:List UInt8}(f:Form s neg a b):Mi b≠0:=by
 unfold Mi;split
 ·decide
 ·rename_i h;exact Vq f.db h f.hb
def Form.txt{s:List UInt8}{neg:Bool}{a b:List UInt8}(f:Form s neg a b){q:Rat}(h1:q.num=Sd neg a)(h2:q.den=Mi b):s=I9 q:=by
 have k:N8 (J4 a)=a:=Ow f.da f.ne (f.ha.imp id fun h=>h.1)
 have g:(Sd neg a).natAbs=J4 a:=by unfold Sd;split<;>simp
 have c:(Sd neg a<0)↔neg=true:=by
  unfold Sd
  cases neg
  ·simp
  ·simp only [if_true]
   constructor
   ·intro _;trivial
   ·intro _
    have:J4 a≠0:=by
     rcases f.ha with h|h
     ·exact Vq f.da f.ne h
     ·exact absurd h.2.1 (by simp)
    omega
 have j:(Mi b=1)↔b=[]:=by
  unfold Mi
  split
  ·rename_i h;simp [h]
  ·rename_i h
   constructor
   ·intro e
    exfalso
    have i:=Ow f.db h (Or.inl f.hb)
    rw [e] at i
    apply f.b1
    rw [<- i];simp [N8,T6,I8,dch]
   ·intro e;exact absurd e h
 rw [f.eq]
 unfold I9 Hl
 rw [h1,h2,g,k]
 by_cases d:b=[]
 ·rw [iP d,iP (j.2 d)]
  cases neg
  ·rw [iN (fun e=>Bool.noConfusion (c.1 e))];simp
  ·rw [iP (c.2 rfl)];simp
 ·rw [iN d,iN (fun e=>d (j.1 e))]
  have l:N8 (Mi b)=b:=by
   unfold Mi;rw [iN d];exact Ow f.db d (Or.inl f.hb)
  rw [l]
  cases neg
  ·rw [iN (fun e=>Bool.noConfusion (c.1 e))];simp
  ·rw [iP (c.2 rfl)];simp
def Form.of_txt{s:List UInt8}{neg:Bool}{a b:List UInt8}(f:Form s neg a b){q:Rat}(e:s=I9 q):q.num=Sd neg a/\q.den=Mi b:=by
 subst e
 obtain ⟨g,d,c⟩:=f.unique (Hw q)
 subst g d c
 constructor
 ·unfold Sd
  rw [Ai]
  by_cases h:q.num<0
  ·simp [h];omega
  ·simp [h];omega
 ·unfold Mi
  by_cases h:q.den=1
  ·simp [h]
  ·simp [h,Vu,Ai]
def IsNum(s:List UInt8):Prop:=∃ q,s=I9 q
def Form.isNum{s:List UInt8}{neg:Bool}{a b:List UInt8}(f:Form s neg a b):IsNum s↔Nat.gcd (J4 a) (Mi b)=1:=by
 have c:(Sd neg a).natAbs=J4 a:=by unfold Sd;split<;>simp
 constructor
 ·rintro ⟨q,e⟩
  have:=f.of_txt e
  have d:=q.reduced
  rw [this.1,this.2,c] at d
  exact d
 ·intro h
  exact ⟨⟨Sd neg a,Mi b,f.den_ne,by rw [c];exact h⟩,f.txt rfl rfl⟩
def IsNum.form{s:List UInt8}(h:IsNum s):∃ neg a b,Form s neg a b:=by
 obtain ⟨q,rfl⟩:=h
 exact ⟨_,_,_,Hw q⟩
def B72(s:List UInt8):Rat:=
 let neg:=s.head? == some 45
 let t:=if neg then s.drop 1 else s
 mkRat (Sd neg (t.takeWhile fun c=>decide (G9 c))) (Mi ((t.dropWhile fun c=>decide (G9 c)).drop 1))
def rv(s:List UInt8):Rat:=if I9 (B72 s)=s then B72 s else 0
def D9(q:Rat):rv (I9 q)=q:=by
 have f:=Hw q
 have k:=f.head
 have g:∀ b:List UInt8,∀ c,(if b=[] then [] else 47::b:List UInt8).head? = some c->¬ G9 c:=by
  intro b c a
  split at a
  ·simp at a
  ·simp at a;subst a;decide
 have e:B72 (I9 q)=q:=by
  unfold B72
  simp only [<- k]
  generalize hb:(if q.den=1 then [] else N8 q.den)=b at f
  have j:(if decide (q.num<0)=true then (I9 q).drop 1 else I9 q)=N8 q.num.natAbs++(if b=[] then [] else 47::b):=by
   rw [f.eq]
   by_cases d:q.num<0<;>simp [d]
  rw [j,(Fq f.da (g b)).1,(Fq f.da (g b)).2]
  have i:=f.of_txt rfl
  have l:(if b=[] then [] else 47::b:List UInt8).drop 1=b:=by
   by_cases d:b=[]<;>simp [d]
  rw [l,<- i.1,<- i.2,Rat.mkRat_self]
 unfold rv
 rw [e,iP rfl]
def A84{s:List UInt8}(h:¬ IsNum s):rv s=0:=by
 unfold rv
 rw [iN (fun e=>h ⟨_,e.symm⟩)]
def B1r{s:List UInt8}(h:IsNum s):I9 (rv s)=s:=by
 obtain ⟨q,rfl⟩:=h
 rw [D9]
def Form.rv_num{s:List UInt8}{neg:Bool}{a b:List UInt8}(f:Form s neg a b)(h:IsNum s):(rv s).num=Sd neg a/\(rv s).den=Mi b:=by
 obtain ⟨q,rfl⟩:=h
 rw [D9];exact f.of_txt rfl
