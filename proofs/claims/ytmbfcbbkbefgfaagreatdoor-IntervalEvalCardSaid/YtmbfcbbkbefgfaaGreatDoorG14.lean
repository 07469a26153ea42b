/- A part. -/
import Derived.Test.YtmbfcbbkbefgfaaGreatDoorG12
import Derived.Test.YtmbfcbbkbefgfaaGreatDoorG13
open Go.Proofs.Tryz
set_option linter.all false
open Int renaming mul_le_mul_of_nonneg_right->aC,sign_eq_one_of_pos->aD,natAbs_natCast->aE,le_of_lt->aG,sign_eq_neg_one_of_neg->aH,gcd->aL,natAbs_of_nonneg->aN,natAbs_neg->aP,toNat_natCast->aQ,natCast_mul->aR,mul_ne_zero->aS,mul_one->aU,toNat_of_nonneg->aW,mul_comm->aY,gcd_dvd_right->aZ,natCast_ediv->bC,mul_le_mul_of_nonneg_left->bF,mul_lt_mul_of_pos_right->bJ,tmod_eq_emod_of_nonneg->bL,natAbs_mul->bM,tdiv_eq_ediv_of_dvd->bU
open List renaming append_assoc->aI,length_append->aX,take_length->bB,eq_nil_of_length_eq_zero->bD,nil_append->bI,exists_cons_of_ne_nil->bK,getElem?_cons_zero->bO
open Nat renaming pow_pos->aJ,pow_succ->aK,le_refl->aT,mul_le_mul_left->aV,strongRecOn->bG,min_eq_left->bH
open Rat renaming divInt->aF,num_divInt_den->aO,divInt_ofNat->bA
open _root_.Go renaming Addr->bN
open _root_.Go.Proofs.YtmbfcbbkbefgfaaGreatDoor renaming FCall->aM,Heap->bV
namespace Go.Proofs.YtmbfcbbkbefgfaaGreatDoor
set_option maxRecDepth 20000
open Go
section
variable {h g:bV} {K:VP} {A B:Option bN} {ac bc:Nat}
def B77{P:Program}{t e:TypeId}{z:Value}{bytes:Nat}(s:SliceT P t e z 1 bytes){u v:Value}(hu:u.cells=#[u])(hv:v.cells=#[v]){K:VP}{h:bV}
 (x:∀ b,h b=none->K (.slice (some ⟨b,0,none⟩) 2 2) (h.put b (.cells #[u,v] e))):wpH P (Instr.buildSlice t 2 #[(0,u),(1,v)]) K h:=by
 refine Ak s (by omega) (cells:=#[u,v]) ?_ x
 have a:(E6 z.cells 2).size=2:=by simp [E6,s.cells]
 have:E6 z.cells 2=#[(E6 z.cells 2)[0]'(by omega),(E6 z.cells 2)[1]'(by omega)]:=by
  apply Array.ext
  ·simpa using a
  ·intro i d c
   match i with
   | 0=>rfl
   | 1=>rfl
   | i+2=>simp at c;omega
 rw [this]
 simp [Instr.fill,hu,hv]
def Al{B:Int}(hB:0<B){xs:List Int}(d:Dig B xs){m:Nat}(hl:xs.length=m+1):val B xs<(xs.getD m 0+1)*B^m/\xs.getD m 0*B^m<=val B xs:=by
 have b:=F2 B xs m
 rw [show m+1=xs.length by omega,bB] at b
 have a:=I5 hB (d.take m)
 have g:=C5 hB (d.take m)
 rw [List.length_take,bH (by omega)] at a
 have e:(xs.getD m 0+1)*B^m=B^m*xs.getD m 0+B^m:=by grind
 have c:xs.getD m 0*B^m=B^m*xs.getD m 0:=aY _ _
 omega
def A09{xs:List Int}{m:Nat}(hl:xs.length=m+1)(hn:Norm xs):xs.getD m 0≠0:=by
 intro a
 have e:=Fo (xs:=xs) (i:=m) (by omega)
 rw [<- hl,bB,a] at e
 apply hn
 rw [e];simp
def Sk{x y:Int}{an bn:Nat}(ma:Mg h A an x)(mb:Mg h B bn y)(hy:y≠0)(hl:an<=100000000)(hl2:bn<=100000000)
 (hK:∀ A1 m1 c1 A2 m2 c2 h',h.le h'->m1<=c1->m2<=c2->Mg h' A1 m1 (x/y)->Mg h' A2 m2 (x%y)->K (.tuple #[.slice A1 m1 c1,.slice A2 m2 c2]) h'):aM prog Kw #[.slice A an ac,.slice B bn bc] h K:=by
 have E:=ma.nonneg (by decide)
 have ae:=mb.nonneg (by decide)
 have a2:=mb.len_zero (by decide)
 have S:=ma.lt (by decide)
 have ay:=mb.lt (by decide)
 refine A7m _ _ _ _ _ _ ?_
 unfold B1s
 refine Sr ma mb (by omega) ⟨_,rfl,B4 (fun G=>?_) (fun G=>D9 (fun h2=>?_) (fun h2=>?_))⟩
 ·have T:x<y:=by
   by_cases g:x<y
   ·exact g
   ·rw [iN g] at G
    by_cases aa:x>y
    ·rw [iP aa] at G;omega
    ·rw [iN aa] at G;omega
  rw [Int.ediv_eq_zero_of_lt E T,Int.emod_eq_of_lt E T] at hK
  obtain ⟨xs,rfl,sx,dx,nx,rfl⟩:=ma
  refine Rf Mm ?_
  intro b hb
  refine ⟨_,_,_,rfl,?_⟩
  have j:=Heap.le_put (h:=h) (b:=b) (.cells #[] C1) hb
  have ah:=SlI.mono j sx
  refine Ll Mm (Priv.nil _ _ _ _) (ys:=xs.map (Value.int .u32)) (by simp) ah (fun v hv=>?_) (by omega) (by omega) ?_
  ·obtain ⟨a,_,rfl⟩:=List.mem_map.1 hv;rfl
  ·intro A' c' h' g' hg M
   rw [bI] at M
   have D:=M.slV
   simp only [Nat.zero_add] at M ⊢
   exact ⟨_,_,_,rfl,hK none 0 0 A' xs.length c' h' (A0 j (A0 hg M.le)) (aT _) M.2.1 Mag.zero ⟨xs,rfl,D,dx,nx,rfl⟩⟩
 ·obtain ⟨ys,rfl,sy,R,ny,rfl⟩:=mb
  have J:ys.length=1:=by omega
  obtain ⟨d,rfl⟩:∃ d,ys=[d]:=by
   cases ys with
   | nil=>simp at J
   | cons d r=>
    cases r with
    | nil=>exact ⟨d,rfl⟩
    | cons _ _=>simp at J
  rw [S9] at hy ae hK
  have hd:=R d (by simp)
  refine sy.load rfl (by omega) (by simp) ?_
  show aM _ _ #[_,U32 d] _ _
  refine Jx ma ⟨by omega,hd.2⟩ hl ?_
  intro A' m c' h' j hm a3 hM
  refine ⟨_,_,_,_,rfl,?_⟩
  refine Y4 Mm rfl ?_
  intro b hb
  refine ⟨_,_,_,rfl,?_⟩
  have u:=Heap.le_put (h:=h') (b:=b) (.cells #[U32 (x%d)] C1) hb
  have hr:0<=x%d/\x%d<4294967296:=by
   have h3:=Int.emod_nonneg x (show d≠0 by omega)
   have h4:=Int.emod_lt_of_pos x (show 0<d by omega)
   have h5:=hd.2
   show _/\_<b32
   omega
  refine U8 (xs:=[x%d]) (SlI.new h' b [x%d] C1 _) (Dig.one hr) (aT _) (by simp) ?_
  intro m2 C p
  rw [S9] at p
  exact ⟨_,_,_,rfl,hK _ _ _ _ _ _ _ (A0 j u) hm (by simpa using C) (hM.mono u) p⟩
 ·have aw:y<=x:=by
   by_cases g:x<y
   ·rw [iP g] at G;omega
   ·omega
  have a0:bn<=an:=mb.len_le (by decide) (Int.lt_of_le_of_lt aw S)
  obtain ⟨xs,rfl,sx,dx,nx,rfl⟩:=ma
  obtain ⟨ys,rfl,sy,R,ny,rfl⟩:=mb
  obtain ⟨mm,hmm⟩:∃ mm,ys.length=mm+2:=⟨ys.length-2,by omega⟩
  have gt:=Aj R (mm+1)
  have az:=A09 (m:=mm+1) hmm ny
  obtain ⟨aj,ab⟩:=Al (B:=b32) (by decide) R (m:=mm+1) hmm
  unfold A2e
  refine ⟨fun l h'=>∃ s:Nat,l=[U s]/\h'=h/\s<32/\ys.getD (mm+1) 0*2^s<4294967296,fun l _=>32-(iAt l 0).toNat,⟨0,rfl,rfl,by omega,by rw [Int.pow_zero,aU];exact gt.2⟩,?_⟩
  rintro si ao ⟨s,ap,rfl,D,ad⟩
  obtain rfl:=sI1 ap
  have e1:B5 ((ys.length:Int)-1)=((mm+1:Nat):Int):=by rw [B6 (by omega) (by omega)];omega
  rw [e1]
  refine sy.load rfl (by omega) (by omega) ?_
  refine B4 (fun e=>absurd e (by omega)) (fun _=>?_)
  have c:0<(2:Int)^s:=Int.pow_pos (by decide)
  have ax:2^s<=ys.getD (mm+1) 0*2^s:=by
   have:=aC (show 1<=ys.getD (mm+1) 0 by omega) (aG c);omega
  have e2:E9 (ys.getD (((mm+1:Nat):Int)).toNat 0*2^(min ((s:Int)).toNat 32))=ys.getD (mm+1) 0*2^s:=by
   rw [aQ,aQ,bH (by omega),K5 (by omega) ad]
  refine B4 (fun h3=>?_) (fun h3=>?_)
  ·rw [e2] at h3
   have Z:s+1<32:=by
    by_cases g:s+1<32
    ·exact g
    ·have:s=31:=by omega
     subst this
     have:(2:Int)^31=2147483648:=by decide
     omega
   have e3:B8 ((s:Int)+1)=((s+1:Nat):Int):=by rw [B9 (by omega) (by omega)];omega
   rw [e3]
   refine ⟨⟨s+1,rfl,rfl,Z,?_⟩,by simp only [iAt,bO];omega⟩
   rw [Int.pow_succ,<- Int.mul_assoc];omega
  ·rw [e2] at h3
   have ak:val b32 ys*2^s<b32^(mm+2):=by
    have W:=Jv (Nat.le_of_lt D)
    have t1:ys.getD (mm+1) 0+1<=2^(32-s):=by
     by_cases g:ys.getD (mm+1) 0+1<=2^(32-s)
     ·exact g
     ·have:=aC (show (2:Int)^(32-s)<=ys.getD (mm+1) 0 by omega) (aG c)
      rw [aY,W] at this;omega
    have t2:val b32 ys*2^s<(ys.getD (mm+1) 0+1)*b32^(mm+1)*2^s:=bJ aj c
    have t3:(ys.getD (mm+1) 0+1)*b32^(mm+1)*2^s=(ys.getD (mm+1) 0+1)*2^s*b32^(mm+1):=by grind
    have t4:(ys.getD (mm+1) 0+1)*2^s*b32^(mm+1)<=4294967296*b32^(mm+1):=by
     apply aC _ (aG (D6 (by decide) _))
     rw [<- W,aY (2^s)]
     exact aC t1 (aG c)
    rw [Int.pow_succ b32 (mm+1),aY (b32^(mm+1))]
    show _<(4294967296:Int)*_
    omega
   have a1:2147483648*b32^(mm+1)<=val b32 ys*2^s:=by
    have t1:ys.getD (mm+1) 0*b32^(mm+1)*2^s<=val b32 ys*2^s:=aC ab (aG c)
    have t2:2147483648*b32^(mm+1)<=ys.getD (mm+1) 0*2^s*b32^(mm+1):=aC (by omega) (aG (D6 (by decide) _))
    have t3:ys.getD (mm+1) 0*2^s*b32^(mm+1)=ys.getD (mm+1) 0*b32^(mm+1)*2^s:=by grind
    omega
   refine Id sy R D (by omega) ?_
   intro bv zv ai F ar av
   refine ⟨_,_,_,rfl,?_⟩
   rw [<- F]
   refine U8 (Cd _ _ _ _ _) ar (aT _) (by omega) ?_
   intro n hn o
   refine ⟨_,_,_,rfl,?_⟩
   rw [av] at o
   have al:n=mm+2:=by
    have l1:=o.len_le (by decide) ak
    have l2:=o.lt (by decide)
    by_cases g:n=mm+2
    ·exact g
    ·have:=D5 (B:=b32) (by decide) (show n<=mm+1 by omega)
     have:=D6 (B:=b32) (by decide) (mm+1)
     omega
   subst al
   obtain ⟨vs,V,sv,dv,nv,w⟩:=o
   have au:4294967296<=2*vs.getD (mm+1) 0:=by
    obtain ⟨q1,q2⟩:=Al (B:=b32) (by decide) dv (m:=mm+1) V.symm
    rw [w] at q1
    have:2147483648<vs.getD (mm+1) 0+1:=by
     by_cases g:2147483648<vs.getD (mm+1) 0+1
     ·exact g
     ·have:=aC (show vs.getD (mm+1) 0+1<=2147483648 by omega) (aG (D6 (B:=b32) (by decide) (mm+1)));omega
    omega
   have z:=S3 (k:=.u32) (e:=C1) ai zv
   refine Id (SlI.mono z sx) dx D (by omega) ?_
   intro bu H am ag X Q
   refine ⟨_,_,_,rfl,?_⟩
   obtain ⟨nq,hnq⟩:∃ nq,xs.length+1=nq+(mm+2):=⟨xs.length+1-(mm+2),by omega⟩
   have e4:B5 (B5 (B5 (((xs.length+1:Nat):Int)-((mm+2:Nat):Int))-1)+1)=(nq:Int):=by
    rw [B6 (n:=((xs.length+1:Nat):Int)-((mm+2:Nat):Int)) (by omega) (by omega),B6 (n:=_-(1:Int)) (by omega) (by omega),B6 (by omega) (by omega)];omega
   rw [e4]
   refine I3 Mm (by omega) (by omega) (by omega) ?_
   intro bq q
   rw [aQ]
   refine ⟨_,_,_,rfl,?_⟩
   have O:bu≠bq:=by
    rintro rfl
    unfold blk at q
    rw [C4] at q;cases q
   have L:blk .u32 C1 ao bv zv bq=none:=by
    have:=q
    unfold blk at this ⊢
    rwa [B7 _ _ O.symm] at this
   refine A6z (us0:=H) (N:=xs.length+1) am L O sv dv V.symm au D w rfl X ag Q hnq (by omega) (by omega) ?_ ?_
   ·have s1:=E7 b32 H (i:=nq) (by omega)
    have s2:=C5 (by decide) (X.take nq)
    have s3:val b32 H<b32^xs.length*2^s:=by
     rw [Q];exact bJ S c
    have s4:b32^(mm+1)<=val b32 ys:=by
     have:=aC (show 1<=ys.getD (mm+1) 0 by omega) (aG (D6 (B:=b32) (by decide) (mm+1)));omega
    have s5:b32^nq*(b32^(mm+1)*2^s)<=b32^nq*(val b32 ys*2^s):=bF (aC s4 (aG c)) (aG (D6 (by decide) nq))
    have s6:b32^nq*(b32^(mm+1)*2^s)=b32^xs.length*2^s:=by
     rw [<- Int.mul_assoc,<- Int.pow_add,show nq+(mm+1)=xs.length by omega]
    by_cases g:val b32 (H.drop nq)<val b32 ys*2^s
    ·exact g
    ·have:=bF (show val b32 ys*2^s<=val b32 (H.drop nq) by omega) (aG (D6 (B:=b32) (by decide) nq));omega
   ·intro A1 m1 c1 A2 m2 c2 h' j af C aq p
    exact hK _ _ _ _ _ _ _ (A0 z j) af C aq p
end
def A5l(h:bV)(A:Option bN)(len:Nat):List Int:=(List.range len).map fun i=>
 match A with
 | some a=>(match h.cell? (a.add i) with|some (.int _ n)=>n|_=>0)
 | none=>0
def A9a(B:Int)(h:bV)(A:Option bN)(len:Nat):Nat:=(val B (A5l h A len)).toNat
def B0c{k:IntKind}{h:bV}{A:Option bN}{xs:List Int}(s:SlI k h A xs):A5l h A xs.length=xs:=by
 apply List.ext_getElem
 ·simp [A5l]
 ·intro i e c
  obtain ⟨a,b,d⟩:=SlV.at s (i:=i) (by simpa using c)
  subst b
  simp [A5l,d]
def Y3{k:IntKind}{B:Int}{h:bV}{A:Option bN}{len:Nat}{n:Int}(m:Mag k B h A len n):A9a B h A len=n.toNat:=by
 obtain ⟨a,rfl,s,_,_,rfl⟩:=m
 unfold A9a
 rw [B0c s]
def ZB(m:Nat)(z:Int):Prop:=z.natAbs<2^m
def ZB.mono{m n:Nat}{z:Int}(h:ZB m z)(hm:m<=n):ZB n z:=Nat.lt_of_lt_of_le h (Nat.pow_le_pow_right (by decide) hm)
def ZB.neg{m:Nat}{z:Int}(h:ZB m z):ZB m (-z):=by unfold ZB at *;rwa [aP]
def ZB.add{m:Nat}{x y:Int}(hx:ZB m x)(hy:ZB m y):ZB (m+1) (x+y):=by
 unfold ZB at *;rw [aK]
 have:=Int.natAbs_add_le x y;omega
def ZB.mul{m n:Nat}{x y:Int}(hx:ZB m x)(hy:ZB n y):ZB (m+n) (x*y):=by
 unfold ZB at *;rw [bM,Nat.pow_add]
 have b:x.natAbs*y.natAbs<=x.natAbs*2^n:=aV _ (Nat.le_of_lt hy)
 have a:x.natAbs*2^n<2^m*2^n:=Nat.mul_lt_mul_of_pos_right hx (aJ (by decide))
 omega
def ZB.le{m:Nat}{x y:Int}(hx:ZB m x)(h:y.natAbs<=x.natAbs):ZB m y:=Nat.lt_of_le_of_lt h hx
def ZB.one{m:Nat}(h:1<=m):ZB m 1:=ZB.mono (m:=1) (by unfold ZB;decide) h
def ZB.zero{m:Nat}:ZB m 0:=aJ (by decide)
def A9f{k:IntKind}{j:Nat}(hj:0<j){h:bV}{A:Option bN}{n m:Nat}{x:Int}(M:Mag k ((2:Int)^j) h A n x)(hx:x<2^m):n<=m/j+1:=by
 refine M.len_le ?_ ?_
 ·have:=D5 (B:=2) (by decide) hj;omega
 ·have e:((2:Int)^j)^(m/j+1)=2^(j*(m/j+1)):=by rw [Int.pow_mul]
  rw [e]
  have:m<=j*(m/j+1):=by
   have b:=Nat.div_add_mod m j
   have a:=Nat.mod_lt m hj
   rw [Nat.mul_add];omega
  have:=D5 (B:=2) (by decide) this
  omega
structure NI (h:bV) (s:Bool) (A:Option bN) (n c:Nat) (z:Int):Prop where
 mag:Mg h A n (z.natAbs:Int)
 sg:s=decide (z<0)
 cap:n<=c
section
variable {h h':bV} {K:VP} {A B:Option bN} {n c n' c':Nat} {s s':Bool} {x y z:Int} {m:Nat}
def NI.mono(hl:h.le h')(i:NI h s A n c z):NI h' s A n c z:=⟨i.mag.mono hl,i.sg,i.cap⟩
def NI.len(i:NI h s A n c z)(hz:ZB m z)(hm:m<=1000000000):n<=100000000:=by
 have:=A9f (j:=32) (by decide) i.mag (m:=m) (by unfold ZB at hz;have:((z.natAbs:Nat):Int)<((2^m:Nat):Int):=by omega
                                                simpa using this)
 omega
def NI.zero_iff(i:NI h s A n c z):n=0↔z=0:=by
 have:=i.mag.len_zero (by decide)
 omega
def NI.nil:NI h false A 0 0 0:=⟨Mag.zero,rfl,aT _⟩
def J9{neg:Bool}{x:Int}(M:Mg h A n x)(hc:n<=c)(hK:∀ s,NI h s A n c (if neg then -x else x)->K (.agg #[.bool s,.slice A n c]) h):aM prog O2 #[.bool neg,.slice A n c] h K:=by
 have a:=M.nonneg (by decide)
 have b:=M.len_zero (by decide)
 refine B1r _ _ _ _ ?_
 unfold B66
 refine Br.of (fun e=>?_) (fun e=>?_)
 ·subst e
  refine hK _ ⟨?_,?_,hc⟩
  ·have:(((if true=true then -x else x).natAbs:Nat):Int)=x:=by simp;omega
   rw [this];exact M
  ·simp;omega
 ·subst e
  refine hK _ ⟨?_,?_,hc⟩
  ·have:(((if false=true then -x else x).natAbs:Nat):Int)=x:=by simp;omega
   rw [this];exact M
  ·simp;omega
def Ol(hz: -9223372036854775808<=z/\z<=9223372036854775807)(hK:∀ s A n c h',h.le h'->NI h' s A n c z->K (.agg #[.bool s,.slice A n c]) h'):aM prog Ht #[I z] h K:=by
 refine A4g _ ?_
 unfold A5y
 refine ⟨fun l h'=>l=[U z.natAbs]/\h'=h,B4 (fun r=>⟨?_,rfl⟩) (fun r=>⟨?_,rfl⟩),?_⟩
 ·have:B8 (0-B8 z)=z.natAbs:=by rw [D8,D8];omega
  rw [this]
 ·have:B8 z=z.natAbs:=by rw [D8];omega
  rw [this]
 ·rintro u k ⟨p,rfl⟩
  obtain rfl:u=(z.natAbs:Int):=by simpa using p
  rw [U7,Tz,K5 (n:=(z.natAbs:Int)/4294967296) (by omega) (by omega)]
  refine B77 Mm rfl rfl ?_
  intro b q
  refine ⟨_,_,_,rfl,?_⟩
  have a:Dig b32 [(z.natAbs:Int)%4294967296,(z.natAbs:Int)/4294967296]:=by
   intro d a
   simp only [List.mem_cons,List.not_mem_nil,or_false] at a
   show _/\_<(4294967296:Int)
   rcases a with rfl|rfl<;>omega
  refine U8 (xs:=[(z.natAbs:Int)%4294967296,(z.natAbs:Int)/4294967296]) (SlI.new k b _ C1 _) a (aT _) (by simp) ?_
  intro m o g
  have j:val b32 [(z.natAbs:Int)%4294967296,(z.natAbs:Int)/4294967296]=z.natAbs:=by
   simp only [val]
   show _+(4294967296:Int)*(_+4294967296*0)=_
   omega
  rw [j] at g
  refine ⟨_,_,_,rfl,?_⟩
  refine J9 g (by simpa using o) ?_
  intro s i
  refine ⟨_,_,_,_,rfl,hK _ _ _ _ _ (Heap.le_put _ q) ?_⟩
  have:(if decide (z<0)=true then -(z.natAbs:Int) else (z.natAbs:Int))=z:=by
   by_cases e:z<0
   ·rw [iP (by simpa using e)];omega
   ·rw [iN (by simpa using e)];omega
  rw [this] at i
  exact i
def A0l(i:NI h s A n c z)(hK:K (I z.sign) h):aM prog Yl #[.agg #[.bool s,.slice A n c]] h K:=by
 have d:=i.zero_iff
 have b:=i.sg
 refine B4k _ _ _ _ ?_
 unfold C0b
 refine Br.of (fun e=>?_) (fun e=>?_)
 ·have a:z<0:=by rw [b] at e;simpa using e
  rw [aH a] at hK;exact hK
 ·have a:¬ z<0:=by rw [b] at e;simpa using e
  refine D9 (fun e=>?_) (fun e=>?_)
  ·have:z=0:=by omega
   subst this;exact hK
  ·rw [aD (by omega)] at hK;exact hK
def Xr(i:NI h s A n c z)(hK:∀ s,NI h s A n c (-z)->K (.agg #[.bool s,.slice A n c]) h):aM prog A1j #[.agg #[.bool s,.slice A n c]] h K:=by
 refine B8a _ _ _ _ ?_
 unfold C3i
 refine J9 i.mag i.cap ?_
 intro d b
 refine ⟨_,_,_,_,rfl,hK _ ?_⟩
 have:(if (!s)=true then -(z.natAbs:Int) else (z.natAbs:Int))= -z:=by
  rw [i.sg]
  by_cases a:z<0
  ·rw [iN (by simpa using a)];omega
  ·rw [iP (by simpa using a)];omega
 rw [this] at b;exact b
def A5o(ia:NI h s A n c x)(ib:NI h s' B n' c' y)(hx:ZB m x)(hy:ZB m y)(hm:m<=1000000000)(hK:∀ s A n c h',h.le h'->NI h' s A n c (x+y)->K (.agg #[.bool s,.slice A n c]) h'):aM prog A5i #[.agg #[.bool s,.slice A n c],.agg #[.bool s',.slice B n' c']] h K:=by
 have C:=ia.len hx hm
 have E:=ib.len hy hm
 refine B8d _ _ _ _ _ _ _ _ ?_
 unfold C3l
 have i:=ia.sg
 have b:=ib.sg
 refine Br.of (fun e=>?_) (fun e=>?_)
 ·have o:s=s':=by simpa using e
  refine Tc ia.mag ib.mag C E ?_
  intro A' z c1 l a j u
  refine ⟨_,_,_,rfl,a,?_⟩
  refine J9 u j ?_
  intro D p
  refine ⟨_,_,_,_,rfl,B3 _,hK _ _ _ _ _ a ?_⟩
  have:(if s=true then -((x.natAbs:Int)+y.natAbs) else (x.natAbs:Int)+y.natAbs)=x+y:=by
   rw [o] at i
   by_cases g:x<0
   ·have:s=true:=by rw [o,i];simpa using g
    rw [iP this]
    have:y<0:=by rw [b] at i;simpa [g] using i
    omega
   ·have:¬ s=true:=by rw [o,i];simpa using g
    rw [iN this]
    have:¬ y<0:=by rw [b] at i;simpa [g] using i
    omega
  rw [this] at p;exact p
 ·have o:s≠s':=by simpa using e
  refine Sr ia.mag ib.mag (by omega) ⟨_,rfl,B4 (fun l=>?_) (fun l=>?_)⟩
  ·have q:(y.natAbs:Int)<=x.natAbs:=by
    by_cases w:(x.natAbs:Int)<y.natAbs
    ·rw [iP w] at l;omega
    ·omega
   refine Qs ia.mag ib.mag q C ?_
   intro A' z c1 l a j u
   refine ⟨_,_,_,rfl,a,?_⟩
   refine J9 u j ?_
   intro D p
   refine ⟨_,_,_,_,rfl,B3 _,hK _ _ _ _ _ a ?_⟩
   have:(if s=true then -((x.natAbs:Int)-y.natAbs) else (x.natAbs:Int)-y.natAbs)=x+y:=by
    by_cases g:x<0
    ·have d:s=true:=by rw [i];simpa using g
     rw [iP d]
     have:¬ y<0:=by intro k;apply o;rw [i,b];simp [g,k]
     omega
    ·have d:¬ s=true:=by rw [i];simpa using g
     rw [iN d]
     have:y<0:=by
      by_cases k:y<0
      ·exact k
      ·exact absurd (by rw [i,b];simp [g,k]) o
     omega
   rw [this] at p;exact p
  ·have q:(x.natAbs:Int)<=y.natAbs:=by
    by_cases w:(x.natAbs:Int)<y.natAbs
    ·omega
    ·rw [iN w] at l
     by_cases r:(x.natAbs:Int)>y.natAbs
     ·rw [iP r] at l;omega
     ·rw [iN r] at l;omega
   refine Qs ib.mag ia.mag q E ?_
   intro A' z c1 l a j u
   refine ⟨_,_,_,rfl,a,?_⟩
   refine J9 u j ?_
   intro D p
   refine ⟨_,_,_,_,rfl,B3 _,hK _ _ _ _ _ a ?_⟩
   have:(if s'=true then -((y.natAbs:Int)-x.natAbs) else (y.natAbs:Int)-x.natAbs)=x+y:=by
    by_cases g:y<0
    ·have d:s'=true:=by rw [b];simpa using g
     rw [iP d]
     have:¬ x<0:=by intro k;apply o;rw [i,b];simp [g,k]
     omega
    ·have d:¬ s'=true:=by rw [b];simpa using g
     rw [iN d]
     have:x<0:=by
      by_cases k:x<0
      ·exact k
      ·exact absurd (by rw [i,b];simp [g,k]) o
     omega
   rw [this] at p;exact p
def A0k(x y:Int)(p:Nat)(hs:s=decide (x<0))(hs':s'=decide (y<0)):(if (!(s==s'))=true then -(p:Int) else (p:Int))=x.sign*y.sign*p\/x=0\/y=0:=by
 by_cases d:x=0
 ·right;left;exact d
 by_cases c:y=0
 ·right;right;exact c
 left
 by_cases a:x<0<;>by_cases b:y<0
 ·rw [aH a,aH b,iN (by rw [hs,hs'];simp [a,b])];omega
 ·rw [aH a,aD (by omega),iP (by rw [hs,hs'];simp [a,b])];omega
 ·rw [aD (by omega),aH b,iP (by rw [hs,hs'];simp [a,b])];omega
 ·rw [aD (by omega),aD (by omega),iN (by rw [hs,hs'];simp [a,b])];omega
def A67(x y:Int):x.tdiv y=x.sign*y.sign*((x.natAbs/y.natAbs:Nat):Int):=by
 have key:∀ a b:Nat,(a:Int).tdiv b=(a:Int).sign*(b:Int).sign*((a/b:Nat):Int):=by
  intro a b
  rw [<- Int.ofNat_tdiv]
  by_cases c:a=0
  ·subst c;simp
  by_cases d:b=0
  ·subst d;simp
  rw [aD (by omega),aD (by omega),Int.one_mul,Int.one_mul]
 obtain ⟨a,rfl|rfl⟩:=Int.eq_nat_or_neg x<;>obtain ⟨b,rfl|rfl⟩:=Int.eq_nat_or_neg y<;>simp only [Int.neg_tdiv,Int.tdiv_neg,Int.sign_neg,aP,aE,key]<;>grind
def Hn{m':Nat}(ia:NI h s A n c x)(ib:NI h s' B n' c' y)(hx:ZB m x)(hy:ZB m' y)(hm:m<=1000000000)(hm':m'<=1000000000)(hK:∀ s A n c h',h.le h'->NI h' s A n c (x*y)->K (.agg #[.bool s,.slice A n c]) h'):aM prog Ow #[.agg #[.bool s,.slice A n c],.agg #[.bool s',.slice B n' c']] h K:=by
 refine B8b _ _ _ _ _ _ _ _ ?_
 unfold C3j
 refine Rd ia.mag ib.mag (ia.len hx hm) (ib.len hy hm') ?_
 intro A' k c1 o a b j
 refine ⟨_,_,_,rfl,a,?_⟩
 refine J9 j b ?_
 intro l d
 refine ⟨_,_,_,_,rfl,B3 _,hK _ _ _ _ _ a ?_⟩
 have:(if (!(s==s'))=true then -((x.natAbs:Int)*y.natAbs) else (x.natAbs:Int)*y.natAbs)=x*y:=by
  rcases A0k x y (x.natAbs*y.natAbs) ia.sg ib.sg with e|e|e
  ·rw [aR] at e
   rw [e]
   have i:=Int.sign_mul_natAbs x
   have g:=Int.sign_mul_natAbs y
   have:x.sign*y.sign*((x.natAbs:Int)*y.natAbs)=(x.sign*x.natAbs)*(y.sign*y.natAbs):=by grind
   rw [this,i,g]
  ·subst e;simp
  ·subst e;simp
 rw [this] at d;exact d
def Qx(ia:NI h s A n c x)(ib:NI h s' B n' c' y)(hy0:y≠0)(hx:ZB m x)(hy:ZB m y)(hm:m<=1000000000)(hK:∀ s A n c s' B n' c' h',h.le h'->NI h' s A n c (x.tdiv y)->NI h' s' B n' c' (x.tmod y)->K (.tuple #[.agg #[.bool s,.slice A n c],.agg #[.bool s',.slice B n' c']]) h'):aM prog Ku #[.agg #[.bool s,.slice A n c],.agg #[.bool s',.slice B n' c']] h K:=by
 refine A7k _ _ _ _ _ _ _ _ ?_
 unfold B1o
 refine Sk ia.mag ib.mag (by omega) (ia.len hx hm) (ib.len hy hm) ?_
 intro A1 q c1 A2 p c2 w d a b M1 M2
 refine ⟨_,_,_,_,_,_,rfl,?_⟩
 refine J9 M1 a ?_
 intro u i
 refine ⟨_,_,_,_,rfl,B3 _,?_⟩
 refine J9 M2 b ?_
 intro r l
 refine ⟨_,_,_,_,rfl,B3 _,hK _ _ _ _ _ _ _ _ _ d ?_ ?_⟩
 ·have:(if (!(s==s'))=true then -((x.natAbs:Int)/y.natAbs) else (x.natAbs:Int)/y.natAbs)=x.tdiv y:=by
   rcases A0k x y (x.natAbs/y.natAbs) ia.sg ib.sg with e|e|e
   ·rw [bC] at e
    rw [e,A67,bC]
   ·subst e;simp
   ·exact absurd e hy0
  rw [this] at i;exact i
 ·have:(if s=true then -((x.natAbs:Int)%y.natAbs) else (x.natAbs:Int)%y.natAbs)=x.tmod y:=by
   rw [ia.sg]
   by_cases g:x<0
   ·rw [iP (by simpa using g)]
    obtain ⟨k,rfl⟩:∃ k:Nat,x= -(k:Int):=⟨x.natAbs,by omega⟩
    rw [Int.neg_tmod,aP,aE]
    congr 1
    rw [<- bL (by omega)]
    by_cases o:y<0
    ·obtain ⟨j,rfl⟩:∃ j:Nat,y= -(j:Int):=⟨y.natAbs,by omega⟩
     rw [Int.tmod_neg,aP,aE]
    ·rw [aN (by omega)]
   ·rw [iN (by simpa using g)]
    rw [aN (by omega),<- bL (by omega)]
    by_cases o:y<0
    ·obtain ⟨j,rfl⟩:∃ j:Nat,y= -(j:Int):=⟨y.natAbs,by omega⟩
     rw [Int.tmod_neg,aP,aE]
    ·rw [aN (by omega)]
  rw [this] at l;exact l
end
def I9(n:Nat):Nat:=if n=0 then 0 else Nat.log2 n+1
def A1q:I9 0=0:=rfl
def B0e{n:Nat}(h:n≠0):I9 n=I9 (n/2)+1:=by
 unfold I9
 rw [iN h]
 by_cases a:n/2=0
 ·have:n=1:=by omega
  subst this;rfl
 ·rw [iN a,Nat.log2_def n,iP (by omega)]
def Bj{n:Nat}(h:n≠0):2^(I9 n-1)<=n/\n<2^I9 n:=by
 unfold I9
 rw [iN h,Nat.add_sub_cancel]
 exact ⟨Nat.log2_self_le h,Nat.lt_log2_self⟩
def A43{n k:Nat}(h1:2^k<=n)(h2:n<2^(k+1)):I9 n=k+1:=by
 have c:n≠0:=by have:=aJ (n:=k) (show 0<2 by decide);omega
 unfold I9
 rw [iN c]
 have a:=(Nat.le_log2 c).2 h1
 have b:=(Nat.log2_lt c).2 h2
 omega
def Vu{l t j:Nat}(hl:l<2^j)(ht:t≠0):I9 (l+2^j*t)=j+I9 t:=by
 obtain ⟨a,b⟩:=Bj ht
 have c:I9 t=I9 t-1+1:=by unfold I9;rw [iN ht];omega
 have d:0<2^j:=aJ (by decide)
 rw [c,<- Nat.add_assoc]
 apply A43
 ·rw [Nat.pow_add]
  have:=aV (2^j) a
  omega
 ·rw [Nat.add_assoc,<- c,Nat.pow_add]
  have:=aV (2^j) (show t+1<=2^I9 t by omega)
  rw [Nat.mul_add] at this;omega
def Ep{n k:Nat}(h:n<2^k):I9 n<=k:=by
 by_cases a:n=0
 ·subst a;rw [A1q];omega
 ·unfold I9;rw [iN a];have:=(Nat.log2_lt a).2 h;omega
def A5m{n:Nat}:I9 n=1↔n=1:=by
 constructor
 ·intro h
  by_cases a:n=0
  ·subst a;cases h
  ·have:=Bj a
   rw [h] at this;simp at this;omega
 ·rintro rfl;rfl
def A44{n:Nat}:1<I9 n↔1<n:=by
 by_cases a:n=0
 ·subst a;simp [I9]
 by_cases b:n=1
 ·subst b;decide
 ·have c:I9 n≠0:=by unfold I9;rw [iN a];omega
  have d:I9 n≠1:=fun e=>b (A5m.1 e)
  omega
section
variable {h h':bV} {K:VP} {A B:Option bN} {n c n' c':Nat} {s s':Bool} {x y z:Int} {m:Nat}
def B3j(ia:NI h s A n c x)(ib:NI h s' B n' c' y)(hx:ZB m x)(hy:ZB m y)(hm:m<=1000000000)(hK:∀ s A n c h',h.le h'->NI h' s A n c (aL x y)->K (.agg #[.bool s,.slice A n c]) h'):aM prog A9t #[.agg #[.bool s,.slice A n c],.agg #[.bool s',.slice B n' c']] h K:=by
 refine B8c _ _ _ _ _ _ _ _ ?_
 unfold C3k
 refine ⟨fun l b=>∃ (A B:Option bN) (n c n' c' X Y:Nat),l=[.slice A n c,.slice B n' c']/\h.le b/\Mg b A n X/\Mg b B n' Y/\n<=c/\n'<=c'/\Nat.gcd X Y=aL x y/\n<=100000000/\n'<=100000000,fun l b=>match l with|[_,.slice A n _]=>A9a b32 b A n|_=>0,⟨_,_,_,_,_,_,_,_,rfl,B3 h,ia.mag,ib.mag,ia.cap,ib.cap,rfl,ia.len hx hm,ib.len hy hm⟩,?_⟩
 rintro A1 F c1 B1 w c2 b ⟨A1',B1',p,g,q,i,X,Y,C,d,M1,M2,J,G,k,z,r⟩
 obtain ⟨⟨rfl,rfl,rfl⟩,rfl,rfl,rfl⟩:(A1=A1'/\F=p/\c1=g)/\B1=B1'/\w=q/\c2=i:=by simpa using C
 have M:=M2.len_zero (by decide)
 refine B4 (fun E=>?_) (fun E=>?_)
 ·have o:Y≠0:=by omega
  refine Sk M1 M2 (by omega) z r ?_
  intro A3 R N A4 L O h' a S H M3 M4
  have e:((X:Int)%(Y:Int))=((X%Y:Nat):Int):=by omega
  rw [e] at M4
  have D:=Nat.mod_lt X (Nat.pos_of_ne_zero o)
  refine ⟨_,_,_,_,_,_,rfl,⟨_,_,_,_,_,_,Y,X%Y,rfl,A0 d a,M2.mono a,M4,G,H,?_,r,?_⟩,?_⟩
  ·rw [<- k,Nat.gcd_comm X Y,Nat.gcd_rec Y X,Nat.gcd_comm]
  ·have:=M4.len_le (by decide) (j:=w) (Int.lt_trans (show ((X%Y:Nat):Int)<(Y:Int) by omega) (M2.lt (by decide)))
   omega
  ·simp only [Y3 M4,Y3 M2];omega
 ·have o:Y=0:=by omega
  subst o
  rw [Nat.gcd_zero_right] at k
  refine J9 M1 J ?_
  intro Q u
  refine ⟨_,_,_,_,rfl,hK _ _ _ _ _ d ?_⟩
  rw [k] at u
  exact u
def A1r(i:NI h s A n c z)(hz:ZB m z)(hm:m<=1000000000)(hK:K (I (I9 z.natAbs)) h):aM prog Ym #[.agg #[.bool s,.slice A n c]] h K:=by
 have R:=i.len hz hm
 have w:=i.zero_iff
 refine B4t _ _ _ _ ?_
 unfold C0k
 refine D9 (fun e=>?_) (fun e=>?_)
 ·have:z=0:=w.1 (by omega)
  subst this;exact hK
 ·obtain ⟨a,g,N,j,D,G⟩:=i.mag
  obtain ⟨k,hk⟩:∃ k,a.length=k+1:=⟨a.length-1,by omega⟩
  have y:B5 ((n:Int)-1)=(k:Int):=by rw [B6 (by omega) (by omega)];omega
  have F:B5 (32*(k:Int))=((32*k:Nat):Int):=by rw [B6 (by omega) (by omega)];omega
  rw [y,F]
  refine N.load g (by omega) (by omega) ?_
  rw [aQ]
  have u:=Aj j k
  have S:=A09 hk D
  have Q:32*k+I9 (a.getD k 0).toNat=I9 z.natAbs:=by
   have q:=F2 b32 a k
   rw [<- hk,bB] at q
   have B:=I5 (by decide) (j.take k)
   have L:=C5 (by decide) (j.take k)
   rw [List.length_take,bH (by omega)] at B
   have E:b32^k=((2^(32*k):Nat):Int):=by
    rw [show b32=(2:Int)^32 by decide,<- Int.pow_mul];simp
   have o:z.natAbs=(val b32 (a.take k)).toNat+2^(32*k)*(a.getD k 0).toNat:=by
    have:((z.natAbs:Nat):Int)=(((val b32 (a.take k)).toNat+2^(32*k)*(a.getD k 0).toNat:Nat):Int):=by
     rw [<- G,q,Int.natCast_add,aR,<- E,aW L,aW u.1]
    omega
   rw [o,Vu (by omega) (by omega)]
  refine ⟨fun l r=>∃ (t k:Nat),l=[I k,U32 t]/\r=h/\k+I9 t=I9 z.natAbs/\t<4294967296,fun l _=>(iAt l 1).toNat,⟨(a.getD k 0).toNat,32*k,?_,rfl,Q,by omega⟩,?_⟩
  ·rw [aW u.1]
  ·rintro O C r ⟨t,d,p,rfl,b,H⟩
   obtain ⟨rfl,rfl⟩:O=(d:Int)/\C=(t:Int):=by simpa using p
   have M:I9 z.natAbs<=m:=Ep hz
   refine B4 (fun J=>?_) (fun J=>?_)
   ·have o:Int.fdiv (t:Int) (2^(min ((1:Int)).toNat 32))=((t/2:Nat):Int):=by
     rw [show (2:Int)^(min ((1:Int)).toNat 32)=2 by decide,Int.fdiv_eq_ediv_of_nonneg _ (by decide)];omega
    have T:=B0e (n:=t) (by omega)
    have x:B5 ((d:Int)+1)=((d+1:Nat):Int):=by rw [B6 (by omega) (by omega)];omega
    rw [o,x]
    exact ⟨⟨t/2,d+1,rfl,rfl,by omega,by omega⟩,by simp only [iAt,bO,List.getElem?_cons_succ];omega⟩
   ·have:t=0:=by omega
    subst this
    rw [A1q,Nat.add_zero] at b
    rw [b];exact hK
end
structure QV where
 s:Bool
 A:Option bN
 n:Nat
 c:Nat
 s2:Bool
 A2:Option bN
 n2:Nat
 c2:Nat
abbrev QV.v(w:QV):Value:=.agg #[.bool w.s,.slice w.A w.n w.c,.bool w.s2,.slice w.A2 w.n2 w.c2]
structure NQ (h:bV) (w:QV) (q:Rat):Prop where
 num:NI h w.s w.A w.n w.c q.num
 den:NI h w.s2 w.A2 w.n2 w.c2 (if q.den=1 then 0 else (q.den:Int))
structure Sz (m:Nat) (q:Rat):Prop where
 num:ZB m q.num
 den:ZB m q.den
def Sz.mono{m n:Nat}{q:Rat}(h:Sz m q)(hm:m<=n):Sz n q:=⟨h.num.mono hm,h.den.mono hm⟩
def Sz.neg{m:Nat}{q:Rat}(h:Sz m q):Sz m (-q):=⟨by rw [Rat.neg_num];exact h.num.neg,by rw [Rat.neg_den];exact h.den⟩
def Sm{a b:Int}(hb:b≠0):(aF a b).num.natAbs<=a.natAbs/\(aF a b).den<=b.natAbs:=by
 have d:0<aL b a:=Int.gcd_pos_of_ne_zero_left a hb
 rw [Rat.num_divInt,Rat.den_divInt,iN hb]
 constructor
 ·have c:(aL b a:Int)∣b.sign*a:=Int.dvd_mul_of_dvd_right (aZ b a)
  rw [Int.natAbs_ediv_of_dvd c,bM,aE]
  have:b.sign.natAbs=1:=by
   rw [Int.natAbs_sign];simp [hb]
  rw [this,Nat.one_mul]
  exact Nat.div_le_self _ _
 ·exact Nat.div_le_self _ _
def Tq{m:Nat}{a b:Int}(hb:b≠0)(h1:ZB m a)(h2:ZB m b):Sz m (aF a b):=by
 have:=Sm (a:=a) hb
 exact ⟨h1.le this.1,h2.le (by simpa using this.2)⟩
def Hx(p q:Rat):p+q=aF (p.num*q.den+q.num*p.den) (p.den*q.den):=by
 rw [Rat.add_def',<- aR,bA]
def Ho(p q:Rat):p*q=aF (p.num*q.num) (p.den*q.den):=by
 rw [Rat.mul_def',<- aR,bA]
def Np(z:Int):aF z 1=(z:Rat):=by
 show aF z ((1:Nat):Int)=_
 rw [bA]
 apply Rat.ext
 ·rw [Rat.num_mkRat];simp
 ·rw [Rat.den_mkRat];simp
def den_ne(q:Rat):(q.den:Int)≠0:=by have:=q.den_nz;omega
def A6r(p q:Rat):p/q=aF (p.num*q.den) (p.den*q.num):=by
 rw [Rat.div_def,<- aO p,<- aO q,Rat.inv_divInt,Rat.divInt_mul_divInt]
 rw [aO,aO]
def Sz.add{m n:Nat}{p q:Rat}(hp:Sz m p)(hq:Sz n q):Sz (m+n+1) (p+q):=by
 rw [Hx]
 refine Tq (aS (den_ne p) (den_ne q)) ?_ ((hp.den.mul hq.den).mono (by omega))
 exact (hp.num.mul hq.den).add ((hq.num.mul hp.den).mono (by omega))
def Sz.mul{m n:Nat}{p q:Rat}(hp:Sz m p)(hq:Sz n q):Sz (m+n) (p*q):=by
 rw [Ho]
 exact Tq (aS (den_ne p) (den_ne q)) (hp.num.mul hq.num) (hp.den.mul hq.den)
def Sz.zero{m:Nat}(hm:1<=m):Sz m 0:=⟨ZB.zero,ZB.one hm⟩
def Sz.inv{m:Nat}{q:Rat}(h:Sz m q)(hm:1<=m):Sz m q⁻¹:=by
 constructor
 ·rw [Rat.num_inv]
  refine h.den.le ?_
  rw [bM]
  by_cases a:q.num=0
  ·rw [a];simp
  ·rw [Int.natAbs_sign];simp [a]
 ·rw [Rat.den_inv]
  split
  ·exact ZB.one hm
  ·have:=h.num
   unfold ZB at *
   simpa using this
def Sz.div{m n:Nat}{p q:Rat}(hp:Sz m p)(hq:Sz n q)(hn:1<=n):Sz (m+n) (p/q):=by
 rw [Rat.div_def];exact hp.mul (hq.inv hn)
def Sz.int{m:Nat}{z:Int}(h:ZB m z)(hm:1<=m):Sz m (z:Rat):=⟨by simpa using h,by simpa using ZB.one hm⟩
section
variable {h h':bV} {K:VP} {A B:Option bN} {n c n' c':Nat} {s s':Bool} {x y z:Int} {m:Nat} {p q:Rat} {a b w:QV}
def NQ.mono(hl:h.le h')(i:NQ h w q):NQ h' w q:=⟨i.num.mono hl,i.den.mono hl⟩
def NQ.whole(i:NI h s A n c z){B:Option bN}:NQ h ⟨s,A,n,c,false,B,0,0⟩ (z:Rat):=⟨by simpa using i,by simpa using NI.nil⟩
def NQ.den_zero(i:NQ h w q):w.n2=0↔q.den=1:=by
 rw [i.den.zero_iff]
 have:=q.den_nz
 split<;>omega
def NQ.zero:NQ h ⟨false,none,0,0,false,none,0,0⟩ 0:=⟨NI.nil,NI.nil⟩
def De(i:NQ h w q)(hK:∀ s A n c h',h.le h'->NI h' s A n c q.den->K (.agg #[.bool s,.slice A n c]) h'):aM prog Gh #[w.v] h K:=by
 refine B4s _ _ _ _ _ _ _ _ ?_
 unfold C0j
 have a:=i.den_zero
 refine D9 (fun e=>?_) (fun e=>?_)
 ·refine Ol (by decide) ?_
  intro s A n c k d j
  refine ⟨_,_,_,_,rfl,hK _ _ _ _ _ d ?_⟩
  rw [a.1 (by omega)];exact j
 ·have b:=i.den
  rw [iN (fun g=>e (by have:=a.2 g;omega))] at b
  exact hK _ _ _ _ _ (B3 h) b
def Rm(ix:NI h s A n c x)(iy:NI h s' B n' c' y)(hy0:y≠0)(hx:ZB m x)(hy:ZB m y)(hm:m<=1000000000)(hK:∀ w h',h.le h'->NQ h' w (aF x y)->K w.v h'):aM prog Sa #[.agg #[.bool s,.slice A n c],.agg #[.bool s',.slice B n' c']] h K:=by
 refine B4r _ _ _ _ _ _ _ _ ?_
 unfold C0i
 refine ⟨fun l o=>∃ s A n c s' B n' c' d g,l=[.bool s,.slice A n c,.bool s',.slice B n' c']/\h.le o/\NI o s A n c d/\NI o s' B n' c' g/\0<g/\aF d g=aF x y/\ZB m d/\ZB m g,Br.of (fun e=>?_) (fun e=>?_),?_⟩
 ·have ak:y<0:=by have:=iy.sg;rw [e] at this;simpa using this.symm
  refine Xr ix ?_
  intro s1 z
  refine ⟨_,_,_,_,rfl,B3 h,?_⟩
  refine Xr iy ?_
  intro s2 F
  exact ⟨_,_,_,_,rfl,B3 h,_,_,_,_,_,_,_,_,-x,-y,rfl,B3 h,z,F,by omega,Rat.neg_divInt_neg x y,hx.neg,hy.neg⟩
 ·have k:0<y:=by have:=iy.sg;rw [e] at this;have:¬ y<0:=by simpa using this.symm
                 omega
  exact ⟨_,_,_,_,_,_,_,_,x,y,rfl,B3 h,ix,iy,k,rfl,hx,hy⟩
 rintro s1 A1 n1 c1 s2 A2 n2 c2 an ⟨aj,A1',ab,N,aa,A2',ac,T,d,g,hl,C,z,F,k,hq,D,p⟩
 obtain ⟨rfl,⟨rfl,rfl,rfl⟩,rfl,rfl,rfl,rfl⟩:s1=aj/\(A1=A1'/\n1=ab/\c1=N)/\s2=aa/\A2=A2'/\n2=ac/\c2=T:=by simpa using hl
 refine B3j z F D p hm ?_
 intro s3 A3 n3 c3 h3 u S
 refine ⟨_,_,_,_,rfl,?_⟩
 rw [<- hq] at hK
 generalize hqq:aF d g=q at *
 have j:q.num=d/(aL d g:Int):=by
  rw [<- hqq,Rat.num_divInt,aD k,Int.one_mul,Int.gcd_comm]
 have i:(q.den:Int)=g/(aL d g:Int):=by
  rw [<- hqq,Rat.den_divInt,iN (by omega),Int.gcd_comm,bC,aN (by omega)]
 have am:0<aL d g:=Int.gcd_pos_of_ne_zero_right d (by omega)
 have r:ZB m (aL d g:Int):=by
  refine p.le ?_
  rw [aE]
  exact Nat.le_of_dvd (by omega) (by have:=aZ d g;exact Int.ofNat_dvd_left.1 this)
 refine ⟨fun l o=>∃ s A n c s' B n' c',l=[.bool s,.slice A n c,.bool s',.slice B n' c']/\h.le o/\NI o s A n c q.num/\NI o s' B n' c' q.den,?_,?_⟩
 ·refine A1r S r hm ⟨_,rfl,?_⟩
  rw [aE]
  refine B4 (fun e=>?_) (fun e=>?_)
  ·refine Qx (z.mono u) S (by omega) D r hm ?_
   intro Q A4 n4 c4 s5 A5 n5 c5 h4 l4 G _
   refine ⟨_,_,_,_,_,_,_,_,rfl,?_⟩
   refine Qx ((F.mono u).mono l4) (S.mono l4) (by omega) p r hm ?_
   intro s6 A6 X c6 s7 A7 n7 c7 h5 l5 H _
   have L:d.tdiv (aL d g:Int)=q.num:=by rw [j,bU (Int.gcd_dvd_left d g)]
   have e2:g.tdiv (aL d g:Int)=q.den:=by rw [i,bU (aZ d g)]
   rw [L] at G
   rw [e2] at H
   exact ⟨_,_,_,_,_,_,_,_,rfl,_,_,_,_,_,_,_,_,rfl,A0 C (A0 u (A0 l4 l5)),G.mono l5,H⟩
  ·have hg:aL d g=1:=by
    have:¬ 1<I9 (aL d g):=by omega
    rw [A44] at this;omega
   rw [hg] at j i
   simp at j i
   exact ⟨_,_,_,_,_,_,_,_,rfl,A0 C u,by rw [j];exact z.mono u,by rw [i];exact F.mono u⟩
 rintro Q A4 n4 c4 s5 A5 n5 c5 W ⟨O,A4',ag,V,J,A5',ai,ad,af,E,G,i5⟩
 obtain ⟨rfl,⟨rfl,rfl,rfl⟩,rfl,rfl,rfl,rfl⟩:Q=O/\(A4=A4'/\n4=ag/\c4=V)/\s5=J/\A5=A5'/\n5=ai/\c5=ad:=by simpa using af
 have R:ZB m (q.den:Int):=by
  refine p.le ?_
  have:=(Sm (a:=d) (b:=g) (by omega)).2
  rw [hqq] at this
  simpa using this
 refine ⟨fun l o=>∃ s' B n' c',l=[.bool s',.slice B n' c']/\o=W/\NI o s' B n' c' (if q.den=1 then 0 else (q.den:Int)),?_,?_⟩
 ·refine A1r i5 R hm ⟨_,rfl,?_⟩
  rw [aE]
  refine D9 (fun e=>?_) (fun e=>?_)
  ·have:q.den=1:=A5m.1 (by omega)
   exact ⟨_,_,_,_,rfl,rfl,by rw [iP this];exact NI.nil⟩
  ·have:¬ q.den=1:=fun L=>e (by rw [L];rfl)
   exact ⟨_,_,_,_,rfl,rfl,by rw [iN this];exact i5⟩
 rintro s6 A6 X c6 al ⟨Z,A6',ah,ae,M,rfl,H⟩
 obtain ⟨rfl,rfl,rfl,rfl⟩:s6=Z/\A6=A6'/\X=ah/\c6=ae:=by simpa using M
 exact hK ⟨Q,A4,n4,c4,s6,A6,X,c6⟩ _ E ⟨G,H⟩
def B96(hz: -9223372036854775808<=z/\z<=9223372036854775807)(hK:∀ w h',h.le h'->NQ h' w (z:Rat)->K w.v h'):aM prog C22 #[I z] h K:=by
 refine C2h _ ?_
 unfold NR
 refine Ol hz ?_
 intro s A n c d b a
 exact ⟨_,_,_,_,rfl,hK ⟨s,A,n,c,false,none,0,0⟩ _ b (NQ.whole a)⟩
def Uz(i:NQ h w q)(hK:K (I q.num.sign) h):aM prog Qe #[w.v] h K:=by
 refine B1n _ _ _ _ _ _ _ _ ?_
 unfold B65
 exact A0l i.num ⟨_,rfl,hK⟩
def A8s(i:NQ h w q)(hK:∀ w,NQ h w (-q)->K w.v h):aM prog A3v #[w.v] h K:=by
 refine B4n _ _ _ _ _ _ _ _ ?_
 unfold C0e
 refine Xr i.num ?_
 intro b a
 exact ⟨_,_,_,_,rfl,B3 h,hK ⟨b,w.A,w.n,w.c,w.s2,w.A2,w.n2,w.c2⟩ ⟨a,i.den⟩⟩
def Qw(ia:NQ h a p)(ib:NQ h b q)(hp:Sz m p)(hq:Sz m q)(hm:m<=400000000)(hK:∀ w h',h.le h'->NQ h' w (p+q)->K w.v h'):aM prog Rz #[a.v,b.v] h K:=by
 have n:=ia.den_zero
 have O:=ib.den_zero
 refine B4q _ _ _ _ _ _ _ _ _ _ _ _ _ _ _ _ ?_
 unfold C0h
 refine ⟨fun l h'=>l=[.bool (decide (p.den=1/\q.den=1))]/\h'=h,D9 (fun e=>?_) (fun e=>?_),?_⟩
 ·have r:p.den=1:=n.1 (by omega)
  refine ⟨?_,rfl⟩
  have:((b.n2:Int)==0)=decide (p.den=1/\q.den=1):=by
   rw [Bool.eq_iff_iff];simp [r];omega
  rw [this]
 ·have r:¬ p.den=1:=fun J=>e (by have:=n.2 J;omega)
  exact ⟨by simp [r],rfl⟩
 rintro t T ⟨N,rfl⟩
 obtain rfl:t=decide (p.den=1/\q.den=1):=by simpa using N
 have i:=hp.num;have d:=hp.den;have g:=hq.num;have c:=hq.den
 refine B4 (fun e=>?_) (fun e=>?_)
 ·refine A5o ia.num ib.num i g (by omega) ?_
  intro E A1 D c1 r k x
  refine ⟨_,_,_,_,rfl,hK ⟨E,A1,D,c1,false,none,0,0⟩ _ k ?_⟩
  have:p+q=((p.num+q.num:Int):Rat):=by
   rw [Hx,e.1,e.2]
   show aF (p.num*1+q.num*1) (1*1)=_
   rw [aU,aU,aU,Np]
  rw [this];exact NQ.whole x
 ·refine De ib ?_
  intro E A1 D c1 r k x
  refine ⟨_,_,_,_,rfl,k,?_⟩
  refine Hn (ia.num.mono k) x i c (by omega) (by omega) ?_
  intro s2 A2 n2 c2 h2 z S
  refine ⟨_,_,_,_,rfl,z,?_⟩
  refine De (ia.mono (A0 k z)) ?_
  intro s3 A3 n3 c3 h3 B Q
  refine ⟨_,_,_,_,rfl,B,?_⟩
  have o:=A0 k (A0 z B)
  refine Hn (ib.num.mono o) Q g d (by omega) (by omega) ?_
  intro Z A4 n4 c4 h4 A M
  refine ⟨_,_,_,_,rfl,A,?_⟩
  refine A5o (S.mono (A0 B A)) M (i.mul c) (g.mul d) (by omega) ?_
  intro s5 A5 X c5 h5 C H
  refine ⟨_,_,_,_,rfl,C,?_⟩
  have j:=A0 o (A0 A C)
  refine De (ia.mono j) ?_
  intro s6 A6 n6 c6 W s R
  refine ⟨_,_,_,_,rfl,s,?_⟩
  refine De (ib.mono (A0 j s)) ?_
  intro s7 A7 n7 c7 h7 u L
  refine ⟨_,_,_,_,rfl,u,?_⟩
  refine Hn (R.mono u) L d c (by omega) (by omega) ?_
  intro s8 A8 n8 c8 h8 y V
  refine ⟨_,_,_,_,rfl,y,?_⟩
  refine Rm (m:=m+m+1) (H.mono (A0 s (A0 u y))) V (aS (den_ne p) (den_ne q)) ((i.mul c).add (g.mul d)) ((d.mul c).mono (by omega)) (by omega) ?_
  intro w h9 G F
  rw [<- Hx] at F
  exact ⟨_,_,_,_,_,_,_,_,rfl,G,hK w _ (A0 j (A0 s (A0 u (A0 y G)))) F⟩
def A8r(ia:NQ h a p)(ib:NQ h b q)(hp:Sz m p)(hq:Sz m q)(hm:m<=400000000)(hK:∀ w h',h.le h'->NQ h' w (p-q)->K w.v h'):aM prog A3u #[a.v,b.v] h K:=by
 refine B4m _ _ _ _ _ _ _ _ _ _ _ _ _ _ _ _ ?_
 unfold C0d
 refine A8s ib ?_
 intro w i
 refine ⟨_,_,_,_,_,_,_,_,rfl,B3 h,?_⟩
 refine Qw ia i hp hq.neg hm ?_
 intro e g c d
 rw [<- Rat.sub_eq_add_neg] at d
 exact ⟨_,_,_,_,_,_,_,_,rfl,c,hK e _ c d⟩
def Ba(ia:NQ h a p)(ib:NQ h b q)(hp:Sz m p)(hq:Sz m q)(hm:m<=400000000)(hK:∀ w h',h.le h'->NQ h' w (p*q)->K w.v h'):aM prog Eh #[a.v,b.v] h K:=by
 have i:=ia.den_zero
 have E:=ib.den_zero
 refine B4o _ _ _ _ _ _ _ _ _ _ _ _ _ _ _ _ ?_
 unfold C0f
 refine ⟨fun l h'=>l=[.bool (decide (p.den=1/\q.den=1))]/\h'=h,D9 (fun e=>?_) (fun e=>?_),?_⟩
 ·have k:p.den=1:=i.1 (by omega)
  refine ⟨?_,rfl⟩
  have:((b.n2:Int)==0)=decide (p.den=1/\q.den=1):=by
   rw [Bool.eq_iff_iff];simp [k];omega
  rw [this]
 ·have k:¬ p.den=1:=fun B=>e (by have:=i.2 B;omega)
  exact ⟨by simp [k],rfl⟩
 rintro t H ⟨D,rfl⟩
 obtain rfl:t=decide (p.den=1/\q.den=1):=by simpa using D
 have d:=hp.num;have n:=hp.den;have c:=hq.num;have j:=hq.den
 refine B4 (fun e=>?_) (fun e=>?_)
 ·refine Hn ia.num ib.num d c (by omega) (by omega) ?_
  intro y A1 x c1 k g s
  refine ⟨_,_,_,_,rfl,hK ⟨y,A1,x,c1,false,none,0,0⟩ _ g ?_⟩
  have:p*q=((p.num*q.num:Int):Rat):=by
   rw [Ho,e.1,e.2]
   show aF (p.num*q.num) (1*1)=_
   rw [aU,Np]
  rw [this];exact NQ.whole s
 ·refine Hn ia.num ib.num d c (by omega) (by omega) ?_
  intro y A1 x c1 k g s
  refine ⟨_,_,_,_,rfl,g,?_⟩
  refine De (ia.mono g) ?_
  intro V A2 M c2 Q o G
  refine ⟨_,_,_,_,rfl,o,?_⟩
  refine De (ib.mono (A0 g o)) ?_
  intro R A3 T L X r F
  refine ⟨_,_,_,_,rfl,r,?_⟩
  refine Hn (G.mono r) F n j (by omega) (by omega) ?_
  intro J A4 O N W u C
  refine ⟨_,_,_,_,rfl,u,?_⟩
  refine Rm (m:=m+m) (s.mono (A0 o (A0 r u))) C (aS (den_ne p) (den_ne q)) (d.mul c) (n.mul j) (by omega) ?_
  intro w S A z
  rw [<- Ho] at z
  exact ⟨_,_,_,_,_,_,_,_,rfl,A,hK w _ (A0 g (A0 o (A0 r (A0 u A)))) z⟩
def Cw(ia:NQ h a p)(ib:NQ h b q)(hp:Sz m p)(hq:Sz m q)(hm:m<=400000000)(hK:K (I (p-q).num.sign) h):aM prog Gg #[a.v,b.v] h K:=by
 refine FCall.pure (B4p _ _ _ _ _ _ _ _ _ _ _ _ _ _ _ _ ?_)
 unfold C0g
 refine A8r ia ib hp hq hm ?_
 intro w e d c
 refine ⟨_,_,_,_,_,_,_,_,rfl,?_⟩
 exact Uz c ⟨_,rfl,d,hK⟩
end
def dch(d:Nat):UInt8:=UInt8.ofNat (48+d)
def Df{d:Nat}(h:d<10):(dch d).toNat=48+d:=by
 unfold dch;rw [UInt8.toNat_ofNat'];omega
def F8(c:UInt8):Prop:=48<=c.toNat/\c.toNat<=57
instance (c:UInt8):Decidable (F8 c):=by unfold F8;infer_instance
def B7k{d:Nat}(h:d<10):F8 (dch d):=by unfold F8;rw [Df h];omega
def B5i{c:UInt8}(h:F8 c):dch (c.toNat-48)=c:=by
 unfold F8 at h
 apply UInt8.toNat_inj.1
 rw [Df (by omega)];omega
def dd(n:Nat):List UInt8:=if _h:n=0 then [] else dd (n/10)++[dch (n%10)]
def F7:dd 0=[]:=by unfold dd;simp
def N5{n:Nat}(h:n≠0):dd n=dd (n/10)++[dch (n%10)]:=by rw [dd];simp [h]
def H4(l:List UInt8):Nat:=l.foldl (fun a c=>10*a+(c.toNat-48)) 0
def Gq(l:List UInt8)(c:UInt8):H4 (l++[c])=10*H4 l+(c.toNat-48):=by simp [H4]
def B7h(l:List UInt8):∀ a,l.foldl (fun a c=>10*a+(c.toNat-48)) a=a*10^l.length+H4 l:=by
 induction l with
 | nil=>intro a;simp [H4]
 | cons c l ih=>
  intro a
  unfold H4
  rw [List.foldl_cons,List.foldl_cons,ih,ih,List.length_cons,aK]
  grind
def En(a b:List UInt8):H4 (a++b)=H4 a*10^b.length+H4 b:=by
 unfold H4;rw [List.foldl_append,B7h b];rfl
def B00(c:UInt8)(l:List UInt8):H4 (c::l)=(c.toNat-48)*10^l.length+H4 l:=by
 rw [<- List.singleton_append,En];simp [H4]
def Em{l:List UInt8}(h:∀ c∈l,F8 c):H4 l<10^l.length:=by
 induction l with
 | nil=>simp [H4]
 | cons c l ih=>
  have d:=ih fun x b=>h x (by simp [b])
  have a:=h c (by simp)
  unfold F8 at a
  rw [B00,List.length_cons,aK]
  have:(c.toNat-48)*10^l.length<=9*10^l.length:=Nat.mul_le_mul_right _ (by omega)
  omega
def B7i(n:Nat):H4 (dd n)=n:=by
 induction n using bG with
 | _ n ih=>
  by_cases h:n=0
  ·subst h;rw [F7];rfl
  ·rw [N5 h,Gq,ih _ (by omega),Df (by omega)];omega
def B9s(n:Nat):∀ c∈dd n,F8 c:=by
 induction n using bG with
 | _ n ih=>
  by_cases h:n=0
  ·subst h;rw [F7];simp
  ·rw [N5 h]
   intro c b
   rcases List.mem_append.1 b with a|a
   ·exact ih _ (by omega) c a
   ·rw [List.mem_singleton.1 a];exact B7k (by omega)
def B3w{n:Nat}(h:n≠0):dd n≠[]:=by rw [N5 h];simp
def B06(n:Nat)(h:n≠0):(dd n).head? ≠ some 48:=by
 induction n using bG with
 | _ n ih=>
  rw [N5 h]
  by_cases a:n/10=0
  ·rw [a,F7]
   simp only [bI,List.head?_cons,ne_eq,Option.some.injEq]
   intro e
   have:=Df (d:=n%10) (by omega)
   rw [e] at this
   simp at this
   omega
  ·have:=ih _ (by omega) a
   obtain ⟨c,r,e⟩:=bK (B3w a)
   rw [e] at this ⊢
   simpa using this
def B07{l:List UInt8}(h:∀ c∈l,F8 c)(h0:l.head? ≠ some 48):dd (H4 l)=l:=by
 obtain ⟨n,g⟩:∃ n,l.length=n:=⟨_,rfl⟩
 induction n generalizing l with
 | zero=>rw [bD g];exact F7
 | succ n ih=>
  obtain ⟨m,c,rfl⟩:∃ m c,l=m++[c]:=by
   refine ⟨l.dropLast,l.getLast (by rintro rfl;simp at g),?_⟩
   rw [List.dropLast_concat_getLast]
  have i:=h c (by simp)
  have b:=i
  unfold F8 at b
  rw [Gq]
  cases m with
  | nil=>
   simp at h0
   have o:c.toNat-48≠0:=by
    intro e
    apply h0
    apply UInt8.toNat_inj.1
    show c.toNat=48
    omega
   rw [N5 (by simp [H4];omega)]
   simp only [H4,List.foldl_nil,bI]
   rw [show (10*0+(c.toNat-48))/10=0 by omega,F7,show (10*0+(c.toNat-48))%10=c.toNat-48 by omega,B5i i];rfl
  | cons d m=>
   have a:=ih (l:=d::m) (fun x k=>h x (by simp at k ⊢;rcases k with h|h<;>simp [h])) (by simpa using h0) (by simpa using g)
   have j:H4 (d::m)≠0:=by
    intro e
    rw [e,F7] at a
    cases a
   rw [N5 (by omega),show (10*H4 (d::m)+(c.toNat-48))/10=H4 (d::m) by omega,a,show (10*H4 (d::m)+(c.toNat-48))%10=c.toNat-48 by omega,B5i i]
def N6{n k:Nat}:(dd n).length<=k↔n<10^k:=by
 induction k generalizing n with
 | zero=>
  constructor
  ·intro h
   have:dd n=[]:=bD (by omega)
   by_cases a:n=0
   ·subst a;decide
   ·exact absurd this (B3w a)
  ·intro h
   have:n=0:=by simp at h;exact h
   subst this;rw [F7];simp
 | succ k ih=>
  by_cases a:n=0
  ·subst a;rw [F7];simp [aJ]
  ·rw [N5 a,aX,List.length_singleton,Nat.add_le_add_iff_right,ih,aK]
   omega
def pad(w n:Nat):List UInt8:=List.replicate (w-(dd n).length) 48++dd n
def A4y(n:Nat):pad 0 n=dd n:=by simp [pad]
def Vh{w n:Nat}(h:n<10^w):(pad w n).length=w:=by
 have:=N6.2 h
 simp [pad];omega
def Py(w n:Nat):pad (w+1) n=pad w (n/10)++[dch (n%10)]:=by
 unfold pad
 by_cases h:n=0
 ·subst h
  rw [F7]
  simp only [List.length_nil,Nat.sub_zero,List.append_nil,Nat.zero_mod]
  rw [List.replicate_succ'];rfl
 ·rw [N5 h,aX,List.length_singleton,Nat.add_sub_add_right,aI]
def B9r{h l k:Nat}(h0:h≠0)(hl:l<10^k):dd (h*10^k+l)=dd h++pad k l:=by
 induction k generalizing l with
 | zero=>
  have:l=0:=by simpa using hl
  subst this;simp [pad,F7]
 | succ k ih=>
  have d:0<10^k:=aJ (by decide)
  have a:h*10^(k+1)+l≠0:=by
   have:0<h*10^(k+1):=Nat.mul_pos (by omega) (aJ (by decide))
   omega
  have b:(h*10^(k+1)+l)/10=h*10^k+l/10:=by
   rw [aK,<- Nat.mul_assoc];omega
  have c:(h*10^(k+1)+l)%10=l%10:=by
   rw [aK,<- Nat.mul_assoc];omega
  rw [N5 a,b,c,ih (by rw [aK] at hl;omega),Py,aI]
def A0x{w h l k:Nat}(hl:l<10^k)(hw:h≠0\/k<=w):pad w (h*10^k+l)=pad (w-k) h++pad k l:=by
 by_cases b:h=0
 ·subst b
  have c:k<=w:=by
   rcases hw with h|h
   ·exact absurd rfl h
   ·exact h
  have:=N6.2 hl
  unfold pad
  rw [F7]
  simp only [Nat.zero_mul,Nat.zero_add,List.length_nil,Nat.sub_zero,List.append_nil,<- aI,List.replicate_append_replicate]
  congr 2;omega
 ·have e:=B9r b hl
  have a:=Vh hl
  unfold pad at a
  unfold pad at e ⊢
  rw [e,aX,a,<- aI]
  congr 3;omega
def J3(n:Nat):List UInt8:=if n=0 then [48] else dd n
def V8{n:Nat}(h:n≠0):J3 n=dd n:=by simp [J3,h]
def X7(n:Nat):H4 (J3 n)=n:=by
 unfold J3;split
 ·rename_i h;subst h;rfl
 ·exact B7i n
def Li(n:Nat):∀ c∈J3 n,F8 c:=by
 unfold J3;split
 ·intro c a;rw [List.mem_singleton.1 a];decide
 ·exact B9s n
def Sn(n:Nat):J3 n≠[]:=by
 unfold J3;split
 ·simp
 ·rename_i h;exact B3w h
def B3v{a b:Nat}(h:J3 a=J3 b):a=b:=by rw [<- X7 a,h,X7]
def Lh{l:List UInt8}(h:∀ c∈l,F8 c)(hn:l≠[])(h0:l.head? ≠ some 48\/l=[48]):J3 (H4 l)=l:=by
 rcases h0 with h0|h0
 ·have:=B07 h h0
  rw [V8,this]
  intro e
  rw [e,F7] at this
  exact hn this.symm
 ·subst h0;rfl
def Lg{n k:Nat}(hk:0<k):(J3 n).length<=k↔n<10^k:=by
 by_cases h:n=0
 ·subst h;have:0<10^k:=aJ (by decide);simp [J3];omega
 ·rw [V8 h];exact N6
def Dp(z:Int):List UInt8:=if z<0 then 45::J3 z.natAbs else J3 z.natAbs
def E4(q:Rat):List UInt8:=Dp q.num++(if q.den=1 then [] else 47::J3 q.den)
structure Form (s:List UInt8) (neg:Bool) (a b:List UInt8):Prop where
 eq:s=(if neg then [45] else [])++a++(if b=[] then [] else 47::b)
 da:∀ c∈a,F8 c
 db:∀ c∈b,F8 c
 ne:a≠[]
 ha:a.head? ≠ some 48\/(a=[48]/\neg=false/\b=[])
 hb:b.head? ≠ some 48
 b1:b≠[49]
def A57{c:UInt8}(h:F8 c):c≠45/\c≠47:=by
 unfold F8 at h
 constructor<;>(rintro rfl;revert h;decide)
def Ds{a r:List UInt8}(h:∀ c∈a,F8 c)(hr:∀ c,r.head? = some c->¬ F8 c):(a++r).takeWhile (fun c=>decide (F8 c))=a/\(a++r).dropWhile (fun c=>decide (F8 c))=r:=by
 induction a with
 | nil=>
  cases r with
  | nil=>simp
  | cons c r=>
   have:=hr c rfl
   simp [this]
 | cons c a ih=>
  have d:=h c (by simp)
  have:=ih fun x b=>h x (by simp [b])
  simp [d,this]
def Form.head{s:List UInt8}{neg:Bool}{a b:List UInt8}(f:Form s neg a b):neg=(s.head? == some 45):=by
 obtain ⟨c,r,e⟩:=bK f.ne
 have d:=(A57 (f.da c (by simp [e]))).1
 rw [f.eq,e]
 cases neg<;>simp [d]
def Form.unique{s:List UInt8}{neg neg':Bool}{a b a' b':List UInt8}(f:Form s neg a b)(g:Form s neg' a' b'):neg=neg'/\a=a'/\b=b':=by
 have o:neg=neg':=by rw [f.head,g.head]
 subst o
 have e:=f.eq.symm.trans g.eq
 rw [aI,aI] at e
 have n:=List.append_cancel_left e
 have m:∀ b:List UInt8,∀ c,(if b=[] then [] else 47::b:List UInt8).head? = some c->¬ F8 c:=by
  intro b c d
  split at d
  ·simp at d
  ·simp at d;subst d;decide
 have j:=Ds f.da (m b)
 have k:=Ds g.da (m b')
 rw [n] at j
 have p:a=a':=j.1.symm.trans k.1
 have l:=j.2.symm.trans k.2
 refine ⟨rfl,p,?_⟩
 by_cases q:b=[]<;>by_cases i:b'=[]<;>simp [q,i] at l ⊢
 exact l
def Sp{q:Rat}(h:q.num=0):q.den=1:=by
 have:=q.reduced
 rw [h] at this
 simpa using this
def Cs(q:Rat):Form (E4 q) (decide (q.num<0)) (J3 q.num.natAbs) (if q.den=1 then [] else J3 q.den):=by
 constructor
 ·unfold E4 Dp
  by_cases c:q.num<0<;>by_cases b:q.den=1<;>simp [c,b,Sn]
 ·exact Li _
 ·split
  ·simp
  ·exact Li _
 ·exact Sn _
 ·by_cases h:q.num=0
  ·right
   rw [Sp h,h];simp [J3]
  ·left
   rw [V8 (by omega)];exact B06 _ (by omega)
 ·split
  ·simp
  ·rw [V8 q.den_nz];exact B06 _ q.den_nz
 ·split
  ·simp
  ·rename_i h
   intro e
   have a:J3 q.den=J3 1:=by rw [e];simp [J3,N5,F7,dch]
   exact h (B3v a)
def Ox(neg:Bool)(a:List UInt8):Int:=if neg then -(H4 a:Int) else H4 a
def Jn(b:List UInt8):Nat:=if b=[] then 1 else H4 b
def Si{b:List UInt8}(h:∀ c∈b,F8 c)(hn:b≠[])(h0:b.head? ≠ some 48):H4 b≠0:=by
 intro e
 have:=B07 h h0
 rw [e,F7] at this
 exact hn this.symm
def Form.den_ne{s:List UInt8}{neg:Bool}{a b:List UInt8}(f:Form s neg a b):Jn b≠0:=by
 unfold Jn;split
 ·decide
 ·rename_i h;exact Si f.db h f.hb
def Form.txt{s:List UInt8}{neg:Bool}{a b:List UInt8}(f:Form s neg a b){q:Rat}(h1:q.num=Ox neg a)(h2:q.den=Jn b):s=E4 q:=by
 have l:J3 (H4 a)=a:=Lh f.da f.ne (f.ha.imp id fun h=>h.1)
 have g:(Ox neg a).natAbs=H4 a:=by unfold Ox;split<;>simp
 have c:(Ox neg a<0)↔neg=true:=by
  unfold Ox
  cases neg
  ·simp
  ·simp only [if_true]
   constructor
   ·intro _;trivial
   ·intro _
    have:H4 a≠0:=by
     rcases f.ha with h|h
     ·exact Si f.da f.ne h
     ·exact absurd h.2.1 (by simp)
    omega
 have j:(Jn b=1)↔b=[]:=by
  unfold Jn
  split
  ·rename_i h;simp [h]
  ·rename_i h
   constructor
   ·intro e
    exfalso
    have i:=Lh f.db h (Or.inl f.hb)
    rw [e] at i
    apply f.b1
    rw [<- i];simp [J3,N5,F7,dch]
   ·intro e;exact absurd e h
 rw [f.eq]
 unfold E4 Dp
 rw [h1,h2,g,l]
 by_cases d:b=[]
 ·rw [iP d,iP (j.2 d)]
  cases neg
  ·rw [iN (fun e=>Bool.noConfusion (c.1 e))];simp
  ·rw [iP (c.2 rfl)];simp
 ·rw [iN d,iN (fun e=>d (j.1 e))]
  have k:J3 (Jn b)=b:=by
   unfold Jn;rw [iN d];exact Lh f.db d (Or.inl f.hb)
  rw [k]
  cases neg
  ·rw [iN (fun e=>Bool.noConfusion (c.1 e))];simp
  ·rw [iP (c.2 rfl)];simp
def Form.of_txt{s:List UInt8}{neg:Bool}{a b:List UInt8}(f:Form s neg a b){q:Rat}(e:s=E4 q):q.num=Ox neg a/\q.den=Jn b:=by
 subst e
 obtain ⟨d,c,g⟩:=f.unique (Cs q)
 subst d c g
 constructor
 ·unfold Ox
  rw [X7]
  by_cases h:q.num<0
  ·simp [h];omega
  ·simp [h];omega
 ·unfold Jn
  by_cases h:q.den=1
  ·simp [h]
  ·simp [h,Sn,X7]
def Z7{p q:Rat}(e:E4 p=E4 q):p=q:=by
 have f:=Cs p
 have b:=f.of_txt rfl
 have a:=f.of_txt e
 exact Rat.ext (b.1.trans a.1.symm) (b.2.trans a.2.symm)
def IsNum(s:List UInt8):Prop:=∃ q,s=E4 q
def Form.isNum{s:List UInt8}{neg:Bool}{a b:List UInt8}(f:Form s neg a b):IsNum s↔Nat.gcd (H4 a) (Jn b)=1:=by
 have c:(Ox neg a).natAbs=H4 a:=by unfold Ox;split<;>simp
 constructor
 ·rintro ⟨q,e⟩
  have:=f.of_txt e
  have d:=q.reduced
  rw [this.1,this.2,c] at d
  exact d
 ·intro h
  exact ⟨⟨Ox neg a,Jn b,f.den_ne,by rw [c];exact h⟩,f.txt rfl rfl⟩
def IsNum.form{s:List UInt8}(h:IsNum s):∃ neg a b,Form s neg a b:=by
 obtain ⟨q,rfl⟩:=h
 exact ⟨_,_,_,Cs q⟩
def B35(s:List UInt8):Rat:=
 let neg:=s.head? == some 45
 let t:=if neg then s.drop 1 else s
 mkRat (Ox neg (t.takeWhile fun c=>decide (F8 c))) (Jn ((t.dropWhile fun c=>decide (F8 c)).drop 1))
def rv(s:List UInt8):Rat:=if E4 (B35 s)=s then B35 s else 0
def C7(q:Rat):rv (E4 q)=q:=by
 have f:=Cs q
 have k:=f.head
 have g:∀ b:List UInt8,∀ c,(if b=[] then [] else 47::b:List UInt8).head? = some c->¬ F8 c:=by
  intro b c a
  split at a
  ·simp at a
  ·simp at a;subst a;decide
 have e:B35 (E4 q)=q:=by
  unfold B35
  simp only [<- k]
  generalize hb:(if q.den=1 then [] else J3 q.den)=b at f
  have l:(if decide (q.num<0)=true then (E4 q).drop 1 else E4 q)=J3 q.num.natAbs++(if b=[] then [] else 47::b):=by
   rw [f.eq]
   by_cases d:q.num<0<;>simp [d]
  rw [l,(Ds f.da (g b)).1,(Ds f.da (g b)).2]
  have i:=f.of_txt rfl
  have j:(if b=[] then [] else 47::b:List UInt8).drop 1=b:=by
   by_cases d:b=[]<;>simp [d]
  rw [j,<- i.1,<- i.2,Rat.mkRat_self]
 unfold rv
 rw [e,iP rfl]
def A8q{s:List UInt8}(h:¬ IsNum s):rv s=0:=by
 unfold rv
 rw [iN (fun e=>h ⟨_,e.symm⟩)]
def Form.rv_num{s:List UInt8}{neg:Bool}{a b:List UInt8}(f:Form s neg a b)(h:IsNum s):(rv s).num=Ox neg a/\(rv s).den=Jn b:=by
 obtain ⟨q,rfl⟩:=h
 rw [C7];exact f.of_txt rfl
