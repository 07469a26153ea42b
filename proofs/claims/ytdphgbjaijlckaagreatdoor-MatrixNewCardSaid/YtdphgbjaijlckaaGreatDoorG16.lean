/- A part. -/
import Derived.Test.YtdphgbjaijlckaaGreatDoorG14
import Derived.Test.YtdphgbjaijlckaaGreatDoorG15
open Go.Proofs.Tryz
set_option linter.all false
open Int renaming mul_le_mul_of_nonneg_right->aC,le_of_lt->aD,natAbs_natCast->aF,gcd->aH,natCast_ediv->aN,mul_le_mul_of_nonneg_left->aQ,tmod_eq_emod_of_nonneg->aU
open List renaming append_assoc->aJ,length_append->aM,eq_nil_of_length_eq_zero->aP,exists_cons_of_ne_nil->aT,getElem?_cons_zero->aW
open Nat renaming pow_succ->aG,pow_pos->aI,le_refl->aK,mul_le_mul_left->aL,strongRecOn->aR
open Rat renaming divInt->aE
open _root_.Go renaming Addr->aS
open _root_.Go.Proofs.YtdphgbjaijlckaaGreatDoor renaming FCall->aO,Heap->aV
namespace Go.Proofs.YtdphgbjaijlckaaGreatDoor
set_option maxRecDepth 20000
open Go
section
variable {h g:aV} {K:VP} {A B:Option aS} {ac bc:Nat}
def A46{P:Program}{t e:TypeId}{z:Value}{bytes:Nat}(s:SliceT P t e z 1 bytes){u v:Value}(hu:u.cells=#[u])(hv:v.cells=#[v]){K:VP}{h:aV}
 (x:∀ b,h b=none->K (.slice (some ⟨b,0,none⟩) 2 2) (h.put b (.cells #[u,v] e))):wpH P (Instr.buildSlice t 2 #[(0,u),(1,v)]) K h:=by
 refine S1 s o (cells:=#[u,v]) ?_ x
 have a:(E8 z.cells 2).size=2:=by simp [E8,s.cells]
 have:E8 z.cells 2=#[(E8 z.cells 2)[0]'o,(E8 z.cells 2)[1]'o]:=by
  grind
 rw [this]
 simp [Instr.fill,hu,hv]
def S2{B:Int}(hB:0<B){xs:List Int}(d:Dig B xs){m:Nat}(hl:xs.length=m+1):val B xs<(xs.getD m 0+1)*B^m/\xs.getD m 0*B^m<=val B xs:=by
 have a:=F1 B xs m
 have b:=I6 hB (d.take m)
 have c:=C3 hB (d.take m)
 grind
def Nh{xs:List Int}{m:Nat}(hl:xs.length=m+1)(hn:Norm xs):xs.getD m 0≠0:=by
 intro a
 apply hn
 grind
def Iq{x y:Int}{an bn:Nat}(ma:Mg h A an x)(mb:Mg h B bn y)(hy:y≠0)(hl:an<=18000000000000)(hl2:bn<=18000000000000)
 (hK:∀ A1 m1 c1 A2 m2 c2 h',h.le h'->m1<=c1->m2<=c2->Mg h' A1 m1 (x/y)->Mg h' A2 m2 (x%y)->K (.tuple #[.slice A1 m1 c1,.slice A2 m2 c2]) h'):aO prog 250 #[.slice A an ac,.slice B bn bc] h K:=by
 have D:=ma.nonneg dc
 have am:=mb.nonneg dc
 have ay:=mb.len_zero dc
 have X:=ma.lt dc
 refine Vl _ _ _ _ _ _ ?_
 refine Rk ma mb o ⟨_,rfl,B5 (fun h1=>?_) (fun h1=>D5 (fun h2=>?_) (fun h2=>?_))⟩
 ·have E:x<y:=by
   omega
  rw [Int.ediv_eq_zero_of_lt D E,Int.emod_eq_of_lt D E] at hK
  obtain ⟨xs,rfl,sx,dx,nx,rfl⟩:=ma
  refine Ye Gx ?_
  intro b hb
  refine ⟨_,_,_,rfl,?_⟩
  have c:=Heap.le_put (h:=h) (b:=b) (.cells #[] 173) hb
  have ae:=SlI.mono c sx
  refine Ez Gx (Priv.nil _ _ _ _) (ys:=xs.map (Value.int .u32)) (by simp) ae (fun v hv=>?_) o o ?_
  ·obtain ⟨a,_,rfl⟩:=List.mem_map.1 hv;rfl
  ·intro A' c' h' g' hg W
   have w:=W.slV
   simp only [Nat.zero_add] at W ⊢
   exact ⟨_,_,_,rfl,hK none 0 0 A' xs.length c' h' (A0 c (A0 hg W.le)) (aK _) W.2.1 Mag.zero ⟨xs,rfl,w,dx,nx,rfl⟩⟩
 ·obtain ⟨ys,rfl,V,R,ny,rfl⟩:=mb
  obtain ⟨d,rfl⟩:∃ d,ys=[d]:=by
   cases ys with
   | nil=>grind
   | cons d r=>
    grind
  rw [O5] at hy am hK
  have hd:=R d (by simp)
  refine V.load rfl o (by simp) ?_
  show aO _ _ #[_,U32 d] _ _
  refine Ea ma ⟨o,hd.2⟩ hl ?_
  intro A' m c' h' c hm az hM
  refine ⟨_,_,_,_,rfl,?_⟩
  refine N9 Gx rfl ?_
  intro b hb
  refine ⟨_,_,_,rfl,?_⟩
  have q:=Heap.le_put (h:=h') (b:=b) (.cells #[U32 (x%d)] 173) hb
  have hr:0<=x%d/\x%d<4294967296:=by
   have h3:=Int.emod_nonneg x (show d≠0 from o)
   have h4:=Int.emod_lt_of_pos x (show 0<d from o)
   grind
  refine R8 (xs:=[x%d]) (SlI.new h' b [x%d] 173 _) (Dig.one hr) (aK _) (by simp) ?_
  intro m2 F p
  rw [O5] at p
  exact ⟨_,_,_,rfl,hK _ _ _ _ _ _ _ (A0 c q) hm o (hM.mono q) p⟩
 ·have ao:y<=x:=by
   omega
  have a2:bn<=an:=mb.len_le dc (Int.lt_of_le_of_lt ao X)
  obtain ⟨xs,rfl,sx,dx,nx,rfl⟩:=ma
  obtain ⟨ys,rfl,V,R,ny,rfl⟩:=mb
  obtain ⟨mm,hmm⟩:∃ mm,ys.length=mm+2:=⟨ys.length-2,o⟩
  have gt:=T6 R (mm+1)
  have a0:=Nh (m:=mm+1) hmm ny
  obtain ⟨ab,M⟩:=S2 (B:=b32) dc R (m:=mm+1) hmm
  refine ⟨fun l h'=>∃ s:Nat,l=[U s]/\h'=h/\s<32/\ys.getD (mm+1) 0*2^s<4294967296,fun l _=>32-(iAt l 0).toNat,⟨0,rfl,rfl,o,o⟩,?_⟩
  rintro si ai ⟨s,ax,rfl,w,ak⟩
  obtain rfl:si=(s:Int):=gz0
  have e1:B7 ((ys.length:Int)-1)=((mm+1:Nat):Int):=by rw [B6 o o];omega
  rw [e1]
  refine V.load rfl o o ?_
  refine B5 (fun e=>absurd e o) (fun _=>?_)
  have f:0<(2:Int)^s:=Int.pow_pos dc
  have aw:2^s<=ys.getD (mm+1) 0*2^s:=by
   have:=aC (show 1<=ys.getD (mm+1) 0 from o) (aD f);omega
  have e2:F6 (ys.getD (((mm+1:Nat):Int)).toNat 0*2^(min ((s:Int)).toNat 32))=ys.getD (mm+1) 0*2^s:=by
   rw [Int.toNat_natCast,Int.toNat_natCast,Nat.min_eq_left o,J8 o ak]
  refine B5 (fun h3=>?_) (fun h3=>?_)
  ·have H:s+1<32:=by
    grind
   have e3:C1 ((s:Int)+1)=((s+1:Nat):Int):=by rw [B9 o o];omega
   rw [e3]
   refine ⟨⟨s+1,rfl,rfl,H,?_⟩,by simp only [iAt,aW];omega⟩
   rw [Int.pow_succ,<- Int.mul_assoc];omega
  ·have af:val b32 ys*2^s<b32^(mm+2):=by
    have al:=Dx (Nat.le_of_lt w)
    have t1:ys.getD (mm+1) 0+1<=2^(32-s):=by
     by_cases u:ys.getD (mm+1) 0+1<=2^(32-s)
     ·exact u
     ·have:=aC (show (2:Int)^(32-s)<=ys.getD (mm+1) 0 from o) (aD f)
      grind
    have t2:val b32 ys*2^s<(ys.getD (mm+1) 0+1)*b32^(mm+1)*2^s:=Int.mul_lt_mul_of_pos_right ab f
    have t4:(ys.getD (mm+1) 0+1)*2^s*b32^(mm+1)<=4294967296*b32^(mm+1):=by
     apply aC _ (aD (C9 dc _))
     rw [<- al,Int.mul_comm (2^s)]
     simp_all
    rw [Int.pow_succ b32 (mm+1),Int.mul_comm (b32^(mm+1))]
    grind
   have a1:2147483648*b32^(mm+1)<=val b32 ys*2^s:=by
    have t1:ys.getD (mm+1) 0*b32^(mm+1)*2^s<=val b32 ys*2^s:=aC M (aD f)
    have t2:2147483648*b32^(mm+1)<=ys.getD (mm+1) 0*2^s*b32^(mm+1):=aC o (aD (C9 dc _))
    grind
   refine Cu V R w o ?_
   intro bv zv ah Q aj av
   refine ⟨_,_,_,rfl,?_⟩
   rw [<- Q]
   refine R8 (X8 _ _ _ _ _) aj (aK _) o ?_
   intro n hn g
   refine ⟨_,_,_,rfl,?_⟩
   rw [av] at g
   have au:n=mm+2:=by
    have l1:=g.len_le dc af
    have l2:=g.lt dc
    by_cases u:n=mm+2
    ·exact u
    ·have:=C7 (B:=b32) dc (show n<=mm+1 from o)
     have:=C9 (B:=b32) dc (mm+1)
     omega
   subst au
   obtain ⟨T,O,sv,dv,nv,L⟩:=g
   have ad:4294967296<=2*T.getD (mm+1) 0:=by
    obtain ⟨q1,q2⟩:=S2 (B:=b32) dc dv (m:=mm+1) O.symm
    have:2147483648<T.getD (mm+1) 0+1:=by
     by_cases u:2147483648<T.getD (mm+1) 0+1
     ·exact u
     ·have:=aC (show T.getD (mm+1) 0+1<=2147483648 from o) (aD (C9 (B:=b32) dc (mm+1)));omega
    omega
   have t:=X9 (k:=.u32) (e:=173) ah zv
   refine Cu (SlI.mono t sx) dx w o ?_
   intro bu C ap aq S ag
   refine ⟨_,_,_,rfl,?_⟩
   obtain ⟨nq,hnq⟩:∃ nq,xs.length+1=nq+(mm+2):=⟨xs.length+1-(mm+2),o⟩
   have e4:B7 (B7 (B7 (((xs.length+1:Nat):Int)-((mm+2:Nat):Int))-1)+1)=(nq:Int):=by
    rw [B6 (n:=((xs.length+1:Nat):Int)-((mm+2:Nat):Int)) o o,B6 (n:=_-(1:Int)) o o,B6 o o];omega
   rw [e4]
   refine I0 Gx o o o ?_
   intro bq j
   refine ⟨_,_,_,rfl,?_⟩
   have z:bu≠bq:=by
    rintro rfl
    unfold blk at j
    rw [B8] at j;cases j
   have G:blk .u32 173 ai bv zv bq=none:=by
    have:=j
    unfold blk at this ⊢
    rwa [B4 _ _ z.symm] at this
   refine Vj (us0:=C) (N:=xs.length+1) ap G z sv dv O.symm ad w L rfl S aq ag hnq o o ?_ ?_
   ·have s1:=E5 b32 C (i:=nq) o
    have s2:=C3 dc (S.take nq)
    have s3:val b32 C<b32^xs.length*2^s:=by
     simp_all
    have s4:b32^(mm+1)<=val b32 ys:=by
     have:=aC (show 1<=ys.getD (mm+1) 0 from o) (aD (C9 (B:=b32) dc (mm+1)));omega
    have s5:b32^nq*(b32^(mm+1)*2^s)<=b32^nq*(val b32 ys*2^s):=aQ (aC s4 (aD f)) (aD (C9 dc nq))
    have s6:b32^nq*(b32^(mm+1)*2^s)=b32^xs.length*2^s:=by
     grind
    by_cases u:val b32 (C.drop nq)<val b32 ys*2^s
    ·exact u
    ·have:=aQ (show val b32 ys*2^s<=val b32 (C.drop nq) from o) (aD (C9 (B:=b32) dc nq));omega
   ·intro A1 m1 c1 A2 m2 c2 h' c ar F aa p
    exact hK _ _ _ _ _ _ _ (A0 t c) ar F aa p
end
def SlI.unique{k:IntKind}{h:aV}{A:Option aS}{xs ys:List Int}(s:SlI k h A xs)(t:SlI k h A ys)(hl:xs.length=ys.length):xs=ys:=by
 apply List.ext_getElem hl
 intro i f e
 obtain ⟨a,d,j⟩:=SlV.at s (i:=i) gz0
 obtain ⟨b,g,c⟩:=SlV.at t (i:=i) gz0
 grind
def Tm(h:aV)(A:Option aS)(len:Nat):List Int:=(List.range len).map fun i=>
 match A with
 | some a=>(match h.cell? (a.add i) with|some (.int _ n)=>n|_=>0)
 | none=>0
def Xu(B:Int)(h:aV)(A:Option aS)(len:Nat):Nat:=(val B (Tm h A len)).toNat
def Zj{k:IntKind}{h:aV}{A:Option aS}{xs:List Int}(s:SlI k h A xs):Tm h A xs.length=xs:=by
 apply List.ext_getElem
 ·simp [Tm]
 ·intro i d e
  obtain ⟨a,b,c⟩:=SlV.at s (i:=i) gz0
  subst b
  simp [Tm,c]
def R1{k:IntKind}{B:Int}{h:aV}{A:Option aS}{len:Nat}{n:Int}(m:Mag k B h A len n):Xu B h A len=n.toNat:=by
 obtain ⟨a,rfl,s,_,_,rfl⟩:=m
 unfold Xu
 rw [Zj s]
def ZB(m:Nat)(z:Int):Prop:=z.natAbs<2^m
def ZB.mono{m n:Nat}{z:Int}(h:ZB m z)(hm:m<=n):ZB n z:=Nat.lt_of_lt_of_le h (Nat.pow_le_pow_right dc hm)
def ZB.neg{m:Nat}{z:Int}(h:ZB m z):ZB m (-z):=by unfold ZB at *;omega
def ZB.add{m:Nat}{x y:Int}(hx:ZB m x)(hy:ZB m y):ZB (m+1) (x+y):=by
 unfold ZB at *;omega
def ZB.sub{m:Nat}{x y:Int}(hx:ZB m x)(hy:ZB m y):ZB (m+1) (x-y):=by
 exact hx.add hy.neg
def ZB.mul{m n:Nat}{x y:Int}(hx:ZB m x)(hy:ZB n y):ZB (m+n) (x*y):=by
 unfold ZB at *;rw [Int.natAbs_mul,Nat.pow_add]
 have a:x.natAbs*y.natAbs<=x.natAbs*2^n:=aL _ (Nat.le_of_lt hy)
 have b:x.natAbs*2^n<2^m*2^n:=Nat.mul_lt_mul_of_pos_right hx (aI dc)
 omega
def ZB.le{m:Nat}{x y:Int}(hx:ZB m x)(h:y.natAbs<=x.natAbs):ZB m y:=Nat.lt_of_le_of_lt h hx
def ZB.one{m:Nat}(h:1<=m):ZB m 1:=ZB.mono (m:=1) (by unfold ZB;decide) h
def ZB.zero{m:Nat}:ZB m 0:=aI dc
def Yc{k:IntKind}{j:Nat}(hj:0<j){h:aV}{A:Option aS}{n m:Nat}{x:Int}(M:Mag k ((2:Int)^j) h A n x)(hx:x<2^m):n<=m/j+1:=by
 refine M.len_le ?_ ?_
 ·have:=C7 (B:=2) dc hj;omega
 ·have e:((2:Int)^j)^(m/j+1)=2^(j*(m/j+1)):=by rw [Int.pow_mul]
  have:m<=j*(m/j+1):=by
   have a:=Nat.div_add_mod m j
   have b:=Nat.mod_lt m hj
   grind
  have:=C7 (B:=2) dc this
  omega
structure NI (h:aV) (s:Bool) (A:Option aS) (n c:Nat) (z:Int):Prop where
 mag:Mg h A n (z.natAbs:Int)
 sg:s=decide (z<0)
 cap:n<=c
section
variable {h h':aV} {K:VP} {A B:Option aS} {n c n' c':Nat} {s s':Bool} {x y z:Int} {m:Nat}
def NI.mono(hl:h.le h')(i:NI h s A n c z):NI h' s A n c z:=⟨i.mag.mono hl,i.sg,i.cap⟩
def NI.len(i:NI h s A n c z)(hz:ZB m z)(hm:m<=575000000000000):n<=18000000000000:=by
 have:=Yc (j:=32) dc i.mag (m:=m) (by unfold ZB at hz;grind)
 omega
def NI.zero_iff(i:NI h s A n c z):n=0↔z=0:=by
 have:=i.mag.len_zero dc
 omega
def NI.nil:NI h false A 0 0 0:=⟨Mag.zero,rfl,aK _⟩
def P8{neg:Bool}{x:Int}(M:Mg h A n x)(hc:n<=c)(hK:∀ s,NI h s A n c (if neg then -x else x)->K (.agg #[.bool s,.slice A n c]) h):aO prog 143 #[.bool neg,.slice A n c] h K:=by
 have a:=M.nonneg dc
 have b:=M.len_zero dc
 refine (fnk func143 (own:=[4])) ?_
 refine Br.of (fun e=>?_) (fun e=>?_)
 ·refine hK _ ⟨?_,?_,hc⟩
  ·grind
  grind
 ·refine hK _ ⟨?_,?_,hc⟩
  ·grind
  grind
def Oq(hz: -9223372036854775808<=z/\z<=9223372036854775807)(hK:∀ s A n c h',h.le h'->NI h' s A n c z->K (.agg #[.bool s,.slice A n c]) h'):aO prog 215 #[I z] h K:=by
 refine (fnk func215 (cs:=[(4,[3],[],[U 0])]) (own:=[2])) ?_
 refine ⟨fun l h'=>l=[U z.natAbs]/\h'=h,B5 (fun g=>⟨?_,rfl⟩) (fun g=>⟨?_,rfl⟩),?_⟩
 ·have:C1 (0-C1 z)=z.natAbs:=by rw [E9,E9];omega
  rw [this]
 ·have:C1 z=z.natAbs:=by rw [E9];omega
  rw [this]
 ·rintro u e ⟨q,rfl⟩
  obtain rfl:u=(z.natAbs:Int):=gz0
  rw [T7,Kz,J8 (n:=(z.natAbs:Int)/4294967296) o o]
  refine A46 Gx rfl rfl ?_
  intro b j
  refine ⟨_,_,_,rfl,?_⟩
  have a:Dig b32 [(z.natAbs:Int)%4294967296,(z.natAbs:Int)/4294967296]:=by
   intro d a
   grind
  refine R8 (xs:=[(z.natAbs:Int)%4294967296,(z.natAbs:Int)/4294967296]) (SlI.new e b _ 173 _) a (aK _) (by simp) ?_
  intro m k f
  have p:val b32 [(z.natAbs:Int)%4294967296,(z.natAbs:Int)/4294967296]=z.natAbs:=by
   simp only [val]
   grind
  refine ⟨_,_,_,rfl,?_⟩
  refine P8 f o ?_
  intro s i
  refine ⟨_,_,_,_,rfl,hK _ _ _ _ _ (Heap.le_put _ j) ?_⟩
  grind
def Ws(i:NI h s A n c z)(hK:K (I z.sign) h):aO prog 106 #[.agg #[.bool s,.slice A n c]] h K:=by
 have b:=i.zero_iff
 have a:=i.sg
 refine (fnk func106 (own:=[1])) ?_
 refine Br.of (fun e=>?_) (fun e=>?_)
 ·grind
 ·refine D5 (fun e=>?_) (fun e=>?_)
  ·grind
  grind
def Sy(i:NI h s A n c z)(hK:∀ s,NI h s A n c (-z)->K (.agg #[.bool s,.slice A n c]) h):aO prog 203 #[.agg #[.bool s,.slice A n c]] h K:=by
 refine (fnk func203 (own:=[1,2])) ?_
 refine P8 i.mag i.cap ?_
 intro b a
 refine ⟨_,_,_,_,rfl,hK _ ?_⟩
 have:(if (!s)=true then -(z.natAbs:Int) else (z.natAbs:Int))= -z:=by
  rw [i.sg]
  grind
 grind
def Wr(x y:Int)(p:Nat)(hs:s=decide (x<0))(hs':s'=decide (y<0)):(if (!(s==s'))=true then -(p:Int) else (p:Int))=x.sign*y.sign*p\/x=0\/y=0:=by
 grind
def Tz(x y:Int):x.tdiv y=x.sign*y.sign*((x.natAbs/y.natAbs:Nat):Int):=by
 have key:∀ a b:Nat,(a:Int).tdiv b=(a:Int).sign*(b:Int).sign*((a/b:Nat):Int):=by
  intro a b
  by_cases c:a=0
  ·simp_all
  grind
 obtain ⟨a,rfl|rfl⟩:=Int.eq_nat_or_neg x<;>obtain ⟨b,rfl|rfl⟩:=Int.eq_nat_or_neg y<;>simp only [Int.neg_tdiv,Int.tdiv_neg,Int.sign_neg,Int.natAbs_neg,aF,key]<;>grind
def Hy(ia:NI h s A n c x)(ib:NI h s' B n' c' y)(hy0:y≠0)(hx:ZB m x)(hy:ZB m y)(hm:m<=575000000000000)(hK:∀ s A n c s' B n' c' h',h.le h'->NI h' s A n c (x.tdiv y)->NI h' s' B n' c' (x.tmod y)->K (.tuple #[.agg #[.bool s,.slice A n c],.agg #[.bool s',.slice B n' c']]) h'):aO prog 206 #[.agg #[.bool s,.slice A n c],.agg #[.bool s',.slice B n' c']] h K:=by
 refine (fnk func206 (os:=[(2,[0,1,2,3,4,5,7,8,9,6,10,11,12])]) (own:=[2,3,4,5])) ?_
 refine Iq ia.mag ib.mag o (ia.len hx hm) (ib.len hy hm) ?_
 intro A1 u c1 A2 l c2 p a d b M1 M2
 refine ⟨_,_,_,_,_,_,rfl,?_⟩
 refine P8 M1 d ?_
 intro t g
 refine ⟨_,_,_,_,rfl,B3 _,?_⟩
 refine P8 M2 b ?_
 intro i q
 refine ⟨_,_,_,_,rfl,B3 _,hK _ _ _ _ _ _ _ _ _ a ?_ ?_⟩
 ·have:(if (!(s==s'))=true then -((x.natAbs:Int)/y.natAbs) else (x.natAbs:Int)/y.natAbs)=x.tdiv y:=by
   rcases Wr x y (x.natAbs/y.natAbs) ia.sg ib.sg with e|e|e
   ·rw [aN] at e
    rw [e,Tz,aN]
   ·simp_all
   omega
  grind
 ·have:(if s=true then -((x.natAbs:Int)%y.natAbs) else (x.natAbs:Int)%y.natAbs)=x.tmod y:=by
   rw [ia.sg]
   by_cases r:x<0
   ·obtain ⟨k,rfl⟩:∃ k:Nat,x= -(k:Int):=⟨x.natAbs,o⟩
    rw [Int.neg_tmod,Int.natAbs_neg,aF]
    congr 1
    rw [<- aU o]
    by_cases f:y<0
    ·obtain ⟨j,rfl⟩:∃ j:Nat,y= -(j:Int):=⟨y.natAbs,o⟩
     simp_all
    grind
   ·rw [iN gz0]
    rw [Int.natAbs_of_nonneg o,<- aU o]
    by_cases f:y<0
    ·obtain ⟨j,rfl⟩:∃ j:Nat,y= -(j:Int):=⟨y.natAbs,o⟩
     simp_all
    grind
  grind
end
def K3(n:Nat):Nat:=if n=0 then 0 else Nat.log2 n+1
def Pg:K3 0=0:=rfl
def Zl{n:Nat}(h:n≠0):K3 n=K3 (n/2)+1:=by
 unfold K3
 rw [iN h]
 by_cases a:n/2=0
 ·have:n=1:=o
  subst this;rfl
 ·rw [iN a,Nat.log2_def n,iP o]
def Y2{n:Nat}(h:n≠0):2^(K3 n-1)<=n/\n<2^K3 n:=by
 unfold K3
 rw [iN h,Nat.add_sub_cancel]
 exact ⟨Nat.log2_self_le h,Nat.lt_log2_self⟩
def Rr{n k:Nat}(h1:2^k<=n)(h2:n<2^(k+1)):K3 n=k+1:=by
 have c:n≠0:=o
 unfold K3
 rw [iN c]
 have a:=(Nat.le_log2 c).2 h1
 have b:=(Nat.log2_lt c).2 h2
 omega
def Kh{l t j:Nat}(hl:l<2^j)(ht:t≠0):K3 (l+2^j*t)=j+K3 t:=by
 obtain ⟨a,b⟩:=Y2 ht
 have c:K3 t=K3 t-1+1:=gz0
 rw [c,<- Nat.add_assoc]
 apply Rr
 ·rw [Nat.pow_add]
  have:=aL (2^j) a
  omega
 ·have:=aL (2^j) (show t+1<=2^K3 t from o)
  grind
def By{n k:Nat}(h:n<2^k):K3 n<=k:=by
 by_cases a:n=0
 ·subst a;rw [Pg];omega
 ·unfold K3;rw [iN a];have:=(Nat.log2_lt a).2 h;omega
def Tn{n:Nat}:K3 n=1↔n=1:=by
 constructor
 ·intro h
  by_cases a:n=0
  ·subst a;cases h
  ·have:=Y2 a
   grind
 ·rintro rfl;rfl
def Rs{n:Nat}:1<K3 n↔1<n:=by
 by_cases b:n=0
 ·subst b;rfl
 by_cases a:n=1
 ·subst a;decide
 ·have c:K3 n≠0:=by unfold K3;grind
  have d:K3 n≠1:=fun e=>a (Tn.1 e)
  omega
section
variable {h h':aV} {K:VP} {A B:Option aS} {n c n' c':Nat} {s s':Bool} {x y z:Int} {m:Nat}
def A1e(ia:NI h s A n c x)(ib:NI h s' B n' c' y)(hx:ZB m x)(hy:ZB m y)(hm:m<=575000000000000)(hK:∀ s A n c h',h.le h'->NI h' s A n c (aH x y)->K (.agg #[.bool s,.slice A n c]) h'):aO prog 204 #[.agg #[.bool s,.slice A n c],.agg #[.bool s',.slice B n' c']] h K:=by
 refine (fnk func204 [(2,[5,6],[],[.slice none 0 0,.slice none 0 0])] (own:=[2,3,4])) ?_
 refine ⟨fun l b=>∃ (A B:Option aS) (n c n' c' X Y:Nat),l=[.slice A n c,.slice B n' c']/\h.le b/\Mg b A n X/\Mg b B n' Y/\n<=c/\n'<=c'/\Nat.gcd X Y=aH x y/\n<=18000000000000/\n'<=18000000000000,fun l b=>match l with|[_,.slice A n _]=>Xu b32 b A n|_=>0,⟨_,_,_,_,_,_,_,_,rfl,B3 h,ia.mag,ib.mag,ia.cap,ib.cap,rfl,ia.len hx hm,ib.len hy hm⟩,?_⟩
 rintro A1 E c1 B1 k c2 b ⟨A1',B1',i,e,d,f,X,Y,L,g,M1,M2,r,D,u,w,q⟩
 obtain ⟨⟨rfl,rfl,rfl⟩,rfl,rfl,rfl⟩:(A1=A1'/\E=i/\c1=e)/\B1=B1'/\k=d/\c2=f:=gz0
 have H:=M2.len_zero dc
 refine B5 (fun z=>?_) (fun z=>?_)
 ·have p:Y≠0:=o
  refine Iq M1 M2 o w q ?_
  intro A3 F M A4 N O h' a G C M3 M4
  have t:=Nat.mod_lt X (Nat.pos_of_ne_zero p)
  refine ⟨_,_,_,_,_,_,rfl,⟨_,_,_,_,_,_,Y,X%Y,rfl,A0 g a,M2.mono a,M4,D,C,?_,q,?_⟩,?_⟩
  ·rw [<- u,Nat.gcd_comm X Y,Nat.gcd_rec Y X,Nat.gcd_comm]
  ·have:=M4.len_le dc (j:=k) (Int.lt_trans (show ((X%Y:Nat):Int)<(Y:Int) from o) (M2.lt dc))
   omega
  ·simp only [R1 M4,R1 M2];omega
 ·have p:Y=0:=o
  refine P8 M1 r ?_
  grind
def Ph(i:NI h s A n c z)(hz:ZB m z)(hm:m<=575000000000000)(hK:K (I (K3 z.natAbs)) h):aO prog 205 #[.agg #[.bool s,.slice A n c]] h K:=by
 have Q:=i.len hz hm
 have r:=i.zero_iff
 refine (fnk func205 [(5,[3,4],[],[I 0,U32 0])] (own:=[1])) ?_
 refine D5 (fun e=>?_) (fun e=>?_)
 ·have:z=0:=r.1 o
  subst this;exact hK
 ·obtain ⟨a,d,D,j,L,V⟩:=i.mag
  obtain ⟨k,hk⟩:∃ k,a.length=k+1:=⟨a.length-1,o⟩
  have F:B7 ((n:Int)-1)=(k:Int):=by rw [B6 o o];omega
  have B:B7 (32*(k:Int))=((32*k:Nat):Int):=by rw [B6 o o];omega
  rw [F,B]
  refine D.load d o o ?_
  have S:=T6 j k
  have N:=Nh hk L
  have u:32*k+K3 (a.getD k 0).toNat=K3 z.natAbs:=by
   have O:=F1 b32 a k
   have C:=I6 dc (j.take k)
   have M:=C3 dc (j.take k)
   rw [List.length_take,Nat.min_eq_left o] at C
   have T:b32^k=((2^(32*k):Nat):Int):=by
    rw [show b32=(2:Int)^32 from dc,<- Int.pow_mul];simp
   have g:z.natAbs=(val b32 (a.take k)).toNat+2^(32*k)*(a.getD k 0).toNat:=by
    grind
   rw [g,Kh o o]
  refine ⟨fun l p=>∃ (t k:Nat),l=[I k,U32 t]/\p=h/\k+K3 t=K3 z.natAbs/\t<4294967296,fun l _=>(iAt l 1).toNat,⟨(a.getD k 0).toNat,32*k,?_,rfl,u,o⟩,?_⟩
  ·grind
  ·rintro E q p ⟨t,b,H,rfl,f,w⟩
   obtain ⟨rfl,rfl⟩:E=(b:Int)/\q=(t:Int):=gz0
   have x:K3 z.natAbs<=m:=By hz
   refine B5 (fun y=>?_) (fun y=>?_)
   ·have g:Int.fdiv (t:Int) (2^(min ((1:Int)).toNat 32))=((t/2:Nat):Int):=by
     grind
    have R:=Zl (n:=t) o
    have G:B7 ((b:Int)+1)=((b+1:Nat):Int):=by rw [B6 o o];omega
    rw [g,G]
    exact ⟨⟨t/2,b+1,rfl,rfl,o,o⟩,by simp only [iAt,aW,List.getElem?_cons_succ];omega⟩
   ·have:t=0:=o
    subst this
    rw [Pg,Nat.add_zero] at f
    grind
end
structure QV where
 s:Bool
 A:Option aS
 n:Nat
 c:Nat
 s2:Bool
 A2:Option aS
 n2:Nat
 c2:Nat
abbrev QV.v(w:QV):Value:=.agg #[.bool w.s,.slice w.A w.n w.c,.bool w.s2,.slice w.A2 w.n2 w.c2]
structure NQ (h:aV) (w:QV) (q:Rat):Prop where
 num:NI h w.s w.A w.n w.c q.num
 den:NI h w.s2 w.A2 w.n2 w.c2 (if q.den=1 then 0 else (q.den:Int))
structure Sz (m:Nat) (q:Rat):Prop where
 num:ZB m q.num
 den:ZB m q.den
def Sz.mono{m n:Nat}{q:Rat}(h:Sz m q)(hm:m<=n):Sz n q:=⟨h.num.mono hm,h.den.mono hm⟩
def Sz.neg{m:Nat}{q:Rat}(h:Sz m q):Sz m (-q):=⟨by exact h.num.neg,by exact h.den⟩
def Ir{a b:Int}(hb:b≠0):(aE a b).num.natAbs<=a.natAbs/\(aE a b).den<=b.natAbs:=by
 rw [Rat.num_divInt,Rat.den_divInt,iN hb]
 constructor
 ·have c:(aH b a:Int)∣b.sign*a:=Int.dvd_mul_of_dvd_right (Int.gcd_dvd_right b a)
  rw [Int.natAbs_ediv_of_dvd c,Int.natAbs_mul,aF]
  have:b.sign.natAbs=1:=by
   grind
  rw [this,Nat.one_mul]
  exact Nat.div_le_self _ _
 ·exact Nat.div_le_self _ _
def Ff{m:Nat}{a b:Int}(hb:b≠0)(h1:ZB m a)(h2:ZB m b):Sz m (aE a b):=by
 have:=Ir (a:=a) hb
 exact ⟨h1.le this.1,h2.le o⟩
def Up(p q:Rat):p*q=aE (p.num*q.num) (p.den*q.den):=by
 rw [Rat.mul_def',<- Int.natCast_mul,Rat.divInt_ofNat]
def Kf(z:Int):aE z 1=(z:Rat):=by
 show aE z ((1:Nat):Int)=_
 rw [Rat.divInt_ofNat]
 apply Rat.ext
 ·rw [Rat.num_mkRat];simp
 ·rw [Rat.den_mkRat];simp
def den_ne(q:Rat):(q.den:Int)≠0:=by have:=q.den_nz;omega
def Sz.mul{m n:Nat}{p q:Rat}(hp:Sz m p)(hq:Sz n q):Sz (m+n) (p*q):=by
 rw [Up]
 exact Ff (Int.mul_ne_zero (den_ne p) (den_ne q)) (hp.num.mul hq.num) (hp.den.mul hq.den)
def Sz.zero{m:Nat}(hm:1<=m):Sz m 0:=⟨ZB.zero,ZB.one hm⟩
def Sz.inv{m:Nat}{q:Rat}(h:Sz m q)(hm:1<=m):Sz m q⁻¹:=by
 constructor
 ·rw [Rat.num_inv]
  refine h.den.le ?_
  grind
 ·rw [Rat.den_inv]
  split
  ·exact ZB.one hm
  ·have:=h.num
   assumption
def Sz.div{m n:Nat}{p q:Rat}(hp:Sz m p)(hq:Sz n q)(hn:1<=n):Sz (m+n) (p/q):=by
 exact hp.mul (hq.inv hn)
def Sz.int{m:Nat}{z:Int}(h:ZB m z)(hm:1<=m):Sz m (z:Rat):=⟨by assumption,by simpa using ZB.one hm⟩
section
variable {h h':aV} {K:VP} {A B:Option aS} {n c n' c':Nat} {s s':Bool} {x y z:Int} {m:Nat} {p q:Rat} {a b w:QV}
def NQ.mono(hl:h.le h')(i:NQ h w q):NQ h' w q:=⟨i.num.mono hl,i.den.mono hl⟩
def NQ.whole(i:NI h s A n c z){B:Option aS}:NQ h ⟨s,A,n,c,false,B,0,0⟩ (z:Rat):=⟨by assumption,by simpa using NI.nil⟩
def NQ.den_zero(i:NQ h w q):w.n2=0↔q.den=1:=by
 rw [i.den.zero_iff]
 have:=q.den_nz
 omega
def NQ.zero:NQ h ⟨false,none,0,0,false,none,0,0⟩ 0:=⟨NI.nil,NI.nil⟩
def Yk(ix:NI h s A n c x)(iy:NI h s' B n' c' y)(hy0:y≠0)(hx:ZB m x)(hy:ZB m y)(hm:m<=575000000000000)(hK:∀ w h',h.le h'->NQ h' w (aE x y)->K w.v h'):aO prog 144 #[.agg #[.bool s,.slice A n c],.agg #[.bool s',.slice B n' c']] h K:=by
 refine (fnk func144 (cs:=[(3,[],[(2,2),(3,2)],[.bool false,.slice none 0 0,.bool false,.slice none 0 0]),(7,[],[(2,2),(3,2)],[.bool false,.slice none 0 0,.bool false,.slice none 0 0]),(9,[],[(3,2)],[.bool false,.slice none 0 0])]) (os:=[(2,[0,2,1,3,4,5])]) (own:=[2,3,4,5])) ?_
 refine ⟨fun l k=>∃ s A n c s' B n' c' f d,l=[.bool s,.slice A n c,.bool s',.slice B n' c']/\h.le k/\NI k s A n c f/\NI k s' B n' c' d/\0<d/\aE f d=aE x y/\ZB m f/\ZB m d,Br.of (fun e=>?_) (fun e=>?_),?_⟩
 ·have ai:y<0:=by have:=iy.sg;grind
  refine Sy ix ?_
  intro s1 D
  refine ⟨_,_,_,_,rfl,B3 h,?_⟩
  refine Sy iy ?_
  intro s2 z
  exact ⟨_,_,_,_,rfl,B3 h,_,_,_,_,_,_,_,_,-x,-y,rfl,B3 h,D,z,o,Rat.neg_divInt_neg x y,hx.neg,hy.neg⟩
 ·have i:0<y:=by have:=iy.sg;grind
  exact ⟨_,_,_,_,_,_,_,_,x,y,rfl,B3 h,ix,iy,i,rfl,hx,hy⟩
 rintro s1 A1 n1 c1 s2 A2 n2 c2 al ⟨L,A1',ae,Q,R,A2',N,W,f,d,hl,E,D,z,i,hq,u,p⟩
 obtain ⟨rfl,⟨rfl,rfl,rfl⟩,rfl,rfl,rfl,rfl⟩:s1=L/\(A1=A1'/\n1=ae/\c1=Q)/\s2=R/\A2=A2'/\n2=N/\c2=W:=gz0
 refine A1e D z u p o ?_
 intro s3 A3 n3 c3 h3 t i3
 refine ⟨_,_,_,_,rfl,?_⟩
 rw [<- hq] at hK
 generalize hqq:aE f d=q at *
 have g:q.num=f/(aH f d:Int):=by
  rw [<- hqq,Rat.num_divInt,Int.sign_eq_one_of_pos i,Int.one_mul,Int.gcd_comm]
 have j:(q.den:Int)=d/(aH f d:Int):=by
  rw [<- hqq,Rat.den_divInt,iN o,Int.gcd_comm,aN,Int.natAbs_of_nonneg o]
 have ak:0<aH f d:=Int.gcd_pos_of_ne_zero_right f o
 have r:ZB m (aH f d:Int):=by
  refine p.le ?_
  exact Nat.le_of_dvd o (by have:=Int.gcd_dvd_right f d;exact Int.ofNat_dvd_left.1 this)
 refine ⟨fun l k=>∃ s A n c s' B n' c',l=[.bool s,.slice A n c,.bool s',.slice B n' c']/\h.le k/\NI k s A n c q.num/\NI k s' B n' c' q.den,?_,?_⟩
 ·refine Ph i3 r o ⟨_,rfl,?_⟩
  rw [aF]
  refine B5 (fun e=>?_) (fun e=>?_)
  ·refine Hy (D.mono t) i3 o u r o ?_
   intro M A4 S c4 s5 A5 n5 c5 h4 l4 F _
   refine ⟨_,_,_,_,_,_,_,_,rfl,?_⟩
   refine Hy ((z.mono t).mono l4) (i3.mono l4) o p r o ?_
   intro H A6 n6 c6 s7 A7 n7 c7 h5 l5 G _
   have e1:f.tdiv (aH f d:Int)=q.num:=by rw [g,Int.tdiv_eq_ediv_of_dvd (Int.gcd_dvd_left f d)]
   have e2:d.tdiv (aH f d:Int)=q.den:=gz0
   rw [e1] at F
   rw [e2] at G
   exact ⟨_,_,_,_,_,_,_,_,rfl,_,_,_,_,_,_,_,_,rfl,A0 E (A0 t (A0 l4 l5)),F.mono l5,G⟩
  ·have hg:aH f d=1:=by
    have:¬ 1<K3 (aH f d):=o
    rw [Rs] at this;omega
   rw [hg] at g j
   simp at g j
   exact ⟨_,_,_,_,_,_,_,_,rfl,A0 E t,by rw [g];exact D.mono t,by rw [j];exact z.mono t⟩
 rintro M A4 S c4 s5 A5 n5 c5 ad ⟨X,A4',af,O,V,A5',ag,ac,aj,C,F,i5⟩
 obtain ⟨rfl,⟨rfl,rfl,rfl⟩,rfl,rfl,rfl,rfl⟩:M=X/\(A4=A4'/\S=af/\c4=O)/\s5=V/\A5=A5'/\n5=ag/\c5=ac:=gz0
 have aa:ZB m (q.den:Int):=by
  refine p.le ?_
  have:=(Ir (a:=f) (b:=d) o).2
  grind
 refine ⟨fun l k=>∃ s' B n' c',l=[.bool s',.slice B n' c']/\k=ad/\NI k s' B n' c' (if q.den=1 then 0 else (q.den:Int)),?_,?_⟩
 ·refine Ph i5 aa o ⟨_,rfl,?_⟩
  rw [aF]
  refine D5 (fun e=>?_) (fun e=>?_)
  ·have:q.den=1:=Tn.1 o
   exact ⟨_,_,_,_,rfl,rfl,by rw [iP this];exact NI.nil⟩
  ·have:¬ q.den=1:=fun e1=>e (by rw [e1];rfl)
   grind
 rintro H A6 n6 c6 an ⟨ah,A6',T,ab,am,rfl,G⟩
 obtain ⟨rfl,rfl,rfl,rfl⟩:H=ah/\A6=A6'/\n6=T/\c6=ab:=gz0
 exact hK ⟨M,A4,S,c4,H,A6,n6,c6⟩ _ C ⟨F,G⟩
def A5h(hz: -9223372036854775808<=z/\z<=9223372036854775807)(hK:∀ w h',h.le h'->NQ h' w (z:Rat)->K w.v h'):aO prog 157 #[I z] h K:=by
 refine (fnk func157 (own:=[2])) ?_
 refine Oq hz ?_
 intro s A n c d b a
 exact ⟨_,_,_,_,rfl,hK ⟨s,A,n,c,false,none,0,0⟩ _ b (NQ.whole a)⟩
end
def dch(d:Nat):UInt8:=UInt8.ofNat (48+d)
def X5{d:Nat}(h:d<10):(dch d).toNat=48+d:=by
 unfold dch;rw [UInt8.toNat_ofNat'];omega
def F4(c:UInt8):Prop:=48<=c.toNat/\c.toNat<=57
instance (c:UInt8):Decidable (F4 c):=by unfold F4;infer_instance
def A4k{d:Nat}(h:d<10):F4 (dch d):=by unfold F4;rw [X5 h];omega
def A2s{c:UInt8}(h:F4 c):dch (c.toNat-48)=c:=by
 unfold F4 at h
 apply UInt8.toNat_inj.1
 rw [X5 o];omega
def dd(n:Nat):List UInt8:=if _h:n=0 then [] else dd (n/10)++[dch (n%10)]
def I3:dd 0=[]:=by unfold dd;simp
def X4{n:Nat}(h:n≠0):dd n=dd (n/10)++[dch (n%10)]:=by rw [dd];simp [h]
def G8(l:List UInt8):Nat:=l.foldl (fun a c=>10*a+(c.toNat-48)) 0
def Bu(l:List UInt8)(c:UInt8):G8 (l++[c])=10*G8 l+(c.toNat-48):=by simp [G8]
def A4c(l:List UInt8):∀ a,l.foldl (fun a c=>10*a+(c.toNat-48)) a=a*10^l.length+G8 l:=by
 induction l with
 | nil=>intro a;simp [G8]
 | cons c l ih=>
  intro a
  unfold G8
  rw [List.foldl_cons,List.foldl_cons,ih,ih,List.length_cons,aG]
  grind
def Ab(a b:List UInt8):G8 (a++b)=G8 a*10^b.length+G8 b:=by
 unfold G8;rw [List.foldl_append,A4c b];rfl
def Yw(c:UInt8)(l:List UInt8):G8 (c::l)=(c.toNat-48)*10^l.length+G8 l:=by
 rw [<- List.singleton_append,Ab];simp [G8]
def U8{l:List UInt8}(h:∀ c∈l,F4 c):G8 l<10^l.length:=by
 induction l with
 | nil=>simp [G8]
 | cons c l ih=>
  have d:=ih fun x b=>h x (by simp [b])
  have a:=h c (by simp)
  unfold F4 at a
  rw [Yw,List.length_cons,aG]
  have:(c.toNat-48)*10^l.length<=9*10^l.length:=Nat.mul_le_mul_right _ o
  omega
def A4d(n:Nat):G8 (dd n)=n:=by
 induction n using aR with
 | _ n ih=>
  by_cases h:n=0
  ·subst h;rw [I3];rfl
  ·rw [X4 h,Bu,ih _ o,X5 o];omega
def A75(n:Nat):∀ c∈dd n,F4 c:=by
 induction n using aR with
 | _ n ih=>
  by_cases h:n=0
  ·subst h;rw [I3];simp
  ·rw [X4 h]
   intro c b
   rcases List.mem_append.1 b with a|a
   ·exact ih _ o c a
   ·rw [List.mem_singleton.1 a];exact A4k o
def A1l{n:Nat}(h:n≠0):dd n≠[]:=by rw [X4 h];simp
def Ze(n:Nat)(h:n≠0):(dd n).head? ≠ some 48:=by
 induction n using aR with
 | _ n ih=>
  rw [X4 h]
  by_cases a:n/10=0
  ·rw [a,I3]
   simp only [List.nil_append,List.head?_cons,ne_eq,Option.some.injEq]
   intro e
   have:=X5 (d:=n%10) o
   rw [e] at this
   simp at this
   omega
  ·have:=ih _ o a
   obtain ⟨c,r,e⟩:=aT (A1l a)
   rw [e] at this ⊢
   simpa using this
def Zf{l:List UInt8}(h:∀ c∈l,F4 c)(h0:l.head? ≠ some 48):dd (G8 l)=l:=by
 obtain ⟨n,g⟩:∃ n,l.length=n:=⟨_,rfl⟩
 induction n generalizing l with
 | zero=>rw [aP g];exact I3
 | succ n ih=>
  obtain ⟨m,c,rfl⟩:∃ m c,l=m++[c]:=by
   refine ⟨l.dropLast,l.getLast (by rintro rfl;simp at g),?_⟩
   rw [List.dropLast_concat_getLast]
  have f:=h c (by simp)
  have b:=f
  unfold F4 at b
  rw [Bu]
  cases m with
  | nil=>
   simp at h0
   have k:c.toNat-48≠0:=by
    intro e
    apply h0
    apply UInt8.toNat_inj.1
    show c.toNat=48
    omega
   rw [X4 (by simp [G8];omega)]
   simp only [G8,List.foldl_nil,List.nil_append]
   rw [show (10*0+(c.toNat-48))/10=0 from o,I3,show (10*0+(c.toNat-48))%10=c.toNat-48 from o,A2s f];rfl
  | cons d m=>
   have a:=ih (l:=d::m) (fun x j=>h x (by simp at j ⊢;rcases j with h|h<;>simp [h])) (by simpa using h0) (by simpa using g)
   have i:G8 (d::m)≠0:=by
    intro e
    rw [e,I3] at a
    cases a
   rw [X4 o,show (10*G8 (d::m)+(c.toNat-48))/10=G8 (d::m) from o,a,show (10*G8 (d::m)+(c.toNat-48))%10=c.toNat-48 from o,A2s f]
def K7{n k:Nat}:(dd n).length<=k↔n<10^k:=by
 induction k generalizing n with
 | zero=>
  constructor
  ·intro h
   have:dd n=[]:=aP o
   by_cases a:n=0
   ·subst a;decide
   ·exact absurd this (A1l a)
  ·intro h
   have:n=0:=by simp at h;exact h
   subst this;rw [I3];simp
 | succ k ih=>
  by_cases a:n=0
  ·subst a;rw [I3];simp [aI]
  ·rw [X4 a,aM,List.length_singleton,Nat.add_le_add_iff_right,ih,aG]
   omega
def pad(w n:Nat):List UInt8:=List.replicate (w-(dd n).length) 48++dd n
def Su(n:Nat):pad 0 n=dd n:=by simp [pad]
def Jy{w n:Nat}(h:n<10^w):(pad w n).length=w:=by
 have:=K7.2 h
 simp [pad];omega
def Hl(w n:Nat):pad (w+1) n=pad w (n/10)++[dch (n%10)]:=by
 unfold pad
 by_cases h:n=0
 ·subst h
  rw [I3]
  simp only [List.length_nil,Nat.sub_zero,List.append_nil,Nat.zero_mod]
  rw [List.replicate_succ'];rfl
 ·rw [X4 h,aM,List.length_singleton,Nat.add_sub_add_right,aJ]
def A74{h l k:Nat}(h0:h≠0)(hl:l<10^k):dd (h*10^k+l)=dd h++pad k l:=by
 induction k generalizing l with
 | zero=>
  have:l=0:=by simpa using hl
  subst this;simp [pad,I3]
 | succ k ih=>
  have d:0<10^k:=aI dc
  have a:h*10^(k+1)+l≠0:=by
   have:0<h*10^(k+1):=Nat.mul_pos o (aI dc)
   omega
  have c:(h*10^(k+1)+l)/10=h*10^k+l/10:=by
   rw [aG,<- Nat.mul_assoc];omega
  have b:(h*10^(k+1)+l)%10=l%10:=by
   rw [aG,<- Nat.mul_assoc];omega
  rw [X4 a,c,b,ih (by rw [aG] at hl;omega),Hl,aJ]
def Ny{w h l k:Nat}(hl:l<10^k)(hw:h≠0\/k<=w):pad w (h*10^k+l)=pad (w-k) h++pad k l:=by
 by_cases b:h=0
 ·subst b
  have c:k<=w:=by
   rcases hw with h|h
   ·exact absurd rfl h
   ·exact h
  have:=K7.2 hl
  unfold pad
  rw [I3]
  simp only [Nat.zero_mul,Nat.zero_add,List.length_nil,Nat.sub_zero,List.append_nil,<- aJ,List.replicate_append_replicate]
  congr 2;omega
 ·have e:=A74 b hl
  have a:=Jy hl
  unfold pad at a
  unfold pad at e ⊢
  rw [e,aM,a,<- aJ]
  congr 3;omega
def J2(n:Nat):List UInt8:=if n=0 then [48] else dd n
def U3{n:Nat}(h:n≠0):J2 n=dd n:=by simp [J2,h]
def Q7(n:Nat):G8 (J2 n)=n:=by
 unfold J2;split
 ·rename_i h;subst h;rfl
 ·exact A4d n
def Ew(n:Nat):∀ c∈J2 n,F4 c:=by
 unfold J2;split
 ·intro c a;rw [List.mem_singleton.1 a];decide
 ·exact A75 n
def Is(n:Nat):J2 n≠[]:=by
 unfold J2;split
 ·simp
 ·rename_i h;exact A1l h
def A1k{a b:Nat}(h:J2 a=J2 b):a=b:=by rw [<- Q7 a,h,Q7]
def Ev{l:List UInt8}(h:∀ c∈l,F4 c)(hn:l≠[])(h0:l.head? ≠ some 48\/l=[48]):J2 (G8 l)=l:=by
 rcases h0 with h0|h0
 ·have:=Zf h h0
  rw [U3,this]
  intro e
  rw [e,I3] at this
  exact hn this.symm
 ·subst h0;rfl
def Ho{n k:Nat}(hk:0<k):(J2 n).length<=k↔n<10^k:=by
 by_cases h:n=0
 ·subst h;have:0<10^k:=aI dc;simp [J2];omega
 ·rw [U3 h];exact K7
def Fk(z:Int):List UInt8:=if z<0 then 45::J2 z.natAbs else J2 z.natAbs
def K9(q:Rat):List UInt8:=Fk q.num++(if q.den=1 then [] else 47::J2 q.den)
structure Form (s:List UInt8) (neg:Bool) (a b:List UInt8):Prop where
 eq:s=(if neg then [45] else [])++a++(if b=[] then [] else 47::b)
 da:∀ c∈a,F4 c
 db:∀ c∈b,F4 c
 ne:a≠[]
 ha:a.head? ≠ some 48\/(a=[48]/\neg=false/\b=[])
 hb:b.head? ≠ some 48
 b1:b≠[49]
def Te{c:UInt8}(h:F4 c):c≠45/\c≠47:=by
 unfold F4 at h
 constructor<;>(rintro rfl;grind)
def Z2{a r:List UInt8}(h:∀ c∈a,F4 c)(hr:∀ c,r.head? = some c->¬ F4 c):(a++r).takeWhile (fun c=>decide (F4 c))=a/\(a++r).dropWhile (fun c=>decide (F4 c))=r:=by
 induction a with
 | nil=>
  cases r with
  | nil=>simp
  | cons c r=>
   simp_all
 | cons c a ih=>
  simp_all
def Form.head{s:List UInt8}{neg:Bool}{a b:List UInt8}(f:Form s neg a b):neg=(s.head? == some 45):=by
 obtain ⟨c,r,e⟩:=aT f.ne
 have d:=(Te (f.da c (by simp [e]))).1
 rw [f.eq,e]
 grind
def Form.unique{s:List UInt8}{neg neg':Bool}{a b a' b':List UInt8}(f:Form s neg a b)(g:Form s neg' a' b'):neg=neg'/\a=a'/\b=b':=by
 have l:neg=neg':=by rw [f.head,g.head]
 have e:=f.eq.symm.trans g.eq
 have i:∀ b:List UInt8,∀ c,(if b=[] then [] else 47::b:List UInt8).head? = some c->¬ F4 c:=by
  intro b c d
  split at d
  ·grind
  ·simp at d;subst d;decide
 have k:=Z2 f.da (i b)
 have j:=Z2 g.da (i b')
 grind
def Iu{q:Rat}(h:q.num=0):q.den=1:=by
 simp_all
def Bl(q:Rat):Form (K9 q) (decide (q.num<0)) (J2 q.num.natAbs) (if q.den=1 then [] else J2 q.den):=by
 constructor
 ·unfold K9 Fk
  by_cases a:q.num<0<;>by_cases b:q.den=1<;>simp [a,b,Is]
 ·exact Ew _
 ·split
  ·simp
  ·exact Ew _
 ·exact Is _
 ·by_cases h:q.num=0
  ·right
   rw [Iu h,h];simp [J2]
  ·left
   rw [U3 o];exact Ze _ o
 ·split
  ·simp
  ·rw [U3 q.den_nz];exact Ze _ q.den_nz
 ·split
  ·simp
  ·rename_i h
   intro e
   have c:J2 q.den=J2 1:=by rw [e];simp [J2,X4,I3,dch]
   exact h (A1k c)
def Hb(neg:Bool)(a:List UInt8):Int:=if neg then -(G8 a:Int) else G8 a
def Dq(b:List UInt8):Nat:=if b=[] then 1 else G8 b
def Io{b:List UInt8}(h:∀ c∈b,F4 c)(hn:b≠[])(h0:b.head? ≠ some 48):G8 b≠0:=by
 intro e
 have:=Zf h h0
 rw [e,I3] at this
 grind
def Form.den_ne{s:List UInt8}{neg:Bool}{a b:List UInt8}(f:Form s neg a b):Dq b≠0:=by
 unfold Dq;split
 ·decide
 ·rename_i h;exact Io f.db h f.hb
def Form.txt{s:List UInt8}{neg:Bool}{a b:List UInt8}(f:Form s neg a b){q:Rat}(h1:q.num=Hb neg a)(h2:q.den=Dq b):s=K9 q:=by
 have k:J2 (G8 a)=a:=Ev f.da f.ne (f.ha.imp id fun h=>h.1)
 have d:(Hb neg a).natAbs=G8 a:=by unfold Hb;omega
 have c:(Hb neg a<0)↔neg=true:=by
  unfold Hb
  cases neg
  ·simp
  ·simp only [if_true]
   constructor
   ·grind
   ·intro _
    have:G8 a≠0:=by
     rcases f.ha with h|h
     ·exact Io f.da f.ne h
     grind
    omega
 have j:(Dq b=1)↔b=[]:=by
  unfold Dq
  split
  ·grind
  ·rename_i h
   constructor
   ·intro e
    exfalso
    have g:=Ev f.db h (Or.inl f.hb)
    rw [e] at g
    apply f.b1
    rw [<- g];simp [J2,X4,I3,dch]
   grind
 rw [f.eq]
 unfold K9 Fk
 by_cases i:b=[]
 ·grind
 ·have l:J2 (Dq b)=b:=by
   unfold Dq;rw [iN i];exact Ev f.db i (Or.inl f.hb)
  grind
def Form.of_txt{s:List UInt8}{neg:Bool}{a b:List UInt8}(f:Form s neg a b){q:Rat}(e:s=K9 q):q.num=Hb neg a/\q.den=Dq b:=by
 subst e
 obtain ⟨g,d,c⟩:=f.unique (Bl q)
 subst g d c
 constructor
 ·unfold Hb
  rw [Q7]
  grind
 ·unfold Dq
  by_cases h:q.den=1
  ·simp [h]
  ·simp [h,Is,Q7]
def IsNum(s:List UInt8):Prop:=∃ q,s=K9 q
def Form.isNum{s:List UInt8}{neg:Bool}{a b:List UInt8}(f:Form s neg a b):IsNum s↔Nat.gcd (G8 a) (Dq b)=1:=by
 have c:(Hb neg a).natAbs=G8 a:=by unfold Hb;omega
 constructor
 ·rintro ⟨q,e⟩
  have:=f.of_txt e
  have d:=q.reduced
  grind
 ·intro h
  exact ⟨⟨Hb neg a,Dq b,f.den_ne,gz0⟩,f.txt rfl rfl⟩
def IsNum.form{s:List UInt8}(h:IsNum s):∃ neg a b,Form s neg a b:=by
 obtain ⟨q,rfl⟩:=h
 exact ⟨_,_,_,Bl q⟩
def A0u(s:List UInt8):Rat:=
 let neg:=s.head? == some 45
 let t:=if neg then s.drop 1 else s
 mkRat (Hb neg (t.takeWhile fun c=>decide (F4 c))) (Dq ((t.dropWhile fun c=>decide (F4 c)).drop 1))
def rv(s:List UInt8):Rat:=if K9 (A0u s)=s then A0u s else 0
def Sk(q:Rat):rv (K9 q)=q:=by
 have f:=Bl q
 have k:=f.head
 have d:∀ b:List UInt8,∀ c,(if b=[] then [] else 47::b:List UInt8).head? = some c->¬ F4 c:=by
  intro b c a
  split at a
  ·grind
  ·simp at a;subst a;decide
 have e:A0u (K9 q)=q:=by
  unfold A0u
  simp only [<- k]
  generalize hb:(if q.den=1 then [] else J2 q.den)=b at f
  have j:(if decide (q.num<0)=true then (K9 q).drop 1 else K9 q)=J2 q.num.natAbs++(if b=[] then [] else 47::b):=by
   rw [f.eq]
   grind
  rw [j,(Z2 f.da (d b)).1,(Z2 f.da (d b)).2]
  have g:=f.of_txt rfl
  have i:(if b=[] then [] else 47::b:List UInt8).drop 1=b:=by
   grind
  rw [i,<- g.1,<- g.2,Rat.mkRat_self]
 unfold rv
 grind
def A25{s:List UInt8}(h:¬ IsNum s):rv s=0:=by
 unfold rv
 rw [iN (fun e=>h ⟨_,e.symm⟩)]
def Form.rv_num{s:List UInt8}{neg:Bool}{a b:List UInt8}(f:Form s neg a b)(h:IsNum s):(rv s).num=Hb neg a/\(rv s).den=Dq b:=by
 obtain ⟨q,rfl⟩:=h
 rw [Sk];exact f.of_txt rfl
