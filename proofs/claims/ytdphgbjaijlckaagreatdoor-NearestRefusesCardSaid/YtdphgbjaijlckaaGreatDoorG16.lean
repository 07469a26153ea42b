/- A part. -/
import Derived.Test.YtdphgbjaijlckaaGreatDoorG14
import Derived.Test.YtdphgbjaijlckaaGreatDoorG15
open Go.Proofs.Tryz
set_option linter.all false
open Int renaming mul_le_mul_of_nonneg_right->aC,le_of_lt->aE,natAbs_natCast->aF,mul_ne_zero->aH,gcd->aJ,natCast_ediv->aQ,mul_one->aS,mul_le_mul_of_nonneg_left->aT,tmod_eq_emod_of_nonneg->aX
open List renaming append_assoc->aL,length_append->aO,eq_nil_of_length_eq_zero->aR,exists_cons_of_ne_nil->aW,getElem?_cons_zero->aZ
open Nat renaming pow_succ->aI,pow_pos->aK,le_refl->aM,mul_le_mul_left->aN,strongRecOn->aU
open Rat renaming divInt->aD,divInt_ofNat->aP
open _root_.Go renaming Addr->aV
open _root_.Go.Proofs.YtdphgbjaijlckaaGreatDoor renaming FCall->aG,Heap->aY
namespace Go.Proofs.YtdphgbjaijlckaaGreatDoor
set_option maxRecDepth 20000
open Go
section
variable {h g:aY} {K:VP} {A B:Option aV} {ac bc:Nat}
def A8l{P:Program}{t e:TypeId}{z:Value}{bytes:Nat}(s:SliceT P t e z 1 bytes){u v:Value}(hu:u.cells=#[u])(hv:v.cells=#[v]){K:VP}{h:aY}
 (x:∀ b,h b=none->K (.slice (some ⟨b,0,none⟩) 2 2) (h.put b (.cells #[u,v] e))):wpH P (Instr.buildSlice t 2 #[(0,u),(1,v)]) K h:=by
 refine V1 s o (cells:=#[u,v]) ?_ x
 have a:(F1 z.cells 2).size=2:=by simp [F1,s.cells]
 have:F1 z.cells 2=#[(F1 z.cells 2)[0]'o,(F1 z.cells 2)[1]'o]:=by
  grind
 rw [this]
 simp [Instr.fill,hu,hv]
def V5{B:Int}(hB:0<B){xs:List Int}(d:Dig B xs){m:Nat}(hl:xs.length=m+1):val B xs<(xs.getD m 0+1)*B^m/\xs.getD m 0*B^m<=val B xs:=by
 have a:=F5 B xs m
 have b:=J4 hB (d.take m)
 have c:=C5 hB (d.take m)
 grind
def Se{xs:List Int}{m:Nat}(hl:xs.length=m+1)(hn:Norm xs):xs.getD m 0≠0:=by
 intro a
 apply hn
 grind
def Ms{x y:Int}{an bn:Nat}(ma:Mg h A an x)(mb:Mg h B bn y)(hy:y≠0)(hl:an<=18000000000000)(hl2:bn<=18000000000000)
 (hK:∀ A1 m1 c1 A2 m2 c2 h',h.le h'->m1<=c1->m2<=c2->Mg h' A1 m1 (x/y)->Mg h' A2 m2 (x%y)->K (.tuple #[.slice A1 m1 c1,.slice A2 m2 c2]) h'):aG prog 250 #[.slice A an ac,.slice B bn bc] h K:=by
 have D:=ma.nonneg dc
 have ao:=mb.nonneg dc
 have az:=mb.len_zero dc
 have X:=ma.lt dc
 refine A0j _ _ _ _ _ _ ?_
 refine Nb ma mb o ⟨_,rfl,B6 (fun h1=>?_) (fun h1=>D5 (fun h2=>?_) (fun h2=>?_))⟩
 ·have E:x<y:=by
   omega
  rw [Int.ediv_eq_zero_of_lt D E,Int.emod_eq_of_lt D E] at hK
  obtain ⟨xs,rfl,sx,dx,nx,rfl⟩:=ma
  refine Fq Ii ?_
  intro b hb
  refine ⟨_,_,_,rfl,?_⟩
  have c:=Heap.le_put (h:=h) (b:=b) (.cells #[] 173) hb
  have af:=SlI.mono c sx
  refine Hv Ii (Priv.nil _ _ _ _) (ys:=xs.map (Value.int .u32)) (by simp) af (fun v hv=>?_) o o ?_
  ·obtain ⟨a,_,rfl⟩:=List.mem_map.1 hv;rfl
  ·intro A' c' h' g' hg W
   have w:=W.slV
   simp only [Nat.zero_add] at W ⊢
   exact ⟨_,_,_,rfl,hK none 0 0 A' xs.length c' h' (B0 c (B0 hg W.le)) (aM _) W.2.1 Mag.zero ⟨xs,rfl,w,dx,nx,rfl⟩⟩
 ·obtain ⟨ys,rfl,V,R,ny,rfl⟩:=mb
  obtain ⟨d,rfl⟩:∃ d,ys=[d]:=by
   cases ys with
   | nil=>grind
   | cons d r=>
    grind
  rw [Q9] at hy ao hK
  have hd:=R d (by simp)
  refine V.load rfl o (by simp) ?_
  show aG _ _ #[_,U32 d] _ _
  refine Gs ma ⟨o,hd.2⟩ hl ?_
  intro A' m c' h' c hm a0 hM
  refine ⟨_,_,_,_,rfl,?_⟩
  refine T6 Ii rfl ?_
  intro b hb
  refine ⟨_,_,_,rfl,?_⟩
  have q:=Heap.le_put (h:=h') (b:=b) (.cells #[U32 (x%d)] 173) hb
  have hr:0<=x%d/\x%d<4294967296:=by
   have h3:=Int.emod_nonneg x (show d≠0 from o)
   have h4:=Int.emod_lt_of_pos x (show 0<d from o)
   grind
  refine S2 (xs:=[x%d]) (SlI.new h' b [x%d] 173 _) (Dig.one hr) (aM _) (by simp) ?_
  intro m2 F p
  rw [Q9] at p
  exact ⟨_,_,_,rfl,hK _ _ _ _ _ _ _ (B0 c q) hm o (hM.mono q) p⟩
 ·have ap:y<=x:=by
   omega
  have a3:bn<=an:=mb.len_le dc (Int.lt_of_le_of_lt ap X)
  obtain ⟨xs,rfl,sx,dx,nx,rfl⟩:=ma
  obtain ⟨ys,rfl,V,R,ny,rfl⟩:=mb
  obtain ⟨mm,hmm⟩:∃ mm,ys.length=mm+2:=⟨ys.length-2,o⟩
  have gt:=U9 R (mm+1)
  have a1:=Se (m:=mm+1) hmm ny
  obtain ⟨ad,M⟩:=V5 (B:=b32) dc R (m:=mm+1) hmm
  refine ⟨fun l h'=>∃ s:Nat,l=[U s]/\h'=h/\s<32/\ys.getD (mm+1) 0*2^s<4294967296,fun l _=>32-(iAt l 0).toNat,⟨0,rfl,rfl,o,o⟩,?_⟩
  rintro si aj ⟨s,ay,rfl,w,al⟩
  obtain rfl:si=(s:Int):=gz0
  have e1:B9 ((ys.length:Int)-1)=((mm+1:Nat):Int):=by rw [B7 o o];omega
  rw [e1]
  refine V.load rfl o o ?_
  refine B6 (fun e=>absurd e o) (fun _=>?_)
  have f:0<(2:Int)^s:=Int.pow_pos dc
  have ax:2^s<=ys.getD (mm+1) 0*2^s:=by
   have:=aC (show 1<=ys.getD (mm+1) 0 from o) (aE f);omega
  have e2:G8 (ys.getD (((mm+1:Nat):Int)).toNat 0*2^(min ((s:Int)).toNat 32))=ys.getD (mm+1) 0*2^s:=by
   rw [Int.toNat_natCast,Int.toNat_natCast,Nat.min_eq_left o,L4 o al]
  refine B6 (fun h3=>?_) (fun h3=>?_)
  ·have H:s+1<32:=by
    grind
   have e3:C3 ((s:Int)+1)=((s+1:Nat):Int):=by rw [C1 o o];omega
   rw [e3]
   refine ⟨⟨s+1,rfl,rfl,H,?_⟩,by simp only [iAt,aZ];omega⟩
   rw [Int.pow_succ,<- Int.mul_assoc];omega
  ·have ag:val b32 ys*2^s<b32^(mm+2):=by
    have am:=Gm (Nat.le_of_lt w)
    have t1:ys.getD (mm+1) 0+1<=2^(32-s):=by
     by_cases u:ys.getD (mm+1) 0+1<=2^(32-s)
     ·exact u
     ·have:=aC (show (2:Int)^(32-s)<=ys.getD (mm+1) 0 from o) (aE f)
      grind
    have t2:val b32 ys*2^s<(ys.getD (mm+1) 0+1)*b32^(mm+1)*2^s:=Int.mul_lt_mul_of_pos_right ad f
    have t4:(ys.getD (mm+1) 0+1)*2^s*b32^(mm+1)<=4294967296*b32^(mm+1):=by
     apply aC _ (aE (D3 dc _))
     rw [<- am,Int.mul_comm (2^s)]
     simp_all
    rw [Int.pow_succ b32 (mm+1),Int.mul_comm (b32^(mm+1))]
    grind
   have a2:2147483648*b32^(mm+1)<=val b32 ys*2^s:=by
    have t1:ys.getD (mm+1) 0*b32^(mm+1)*2^s<=val b32 ys*2^s:=aC M (aE f)
    have t2:2147483648*b32^(mm+1)<=ys.getD (mm+1) 0*2^s*b32^(mm+1):=aC o (aE (D3 dc _))
    grind
   refine Fa V R w o ?_
   intro bv zv ai Q ak aw
   refine ⟨_,_,_,rfl,?_⟩
   rw [<- Q]
   refine S2 (Z5 _ _ _ _ _) ak (aM _) o ?_
   intro n hn g
   refine ⟨_,_,_,rfl,?_⟩
   rw [aw] at g
   have av:n=mm+2:=by
    have l1:=g.len_le dc ag
    have l2:=g.lt dc
    by_cases u:n=mm+2
    ·exact u
    ·have:=C8 (B:=b32) dc (show n<=mm+1 from o)
     have:=D3 (B:=b32) dc (mm+1)
     omega
   subst av
   obtain ⟨T,O,sv,dv,nv,L⟩:=g
   have ae:4294967296<=2*T.getD (mm+1) 0:=by
    obtain ⟨q1,q2⟩:=V5 (B:=b32) dc dv (m:=mm+1) O.symm
    have:2147483648<T.getD (mm+1) 0+1:=by
     by_cases u:2147483648<T.getD (mm+1) 0+1
     ·exact u
     ·have:=aC (show T.getD (mm+1) 0+1<=2147483648 from o) (aE (D3 (B:=b32) dc (mm+1)));omega
    omega
   have t:=Z6 (k:=.u32) (e:=173) ai zv
   refine Fa (SlI.mono t sx) dx w o ?_
   intro bu C aq ar S ah
   refine ⟨_,_,_,rfl,?_⟩
   obtain ⟨nq,hnq⟩:∃ nq,xs.length+1=nq+(mm+2):=⟨xs.length+1-(mm+2),o⟩
   have e4:B9 (B9 (B9 (((xs.length+1:Nat):Int)-((mm+2:Nat):Int))-1)+1)=(nq:Int):=by
    rw [B7 (n:=((xs.length+1:Nat):Int)-((mm+2:Nat):Int)) o o,B7 (n:=_-(1:Int)) o o,B7 o o];omega
   rw [e4]
   refine I5 Ii o o o ?_
   intro bq j
   refine ⟨_,_,_,rfl,?_⟩
   have z:bu≠bq:=by
    rintro rfl
    unfold blk at j
    rw [C0] at j;cases j
   have G:blk .u32 173 aj bv zv bq=none:=by
    have:=j
    unfold blk at this ⊢
    rwa [B8 _ _ z.symm] at this
   refine A0g (us0:=C) (N:=xs.length+1) aq G z sv dv O.symm ae w L rfl S ar ah hnq o o ?_ ?_
   ·have s1:=E8 b32 C (i:=nq) o
    have s2:=C5 dc (S.take nq)
    have s3:val b32 C<b32^xs.length*2^s:=by
     simp_all
    have s4:b32^(mm+1)<=val b32 ys:=by
     have:=aC (show 1<=ys.getD (mm+1) 0 from o) (aE (D3 (B:=b32) dc (mm+1)));omega
    have s5:b32^nq*(b32^(mm+1)*2^s)<=b32^nq*(val b32 ys*2^s):=aT (aC s4 (aE f)) (aE (D3 dc nq))
    have s6:b32^nq*(b32^(mm+1)*2^s)=b32^xs.length*2^s:=by
     grind
    by_cases u:val b32 (C.drop nq)<val b32 ys*2^s
    ·exact u
    ·have:=aT (show val b32 ys*2^s<=val b32 (C.drop nq) from o) (aE (D3 (B:=b32) dc nq));omega
   ·intro A1 m1 c1 A2 m2 c2 h' c au F aa p
    exact hK _ _ _ _ _ _ _ (B0 t c) au F aa p
end
def SlI.unique{k:IntKind}{h:aY}{A:Option aV}{xs ys:List Int}(s:SlI k h A xs)(t:SlI k h A ys)(hl:xs.length=ys.length):xs=ys:=by
 apply List.ext_getElem hl
 intro i f e
 obtain ⟨a,d,j⟩:=SlV.at s (i:=i) gz0
 obtain ⟨b,g,c⟩:=SlV.at t (i:=i) gz0
 grind
def Yw(h:aY)(A:Option aV)(len:Nat):List Int:=(List.range len).map fun i=>
 match A with
 | some a=>(match h.cell? (a.add i) with|some (.int _ n)=>n|_=>0)
 | none=>0
def A2p(B:Int)(h:aY)(A:Option aV)(len:Nat):Nat:=(val B (Yw h A len)).toNat
def A3s{k:IntKind}{h:aY}{A:Option aV}{xs:List Int}(s:SlI k h A xs):Yw h A xs.length=xs:=by
 apply List.ext_getElem
 ·simp [Yw]
 ·intro i d e
  obtain ⟨a,b,c⟩:=SlV.at s (i:=i) gz0
  subst b
  simp [Yw,c]
def T5{k:IntKind}{B:Int}{h:aY}{A:Option aV}{len:Nat}{n:Int}(m:Mag k B h A len n):A2p B h A len=n.toNat:=by
 obtain ⟨a,rfl,s,_,_,rfl⟩:=m
 unfold A2p
 rw [A3s s]
def ZB(m:Nat)(z:Int):Prop:=z.natAbs<2^m
def ZB.mono{m n:Nat}{z:Int}(h:ZB m z)(hm:m<=n):ZB n z:=Nat.lt_of_lt_of_le h (Nat.pow_le_pow_right dc hm)
def ZB.neg{m:Nat}{z:Int}(h:ZB m z):ZB m (-z):=by unfold ZB at *;omega
def ZB.add{m:Nat}{x y:Int}(hx:ZB m x)(hy:ZB m y):ZB (m+1) (x+y):=by
 unfold ZB at *;omega
def ZB.sub{m:Nat}{x y:Int}(hx:ZB m x)(hy:ZB m y):ZB (m+1) (x-y):=by
 exact hx.add hy.neg
def ZB.mul{m n:Nat}{x y:Int}(hx:ZB m x)(hy:ZB n y):ZB (m+n) (x*y):=by
 unfold ZB at *;rw [Int.natAbs_mul,Nat.pow_add]
 have a:x.natAbs*y.natAbs<=x.natAbs*2^n:=aN _ (Nat.le_of_lt hy)
 have b:x.natAbs*2^n<2^m*2^n:=Nat.mul_lt_mul_of_pos_right hx (aK dc)
 omega
def ZB.le{m:Nat}{x y:Int}(hx:ZB m x)(h:y.natAbs<=x.natAbs):ZB m y:=Nat.lt_of_le_of_lt h hx
def ZB.one{m:Nat}(h:1<=m):ZB m 1:=ZB.mono (m:=1) (by unfold ZB;decide) h
def ZB.zero{m:Nat}:ZB m 0:=aK dc
def A2u{k:IntKind}{j:Nat}(hj:0<j){h:aY}{A:Option aV}{n m:Nat}{x:Int}(M:Mag k ((2:Int)^j) h A n x)(hx:x<2^m):n<=m/j+1:=by
 refine M.len_le ?_ ?_
 ·have:=C8 (B:=2) dc hj;omega
 ·have e:((2:Int)^j)^(m/j+1)=2^(j*(m/j+1)):=by rw [Int.pow_mul]
  have:m<=j*(m/j+1):=by
   have a:=Nat.div_add_mod m j
   have b:=Nat.mod_lt m hj
   grind
  have:=C8 (B:=2) dc this
  omega
structure NI (h:aY) (s:Bool) (A:Option aV) (n c:Nat) (z:Int):Prop where
 mag:Mg h A n (z.natAbs:Int)
 sg:s=decide (z<0)
 cap:n<=c
section
variable {h h':aY} {K:VP} {A B:Option aV} {n c n' c':Nat} {s s':Bool} {x y z:Int} {m:Nat}
def NI.mono(hl:h.le h')(i:NI h s A n c z):NI h' s A n c z:=⟨i.mag.mono hl,i.sg,i.cap⟩
def NI.len(i:NI h s A n c z)(hz:ZB m z)(hm:m<=575000000000000):n<=18000000000000:=by
 have:=A2u (j:=32) dc i.mag (m:=m) (by unfold ZB at hz;grind)
 omega
def NI.zero_iff(i:NI h s A n c z):n=0↔z=0:=by
 have:=i.mag.len_zero dc
 omega
def NI.nil:NI h false A 0 0 0:=⟨Mag.zero,rfl,aM _⟩
def J8{neg:Bool}{x:Int}(M:Mg h A n x)(hc:n<=c)(hK:∀ s,NI h s A n c (if neg then -x else x)->K (.agg #[.bool s,.slice A n c]) h):aG prog 143 #[.bool neg,.slice A n c] h K:=by
 have a:=M.nonneg dc
 have b:=M.len_zero dc
 refine (fnk func143 (own:=[4])) ?_
 refine Br.of (fun e=>?_) (fun e=>?_)
 ·refine hK _ ⟨?_,?_,hc⟩
  ·grind
  grind
 ·refine hK _ ⟨?_,?_,hc⟩
  ·grind
  grind
def Jt(hz: -9223372036854775808<=z/\z<=9223372036854775807)(hK:∀ s A n c h',h.le h'->NI h' s A n c z->K (.agg #[.bool s,.slice A n c]) h'):aG prog 215 #[I z] h K:=by
 refine (fnk func215 (cs:=[(4,[3],[],[U 0])]) (own:=[2])) ?_
 refine ⟨fun l h'=>l=[U z.natAbs]/\h'=h,B6 (fun g=>⟨?_,rfl⟩) (fun g=>⟨?_,rfl⟩),?_⟩
 ·have:C3 (0-C3 z)=z.natAbs:=by rw [D9,D9];omega
  rw [this]
 ·have:C3 z=z.natAbs:=by rw [D9];omega
  rw [this]
 ·rintro u e ⟨q,rfl⟩
  obtain rfl:u=(z.natAbs:Int):=gz0
  rw [U2,Nu,L4 (n:=(z.natAbs:Int)/4294967296) o o]
  refine A8l Ii rfl rfl ?_
  intro b j
  refine ⟨_,_,_,rfl,?_⟩
  have a:Dig b32 [(z.natAbs:Int)%4294967296,(z.natAbs:Int)/4294967296]:=by
   intro d a
   grind
  refine S2 (xs:=[(z.natAbs:Int)%4294967296,(z.natAbs:Int)/4294967296]) (SlI.new e b _ 173 _) a (aM _) (by simp) ?_
  intro m k f
  have p:val b32 [(z.natAbs:Int)%4294967296,(z.natAbs:Int)/4294967296]=z.natAbs:=by
   simp only [val]
   grind
  refine ⟨_,_,_,rfl,?_⟩
  refine J8 f o ?_
  intro s i
  refine ⟨_,_,_,_,rfl,hK _ _ _ _ _ (Heap.le_put _ j) ?_⟩
  grind
def Sr(i:NI h s A n c z)(hK:K (I z.sign) h):aG prog 106 #[.agg #[.bool s,.slice A n c]] h K:=by
 have b:=i.zero_iff
 have a:=i.sg
 refine (fnk func106 (own:=[1])) ?_
 refine Br.of (fun e=>?_) (fun e=>?_)
 ·grind
 ·refine D5 (fun e=>?_) (fun e=>?_)
  ·grind
  grind
def Qo(i:NI h s A n c z)(hK:∀ s,NI h s A n c (-z)->K (.agg #[.bool s,.slice A n c]) h):aG prog 203 #[.agg #[.bool s,.slice A n c]] h K:=by
 refine (fnk func203 (own:=[1,2])) ?_
 refine J8 i.mag i.cap ?_
 intro b a
 refine ⟨_,_,_,_,rfl,hK _ ?_⟩
 have:(if (!s)=true then -(z.natAbs:Int) else (z.natAbs:Int))= -z:=by
  rw [i.sg]
  grind
 grind
def Yz(ia:NI h s A n c x)(ib:NI h s' B n' c' y)(hx:ZB m x)(hy:ZB m y)(hm:m<=575000000000000)(hK:∀ s A n c h',h.le h'->NI h' s A n c (x+y)->K (.agg #[.bool s,.slice A n c]) h'):aG prog 181 #[.agg #[.bool s,.slice A n c],.agg #[.bool s',.slice B n' c']] h K:=by
 have j:=ia.len hx hm
 have k:=ib.len hy hm
 refine (fnk func181 (own:=[2,3,4])) ?_
 have r:=ia.sg
 have q:=ib.sg
 refine Br.of (fun e=>?_) (fun e=>?_)
 ·refine Nj ia.mag ib.mag j k ?_
  intro A' p c1 g a b f
  refine ⟨_,_,_,rfl,a,?_⟩
  refine J8 f b ?_
  intro l i
  refine ⟨_,_,_,_,rfl,B4 _,hK _ _ _ _ _ a ?_⟩
  grind
 ·refine Nb ia.mag ib.mag o ⟨_,rfl,B6 (fun g=>?_) (fun g=>?_)⟩
  ·have d:(y.natAbs:Int)<=x.natAbs:=by
    omega
   refine Kx ia.mag ib.mag d j ?_
   intro A' p c1 g a b f
   refine ⟨_,_,_,rfl,a,?_⟩
   refine J8 f b ?_
   intro l i
   refine ⟨_,_,_,_,rfl,B4 _,hK _ _ _ _ _ a ?_⟩
   grind
  ·have d:(x.natAbs:Int)<=y.natAbs:=by
    omega
   refine Kx ib.mag ia.mag d k ?_
   intro A' p c1 g a b f
   refine ⟨_,_,_,rfl,a,?_⟩
   refine J8 f b ?_
   intro l i
   refine ⟨_,_,_,_,rfl,B4 _,hK _ _ _ _ _ a ?_⟩
   grind
def Sq(x y:Int)(p:Nat)(hs:s=decide (x<0))(hs':s'=decide (y<0)):(if (!(s==s'))=true then -(p:Int) else (p:Int))=x.sign*y.sign*p\/x=0\/y=0:=by
 grind
def Zh(x y:Int):x.tdiv y=x.sign*y.sign*((x.natAbs/y.natAbs:Nat):Int):=by
 have key:∀ a b:Nat,(a:Int).tdiv b=(a:Int).sign*(b:Int).sign*((a/b:Nat):Int):=by
  intro a b
  by_cases c:a=0
  ·simp_all
  grind
 obtain ⟨a,rfl|rfl⟩:=Int.eq_nat_or_neg x<;>obtain ⟨b,rfl|rfl⟩:=Int.eq_nat_or_neg y<;>simp only [Int.neg_tdiv,Int.tdiv_neg,Int.sign_neg,Int.natAbs_neg,aF,key]<;>grind
def Y7{m':Nat}(ia:NI h s A n c x)(ib:NI h s' B n' c' y)(hx:ZB m x)(hy:ZB m' y)(hm:m<=575000000000000)(hm':m'<=575000000000000)(hK:∀ s A n c h',h.le h'->NI h' s A n c (x*y)->K (.agg #[.bool s,.slice A n c]) h'):aG prog 175 #[.agg #[.bool s,.slice A n c],.agg #[.bool s',.slice B n' c']] h K:=by
 refine (fnk func175 (own:=[2,3,4])) ?_
 refine Lr ia.mag ib.mag (ia.len hx hm) (ib.len hy hm') ?_
 intro A' j c1 g a b d
 refine ⟨_,_,_,rfl,a,?_⟩
 refine J8 d b ?_
 intro i f
 refine ⟨_,_,_,_,rfl,B4 _,hK _ _ _ _ _ a ?_⟩
 have:(if (!(s==s'))=true then -((x.natAbs:Int)*y.natAbs) else (x.natAbs:Int)*y.natAbs)=x*y:=by
  rcases Sq x y (x.natAbs*y.natAbs) ia.sg ib.sg with e|e|e
  ·grind
  ·grind
  grind
 grind
def Lf(ia:NI h s A n c x)(ib:NI h s' B n' c' y)(hy0:y≠0)(hx:ZB m x)(hy:ZB m y)(hm:m<=575000000000000)(hK:∀ s A n c s' B n' c' h',h.le h'->NI h' s A n c (x.tdiv y)->NI h' s' B n' c' (x.tmod y)->K (.tuple #[.agg #[.bool s,.slice A n c],.agg #[.bool s',.slice B n' c']]) h'):aG prog 206 #[.agg #[.bool s,.slice A n c],.agg #[.bool s',.slice B n' c']] h K:=by
 refine (fnk func206 (os:=[(2,[0,1,2,3,4,5,7,8,9,6,10,11,12])]) (own:=[2,3,4,5])) ?_
 refine Ms ia.mag ib.mag o (ia.len hx hm) (ib.len hy hm) ?_
 intro A1 u c1 A2 l c2 p a d b M1 M2
 refine ⟨_,_,_,_,_,_,rfl,?_⟩
 refine J8 M1 d ?_
 intro t g
 refine ⟨_,_,_,_,rfl,B4 _,?_⟩
 refine J8 M2 b ?_
 intro i q
 refine ⟨_,_,_,_,rfl,B4 _,hK _ _ _ _ _ _ _ _ _ a ?_ ?_⟩
 ·have:(if (!(s==s'))=true then -((x.natAbs:Int)/y.natAbs) else (x.natAbs:Int)/y.natAbs)=x.tdiv y:=by
   rcases Sq x y (x.natAbs/y.natAbs) ia.sg ib.sg with e|e|e
   ·rw [aQ] at e
    rw [e,Zh,aQ]
   ·simp_all
   omega
  grind
 ·have:(if s=true then -((x.natAbs:Int)%y.natAbs) else (x.natAbs:Int)%y.natAbs)=x.tmod y:=by
   rw [ia.sg]
   by_cases r:x<0
   ·obtain ⟨k,rfl⟩:∃ k:Nat,x= -(k:Int):=⟨x.natAbs,o⟩
    rw [Int.neg_tmod,Int.natAbs_neg,aF]
    congr 1
    rw [<- aX o]
    by_cases f:y<0
    ·obtain ⟨j,rfl⟩:∃ j:Nat,y= -(j:Int):=⟨y.natAbs,o⟩
     simp_all
    grind
   ·rw [iN gz0]
    rw [Int.natAbs_of_nonneg o,<- aX o]
    by_cases f:y<0
    ·obtain ⟨j,rfl⟩:∃ j:Nat,y= -(j:Int):=⟨y.natAbs,o⟩
     simp_all
    grind
  grind
end
def L8(n:Nat):Nat:=if n=0 then 0 else Nat.log2 n+1
def Us:L8 0=0:=rfl
def A3t{n:Nat}(h:n≠0):L8 n=L8 (n/2)+1:=by
 unfold L8
 rw [iN h]
 by_cases a:n/2=0
 ·have:n=1:=o
  subst this;rfl
 ·rw [iN a,Nat.log2_def n,iP o]
def Bi{n:Nat}(h:n≠0):2^(L8 n-1)<=n/\n<2^L8 n:=by
 unfold L8
 rw [iN h,Nat.add_sub_cancel]
 exact ⟨Nat.log2_self_le h,Nat.lt_log2_self⟩
def Xe{n k:Nat}(h1:2^k<=n)(h2:n<2^(k+1)):L8 n=k+1:=by
 have c:n≠0:=o
 unfold L8
 rw [iN c]
 have a:=(Nat.le_log2 c).2 h1
 have b:=(Nat.log2_lt c).2 h2
 omega
def Pg{l t j:Nat}(hl:l<2^j)(ht:t≠0):L8 (l+2^j*t)=j+L8 t:=by
 obtain ⟨a,b⟩:=Bi ht
 have c:L8 t=L8 t-1+1:=gz0
 rw [c,<- Nat.add_assoc]
 apply Xe
 ·rw [Nat.pow_add]
  have:=aN (2^j) a
  omega
 ·have:=aN (2^j) (show t+1<=2^L8 t from o)
  grind
def Dx{n k:Nat}(h:n<2^k):L8 n<=k:=by
 by_cases a:n=0
 ·subst a;rw [Us];omega
 ·unfold L8;rw [iN a];have:=(Nat.log2_lt a).2 h;omega
def Yx{n:Nat}:L8 n=1↔n=1:=by
 constructor
 ·intro h
  by_cases a:n=0
  ·subst a;cases h
  ·have:=Bi a
   grind
 ·rintro rfl;rfl
def Xf{n:Nat}:1<L8 n↔1<n:=by
 by_cases b:n=0
 ·subst b;rfl
 by_cases a:n=1
 ·subst a;decide
 ·have c:L8 n≠0:=by unfold L8;grind
  have d:L8 n≠1:=fun e=>a (Yx.1 e)
  omega
section
variable {h h':aY} {K:VP} {A B:Option aV} {n c n' c':Nat} {s s':Bool} {x y z:Int} {m:Nat}
def A5k(ia:NI h s A n c x)(ib:NI h s' B n' c' y)(hx:ZB m x)(hy:ZB m y)(hm:m<=575000000000000)(hK:∀ s A n c h',h.le h'->NI h' s A n c (aJ x y)->K (.agg #[.bool s,.slice A n c]) h'):aG prog 204 #[.agg #[.bool s,.slice A n c],.agg #[.bool s',.slice B n' c']] h K:=by
 refine (fnk func204 [(2,[5,6],[],[.slice none 0 0,.slice none 0 0])] (own:=[2,3,4])) ?_
 refine ⟨fun l b=>∃ (A B:Option aV) (n c n' c' X Y:Nat),l=[.slice A n c,.slice B n' c']/\h.le b/\Mg b A n X/\Mg b B n' Y/\n<=c/\n'<=c'/\Nat.gcd X Y=aJ x y/\n<=18000000000000/\n'<=18000000000000,fun l b=>match l with|[_,.slice A n _]=>A2p b32 b A n|_=>0,⟨_,_,_,_,_,_,_,_,rfl,B4 h,ia.mag,ib.mag,ia.cap,ib.cap,rfl,ia.len hx hm,ib.len hy hm⟩,?_⟩
 rintro A1 E c1 B1 k c2 b ⟨A1',B1',i,e,d,f,X,Y,L,g,M1,M2,r,D,u,w,q⟩
 obtain ⟨⟨rfl,rfl,rfl⟩,rfl,rfl,rfl⟩:(A1=A1'/\E=i/\c1=e)/\B1=B1'/\k=d/\c2=f:=gz0
 have H:=M2.len_zero dc
 refine B6 (fun z=>?_) (fun z=>?_)
 ·have p:Y≠0:=o
  refine Ms M1 M2 o w q ?_
  intro A3 F M A4 N O h' a G C M3 M4
  have t:=Nat.mod_lt X (Nat.pos_of_ne_zero p)
  refine ⟨_,_,_,_,_,_,rfl,⟨_,_,_,_,_,_,Y,X%Y,rfl,B0 g a,M2.mono a,M4,D,C,?_,q,?_⟩,?_⟩
  ·rw [<- u,Nat.gcd_comm X Y,Nat.gcd_rec Y X,Nat.gcd_comm]
  ·have:=M4.len_le dc (j:=k) (Int.lt_trans (show ((X%Y:Nat):Int)<(Y:Int) from o) (M2.lt dc))
   omega
  ·simp only [T5 M4,T5 M2];omega
 ·have p:Y=0:=o
  refine J8 M1 r ?_
  grind
def Ut(i:NI h s A n c z)(hz:ZB m z)(hm:m<=575000000000000)(hK:K (I (L8 z.natAbs)) h):aG prog 205 #[.agg #[.bool s,.slice A n c]] h K:=by
 have Q:=i.len hz hm
 have r:=i.zero_iff
 refine (fnk func205 [(5,[3,4],[],[I 0,U32 0])] (own:=[1])) ?_
 refine D5 (fun e=>?_) (fun e=>?_)
 ·have:z=0:=r.1 o
  subst this;exact hK
 ·obtain ⟨a,d,D,j,L,V⟩:=i.mag
  obtain ⟨k,hk⟩:∃ k,a.length=k+1:=⟨a.length-1,o⟩
  have F:B9 ((n:Int)-1)=(k:Int):=by rw [B7 o o];omega
  have B:B9 (32*(k:Int))=((32*k:Nat):Int):=by rw [B7 o o];omega
  rw [F,B]
  refine D.load d o o ?_
  have S:=U9 j k
  have N:=Se hk L
  have u:32*k+L8 (a.getD k 0).toNat=L8 z.natAbs:=by
   have O:=F5 b32 a k
   have C:=J4 dc (j.take k)
   have M:=C5 dc (j.take k)
   rw [List.length_take,Nat.min_eq_left o] at C
   have T:b32^k=((2^(32*k):Nat):Int):=by
    rw [show b32=(2:Int)^32 from dc,<- Int.pow_mul];simp
   have g:z.natAbs=(val b32 (a.take k)).toNat+2^(32*k)*(a.getD k 0).toNat:=by
    grind
   rw [g,Pg o o]
  refine ⟨fun l p=>∃ (t k:Nat),l=[I k,U32 t]/\p=h/\k+L8 t=L8 z.natAbs/\t<4294967296,fun l _=>(iAt l 1).toNat,⟨(a.getD k 0).toNat,32*k,?_,rfl,u,o⟩,?_⟩
  ·grind
  ·rintro E q p ⟨t,b,H,rfl,f,w⟩
   obtain ⟨rfl,rfl⟩:E=(b:Int)/\q=(t:Int):=gz0
   have x:L8 z.natAbs<=m:=Dx hz
   refine B6 (fun y=>?_) (fun y=>?_)
   ·have g:Int.fdiv (t:Int) (2^(min ((1:Int)).toNat 32))=((t/2:Nat):Int):=by
     grind
    have R:=A3t (n:=t) o
    have G:B9 ((b:Int)+1)=((b+1:Nat):Int):=by rw [B7 o o];omega
    rw [g,G]
    exact ⟨⟨t/2,b+1,rfl,rfl,o,o⟩,by simp only [iAt,aZ,List.getElem?_cons_succ];omega⟩
   ·have:t=0:=o
    subst this
    rw [Us,Nat.add_zero] at f
    grind
end
structure QV where
 s:Bool
 A:Option aV
 n:Nat
 c:Nat
 s2:Bool
 A2:Option aV
 n2:Nat
 c2:Nat
abbrev QV.v(w:QV):Value:=.agg #[.bool w.s,.slice w.A w.n w.c,.bool w.s2,.slice w.A2 w.n2 w.c2]
structure NQ (h:aY) (w:QV) (q:Rat):Prop where
 num:NI h w.s w.A w.n w.c q.num
 den:NI h w.s2 w.A2 w.n2 w.c2 (if q.den=1 then 0 else (q.den:Int))
structure Sz (m:Nat) (q:Rat):Prop where
 num:ZB m q.num
 den:ZB m q.den
def Sz.mono{m n:Nat}{q:Rat}(h:Sz m q)(hm:m<=n):Sz n q:=⟨h.num.mono hm,h.den.mono hm⟩
def Sz.neg{m:Nat}{q:Rat}(h:Sz m q):Sz m (-q):=⟨by exact h.num.neg,by exact h.den⟩
def Hq{a b:Int}(hb:b≠0):(aD a b).num.natAbs<=a.natAbs/\(aD a b).den<=b.natAbs:=by
 rw [Rat.num_divInt,Rat.den_divInt,iN hb]
 constructor
 ·have c:(aJ b a:Int)∣b.sign*a:=Int.dvd_mul_of_dvd_right (Int.gcd_dvd_right b a)
  rw [Int.natAbs_ediv_of_dvd c,Int.natAbs_mul,aF]
  have:b.sign.natAbs=1:=by
   grind
  rw [this,Nat.one_mul]
  exact Nat.div_le_self _ _
 ·exact Nat.div_le_self _ _
def Ib{m:Nat}{a b:Int}(hb:b≠0)(h1:ZB m a)(h2:ZB m b):Sz m (aD a b):=by
 have:=Hq (a:=a) hb
 exact ⟨h1.le this.1,h2.le o⟩
def Bl(p q:Rat):p+q=aD (p.num*q.den+q.num*p.den) (p.den*q.den):=by
 rw [Rat.add_def',<- Int.natCast_mul,aP]
def Eo(p q:Rat):p*q=aD (p.num*q.num) (p.den*q.den):=by
 rw [Rat.mul_def',<- Int.natCast_mul,aP]
def Es(z:Int):aD z 1=(z:Rat):=by
 show aD z ((1:Nat):Int)=_
 rw [aP]
 apply Rat.ext
 ·rw [Rat.num_mkRat];simp
 ·rw [Rat.den_mkRat];simp
def den_ne(q:Rat):(q.den:Int)≠0:=by have:=q.den_nz;omega
def Pc(p q:Rat):p/q=aD (p.num*q.den) (p.den*q.num):=by
 rw [Rat.div_def,<- Rat.num_divInt_den p,<- Rat.num_divInt_den q,Rat.inv_divInt,Rat.divInt_mul_divInt]
 simp_all
def Sz.add{m n:Nat}{p q:Rat}(hp:Sz m p)(hq:Sz n q):Sz (m+n+1) (p+q):=by
 rw [Bl]
 refine Ib (aH (den_ne p) (den_ne q)) ?_ ((hp.den.mul hq.den).mono o)
 exact (hp.num.mul hq.den).add ((hq.num.mul hp.den).mono o)
def Sz.sub{m n:Nat}{p q:Rat}(hp:Sz m p)(hq:Sz n q):Sz (m+n+1) (p-q):=by
 rw [Rat.sub_eq_add_neg];exact hp.add hq.neg
def Sz.mul{m n:Nat}{p q:Rat}(hp:Sz m p)(hq:Sz n q):Sz (m+n) (p*q):=by
 rw [Eo]
 exact Ib (aH (den_ne p) (den_ne q)) (hp.num.mul hq.num) (hp.den.mul hq.den)
def Sz.zero{m:Nat}(hm:1<=m):Sz m 0:=⟨ZB.zero,ZB.one hm⟩
def Sz.inv{m:Nat}{q:Rat}(h:Sz m q)(hm:1<=m):Sz m q⁻¹:=by
 constructor
 ·rw [Rat.num_inv]
  refine h.den.le ?_
  grind
 ·rw [Rat.den_inv]
  split
  ·exact ZB.one hm
  ·have:=h.num
   assumption
def Sz.div{m n:Nat}{p q:Rat}(hp:Sz m p)(hq:Sz n q)(hn:1<=n):Sz (m+n) (p/q):=by
 exact hp.mul (hq.inv hn)
def Sz.int{m:Nat}{z:Int}(h:ZB m z)(hm:1<=m):Sz m (z:Rat):=⟨by assumption,by simpa using ZB.one hm⟩
section
variable {h h':aY} {K:VP} {A B:Option aV} {n c n' c':Nat} {s s':Bool} {x y z:Int} {m:Nat} {p q:Rat} {a b w:QV}
def NQ.mono(hl:h.le h')(i:NQ h w q):NQ h' w q:=⟨i.num.mono hl,i.den.mono hl⟩
def NQ.whole(i:NI h s A n c z){B:Option aV}:NQ h ⟨s,A,n,c,false,B,0,0⟩ (z:Rat):=⟨by assumption,by simpa using NI.nil⟩
def NQ.den_zero(i:NQ h w q):w.n2=0↔q.den=1:=by
 rw [i.den.zero_iff]
 have:=q.den_nz
 omega
def NQ.zero:NQ h ⟨false,none,0,0,false,none,0,0⟩ 0:=⟨NI.nil,NI.nil⟩
def T1(i:NQ h w q)(hK:∀ s A n c h',h.le h'->NI h' s A n c q.den->K (.agg #[.bool s,.slice A n c]) h'):aG prog 176 #[w.v] h K:=by
 refine (fnk func176 (own:=[1,2])) ?_
 have b:=i.den_zero
 refine D5 (fun e=>?_) (fun e=>?_)
 ·refine Jt dc ?_
  grind
 ·have a:=i.den
  rw [iN (fun d=>e o)] at a
  exact hK _ _ _ _ _ (B4 h) a
def Ho(ix:NI h s A n c x)(iy:NI h s' B n' c' y)(hy0:y≠0)(hx:ZB m x)(hy:ZB m y)(hm:m<=575000000000000)(hK:∀ w h',h.le h'->NQ h' w (aD x y)->K w.v h'):aG prog 144 #[.agg #[.bool s,.slice A n c],.agg #[.bool s',.slice B n' c']] h K:=by
 refine (fnk func144 (cs:=[(3,[],[(2,2),(3,2)],[.bool false,.slice none 0 0,.bool false,.slice none 0 0]),(7,[],[(2,2),(3,2)],[.bool false,.slice none 0 0,.bool false,.slice none 0 0]),(9,[],[(3,2)],[.bool false,.slice none 0 0])]) (os:=[(2,[0,2,1,3,4,5])]) (own:=[2,3,4,5])) ?_
 refine ⟨fun l k=>∃ s A n c s' B n' c' f d,l=[.bool s,.slice A n c,.bool s',.slice B n' c']/\h.le k/\NI k s A n c f/\NI k s' B n' c' d/\0<d/\aD f d=aD x y/\ZB m f/\ZB m d,Br.of (fun e=>?_) (fun e=>?_),?_⟩
 ·have aj:y<0:=by have:=iy.sg;grind
  refine Qo ix ?_
  intro s1 D
  refine ⟨_,_,_,_,rfl,B4 h,?_⟩
  refine Qo iy ?_
  intro s2 z
  exact ⟨_,_,_,_,rfl,B4 h,_,_,_,_,_,_,_,_,-x,-y,rfl,B4 h,D,z,o,Rat.neg_divInt_neg x y,hx.neg,hy.neg⟩
 ·have i:0<y:=by have:=iy.sg;grind
  exact ⟨_,_,_,_,_,_,_,_,x,y,rfl,B4 h,ix,iy,i,rfl,hx,hy⟩
 rintro s1 A1 n1 c1 s2 A2 n2 c2 am ⟨L,A1',af,Q,R,A2',N,W,f,d,hl,E,D,z,i,hq,u,p⟩
 obtain ⟨rfl,⟨rfl,rfl,rfl⟩,rfl,rfl,rfl,rfl⟩:s1=L/\(A1=A1'/\n1=af/\c1=Q)/\s2=R/\A2=A2'/\n2=N/\c2=W:=gz0
 refine A5k D z u p o ?_
 intro s3 A3 n3 c3 h3 t i3
 refine ⟨_,_,_,_,rfl,?_⟩
 rw [<- hq] at hK
 generalize hqq:aD f d=q at *
 have g:q.num=f/(aJ f d:Int):=by
  rw [<- hqq,Rat.num_divInt,Int.sign_eq_one_of_pos i,Int.one_mul,Int.gcd_comm]
 have j:(q.den:Int)=d/(aJ f d:Int):=by
  rw [<- hqq,Rat.den_divInt,iN o,Int.gcd_comm,aQ,Int.natAbs_of_nonneg o]
 have al:0<aJ f d:=Int.gcd_pos_of_ne_zero_right f o
 have r:ZB m (aJ f d:Int):=by
  refine p.le ?_
  exact Nat.le_of_dvd o (by have:=Int.gcd_dvd_right f d;exact Int.ofNat_dvd_left.1 this)
 refine ⟨fun l k=>∃ s A n c s' B n' c',l=[.bool s,.slice A n c,.bool s',.slice B n' c']/\h.le k/\NI k s A n c q.num/\NI k s' B n' c' q.den,?_,?_⟩
 ·refine Ut i3 r o ⟨_,rfl,?_⟩
  rw [aF]
  refine B6 (fun e=>?_) (fun e=>?_)
  ·refine Lf (D.mono t) i3 o u r o ?_
   intro M A4 S c4 s5 A5 n5 c5 h4 l4 F _
   refine ⟨_,_,_,_,_,_,_,_,rfl,?_⟩
   refine Lf ((z.mono t).mono l4) (i3.mono l4) o p r o ?_
   intro H A6 n6 c6 s7 A7 n7 c7 h5 l5 G _
   have e1:f.tdiv (aJ f d:Int)=q.num:=by rw [g,Int.tdiv_eq_ediv_of_dvd (Int.gcd_dvd_left f d)]
   have e2:d.tdiv (aJ f d:Int)=q.den:=gz0
   rw [e1] at F
   rw [e2] at G
   exact ⟨_,_,_,_,_,_,_,_,rfl,_,_,_,_,_,_,_,_,rfl,B0 E (B0 t (B0 l4 l5)),F.mono l5,G⟩
  ·have hg:aJ f d=1:=by
    have:¬ 1<L8 (aJ f d):=o
    rw [Xf] at this;omega
   rw [hg] at g j
   simp at g j
   exact ⟨_,_,_,_,_,_,_,_,rfl,B0 E t,by rw [g];exact D.mono t,by rw [j];exact z.mono t⟩
 rintro M A4 S c4 s5 A5 n5 c5 ae ⟨X,A4',ag,O,V,A5',ah,ad,ak,C,F,i5⟩
 obtain ⟨rfl,⟨rfl,rfl,rfl⟩,rfl,rfl,rfl,rfl⟩:M=X/\(A4=A4'/\S=ag/\c4=O)/\s5=V/\A5=A5'/\n5=ah/\c5=ad:=gz0
 have aa:ZB m (q.den:Int):=by
  refine p.le ?_
  have:=(Hq (a:=f) (b:=d) o).2
  grind
 refine ⟨fun l k=>∃ s' B n' c',l=[.bool s',.slice B n' c']/\k=ae/\NI k s' B n' c' (if q.den=1 then 0 else (q.den:Int)),?_,?_⟩
 ·refine Ut i5 aa o ⟨_,rfl,?_⟩
  rw [aF]
  refine D5 (fun e=>?_) (fun e=>?_)
  ·have:q.den=1:=Yx.1 o
   exact ⟨_,_,_,_,rfl,rfl,by rw [iP this];exact NI.nil⟩
  ·have:¬ q.den=1:=fun e1=>e (by rw [e1];rfl)
   grind
 rintro H A6 n6 c6 ao ⟨ai,A6',T,ac,an,rfl,G⟩
 obtain ⟨rfl,rfl,rfl,rfl⟩:H=ai/\A6=A6'/\n6=T/\c6=ac:=gz0
 exact hK ⟨M,A4,S,c4,H,A6,n6,c6⟩ _ C ⟨F,G⟩
def B02(hz: -9223372036854775808<=z/\z<=9223372036854775807)(hK:∀ w h',h.le h'->NQ h' w (z:Rat)->K w.v h'):aG prog 157 #[I z] h K:=by
 refine (fnk func157 (own:=[2])) ?_
 refine Jt hz ?_
 intro s A n c d b a
 exact ⟨_,_,_,_,rfl,hK ⟨s,A,n,c,false,none,0,0⟩ _ b (NQ.whole a)⟩
def V7(i:NQ h w q)(hK:K (I q.num.sign) h):aG prog 53 #[w.v] h K:=by
 refine (fnk func53 (own:=[1])) ?_
 exact Sr i.num ⟨_,rfl,hK⟩
def Su(i:NQ h w q)(hK:∀ w,NQ h w (-q)->K w.v h):aG prog 178 #[w.v] h K:=by
 refine (fnk func178 (os:=[(1,[0,1,3,4,2,5,6])]) (own:=[1,2])) ?_
 refine Qo i.num ?_
 intro b a
 exact ⟨_,_,_,_,rfl,B4 h,hK ⟨b,w.A,w.n,w.c,w.s2,w.A2,w.n2,w.c2⟩ ⟨a,i.den⟩⟩
def Gy(ia:NQ h a p)(ib:NQ h b q)(hp:Sz m p)(hq:Sz m q)(hm:m<=400000000)(hK:∀ w h',h.le h'->NQ h' w (p+q)->K w.v h'):aG prog 113 #[a.v,b.v] h K:=by
 have R:=ia.den_zero
 have O:=ib.den_zero
 refine (fnk func113 (cs:=[(2,[16],[],[.bool false])]) (os:=[(3,[0,1,2,5,6,7,11,13,3,4,8,9,10,12,14,15,16,17])]) (own:=[2,3,4])) ?_
 refine ⟨fun l h'=>l=[.bool (decide (p.den=1/\q.den=1))]/\h'=h,D5 (fun e=>?_) (fun e=>?_),?_⟩
 ·refine ⟨?_,rfl⟩
  have:((b.n2:Int)==0)=decide (p.den=1/\q.den=1):=by
   grind
  rw [this]
 ·grind
 rintro t F ⟨hl,rfl⟩
 obtain rfl:t=decide (p.den=1/\q.den=1):=gz0
 have f:=hp.num;have c:=hp.den;have g:=hq.num;have d:=hq.den
 refine B6 (fun e=>?_) (fun e=>?_)
 ·refine Yz ia.num ib.num f g o ?_
  intro C A1 E c1 N j y
  refine ⟨_,_,_,_,rfl,hK ⟨C,A1,E,c1,false,none,0,0⟩ _ j ?_⟩
  have:p+q=((p.num+q.num:Int):Rat):=by
   rw [Bl,e.1,e.2]
   show aD (p.num*1+q.num*1) (1*1)=_
   rw [aS,aS,aS,Es]
  rw [this];exact NQ.whole y
 ·refine T1 ib ?_
  intro C A1 E c1 N j y
  refine ⟨_,_,_,_,rfl,j,?_⟩
  refine Y7 (ia.num.mono j) y f d o o ?_
  intro s2 A2 n2 c2 h2 z G
  refine ⟨_,_,_,_,rfl,z,?_⟩
  refine T1 (ia.mono (B0 j z)) ?_
  intro s3 A3 n3 c3 h3 u Q
  refine ⟨_,_,_,_,rfl,u,?_⟩
  have k:=B0 j (B0 z u)
  refine Y7 (ib.num.mono k) Q g c o o ?_
  intro W A4 n4 c4 h4 x S
  refine ⟨_,_,_,_,rfl,x,?_⟩
  refine Yz (G.mono (B0 u x)) S (f.mul d) (g.mul c) o ?_
  intro s5 A5 n5 c5 h5 A L
  refine ⟨_,_,_,_,rfl,A,?_⟩
  have i:=B0 k (B0 x A)
  refine T1 (ia.mono i) ?_
  intro V A6 n6 c6 h6 r T
  refine ⟨_,_,_,_,rfl,r,?_⟩
  refine T1 (ib.mono (B0 i r)) ?_
  intro s7 A7 n7 c7 h7 n M
  refine ⟨_,_,_,_,rfl,n,?_⟩
  refine Y7 (T.mono n) M c d o o ?_
  intro X A8 n8 c8 h8 s H
  refine ⟨_,_,_,_,rfl,s,?_⟩
  refine Ho (m:=m+m+1) (L.mono (B0 r (B0 n s))) H (aH (den_ne p) (den_ne q)) ((f.mul d).add (g.mul c)) ((c.mul d).mono o) o ?_
  intro w h9 D B
  rw [<- Bl] at B
  exact ⟨_,_,_,_,_,_,_,_,rfl,D,hK w _ (B0 i (B0 r (B0 n (B0 s D)))) B⟩
def Ss(ia:NQ h a p)(ib:NQ h b q)(hp:Sz m p)(hq:Sz m q)(hm:m<=400000000)(hK:∀ w h',h.le h'->NQ h' w (p-q)->K w.v h'):aG prog 110 #[a.v,b.v] h K:=by
 refine (fnk func110 (own:=[2,3,4])) ?_
 refine Su ib ?_
 intro w i
 refine ⟨_,_,_,_,_,_,_,_,rfl,B4 h,?_⟩
 refine Gy ia i hp hq.neg hm ?_
 grind
def Gw(ia:NQ h a p)(ib:NQ h b q)(hp:Sz m p)(hq:Sz m q)(hm:m<=400000000)(hK:∀ w h',h.le h'->NQ h' w (p*q)->K w.v h'):aG prog 180 #[a.v,b.v] h K:=by
 have E:=ia.den_zero
 have C:=ib.den_zero
 refine (fnk func180 (cs:=[(2,[16],[],[.bool false])]) (os:=[(3,[0,1,2,3,5,7,4,6,8,9,10,11])]) (own:=[2,3,4])) ?_
 refine ⟨fun l h'=>l=[.bool (decide (p.den=1/\q.den=1))]/\h'=h,D5 (fun e=>?_) (fun e=>?_),?_⟩
 ·refine ⟨?_,rfl⟩
  have:((b.n2:Int)==0)=decide (p.den=1/\q.den=1):=by
   grind
  rw [this]
 ·grind
 rintro t z ⟨R,rfl⟩
 obtain rfl:t=decide (p.den=1/\q.den=1):=gz0
 have c:=hp.num;have g:=hp.den;have d:=hq.num;have i:=hq.den
 refine B6 (fun e=>?_) (fun e=>?_)
 ·refine Y7 ia.num ib.num c d o o ?_
  intro u A1 y c1 B f r
  refine ⟨_,_,_,_,rfl,hK ⟨u,A1,y,c1,false,none,0,0⟩ _ f ?_⟩
  have:p*q=((p.num*q.num:Int):Rat):=by
   rw [Eo,e.1,e.2]
   show aD (p.num*q.num) (1*1)=_
   rw [aS,Es]
  rw [this];exact NQ.whole r
 ·refine Y7 ia.num ib.num c d o o ?_
  intro u A1 y c1 B f r
  refine ⟨_,_,_,_,rfl,f,?_⟩
  refine T1 (ia.mono f) ?_
  intro N A2 O c2 H k A
  refine ⟨_,_,_,_,rfl,k,?_⟩
  refine T1 (ib.mono (B0 f k)) ?_
  intro V A3 L S T j D
  refine ⟨_,_,_,_,rfl,j,?_⟩
  refine Y7 (A.mono j) D g i o o ?_
  intro G A4 M X Q n F
  refine ⟨_,_,_,_,rfl,n,?_⟩
  refine Ho (m:=m+m) (r.mono (B0 k (B0 j n))) F (aH (den_ne p) (den_ne q)) (c.mul d) (g.mul i) o ?_
  intro w W x s
  rw [<- Eo] at s
  exact ⟨_,_,_,_,_,_,_,_,rfl,x,hK w _ (B0 f (B0 k (B0 j (B0 n x)))) s⟩
def Td(ia:NQ h a p)(ib:NQ h b q)(hp:Sz m p)(hq:Sz m q)(hm:m<=400000000)(hK:∀ w h',h.le h'->NQ h' w (p/q)->K w.v h'):aG prog 108 #[a.v,b.v] h K:=by
 refine (fnk func108 (os:=[(3,[0,1,2,5,7,8,3,4,6,9,10,11])]) (own:=[2,3,4])) ?_
 have d:=hp.num;have f:=hp.den;have i:=hq.num;have g:=hq.den
 refine V7 ib ⟨_,rfl,D5 (fun e=>?_) (fun e=>?_)⟩
 ·have x:q=0:=Rat.num_eq_zero.1 (Int.sign_eq_zero_iff_zero.1 e)
  have:=hK ⟨false,none,0,0,false,none,0,0⟩ h (B4 h) (by rw [x,Rat.div_def,Rat.inv_zero,Rat.mul_zero];exact NQ.zero)
  exact this
 ·have r:q.num≠0:=fun S=>e gz0
  refine T1 ib ?_
  intro N A1 T c1 L j A
  refine ⟨_,_,_,_,rfl,j,?_⟩
  refine Y7 (ia.num.mono j) A d g o o ?_
  intro F A2 G c2 C n u
  refine ⟨_,_,_,_,rfl,n,?_⟩
  refine T1 (ia.mono (B0 j n)) ?_
  intro Q A3 D M O k y
  refine ⟨_,_,_,_,rfl,k,?_⟩
  have c:=B0 j (B0 n k)
  refine Y7 y (ib.num.mono c) f i o o ?_
  intro B A4 E V H l z
  refine ⟨_,_,_,_,rfl,l,?_⟩
  refine Ho (m:=m+m) (u.mono (B0 k l)) z (aH (den_ne p) r) (d.mul g) (f.mul i) o ?_
  intro w R t s
  rw [<- Pc] at s
  exact ⟨_,_,_,_,_,_,_,_,rfl,t,hK w _ (B0 c (B0 l t)) s⟩
end
def dch(d:Nat):UInt8:=UInt8.ofNat (48+d)
def Be{d:Nat}(h:d<10):(dch d).toNat=48+d:=by
 unfold dch;rw [UInt8.toNat_ofNat'];omega
def F7(c:UInt8):Prop:=48<=c.toNat/\c.toNat<=57
instance (c:UInt8):Decidable (F7 c):=by unfold F7;infer_instance
def A91{d:Nat}(h:d<10):F7 (dch d):=by unfold F7;rw [Be h];omega
def A73{c:UInt8}(h:F7 c):dch (c.toNat-48)=c:=by
 unfold F7 at h
 apply UInt8.toNat_inj.1
 rw [Be o];omega
def dd(n:Nat):List UInt8:=if _h:n=0 then [] else dd (n/10)++[dch (n%10)]
def H9:dd 0=[]:=by unfold dd;simp
def T2{n:Nat}(h:n≠0):dd n=dd (n/10)++[dch (n%10)]:=by rw [dd];simp [h]
def I0(l:List UInt8):Nat:=l.foldl (fun a c=>10*a+(c.toNat-48)) 0
def Dt(l:List UInt8)(c:UInt8):I0 (l++[c])=10*I0 l+(c.toNat-48):=by simp [I0]
def A8u(l:List UInt8):∀ a,l.foldl (fun a c=>10*a+(c.toNat-48)) a=a*10^l.length+I0 l:=by
 induction l with
 | nil=>intro a;simp [I0]
 | cons c l ih=>
  intro a
  unfold I0
  rw [List.foldl_cons,List.foldl_cons,ih,ih,List.length_cons,aI]
  grind
def Ch(a b:List UInt8):I0 (a++b)=I0 a*10^b.length+I0 b:=by
 unfold I0;rw [List.foldl_append,A8u b];rfl
def A3d(c:UInt8)(l:List UInt8):I0 (c::l)=(c.toNat-48)*10^l.length+I0 l:=by
 rw [<- List.singleton_append,Ch];simp [I0]
def Ae{l:List UInt8}(h:∀ c∈l,F7 c):I0 l<10^l.length:=by
 induction l with
 | nil=>simp [I0]
 | cons c l ih=>
  have d:=ih fun x b=>h x (by simp [b])
  have a:=h c (by simp)
  unfold F7 at a
  rw [A3d,List.length_cons,aI]
  have:(c.toNat-48)*10^l.length<=9*10^l.length:=Nat.mul_le_mul_right _ o
  omega
def A8v(n:Nat):I0 (dd n)=n:=by
 induction n using aU with
 | _ n ih=>
  by_cases h:n=0
  ·subst h;rw [H9];rfl
  ·rw [T2 h,Dt,ih _ o,Be o];omega
def B1u(n:Nat):∀ c∈dd n,F7 c:=by
 induction n using aU with
 | _ n ih=>
  by_cases h:n=0
  ·subst h;rw [H9];simp
  ·rw [T2 h]
   intro c b
   rcases List.mem_append.1 b with a|a
   ·exact ih _ o c a
   ·rw [List.mem_singleton.1 a];exact A91 o
def A5u{n:Nat}(h:n≠0):dd n≠[]:=by rw [T2 h];simp
def A3k(n:Nat)(h:n≠0):(dd n).head? ≠ some 48:=by
 induction n using aU with
 | _ n ih=>
  rw [T2 h]
  by_cases a:n/10=0
  ·rw [a,H9]
   simp only [List.nil_append,List.head?_cons,ne_eq,Option.some.injEq]
   intro e
   have:=Be (d:=n%10) o
   rw [e] at this
   simp at this
   omega
  ·have:=ih _ o a
   obtain ⟨c,r,e⟩:=aW (A5u a)
   rw [e] at this ⊢
   simpa using this
def A3l{l:List UInt8}(h:∀ c∈l,F7 c)(h0:l.head? ≠ some 48):dd (I0 l)=l:=by
 obtain ⟨n,g⟩:∃ n,l.length=n:=⟨_,rfl⟩
 induction n generalizing l with
 | zero=>rw [aR g];exact H9
 | succ n ih=>
  obtain ⟨m,c,rfl⟩:∃ m c,l=m++[c]:=by
   refine ⟨l.dropLast,l.getLast (by rintro rfl;simp at g),?_⟩
   rw [List.dropLast_concat_getLast]
  have f:=h c (by simp)
  have b:=f
  unfold F7 at b
  rw [Dt]
  cases m with
  | nil=>
   simp at h0
   have k:c.toNat-48≠0:=by
    intro e
    apply h0
    apply UInt8.toNat_inj.1
    show c.toNat=48
    omega
   rw [T2 (by simp [I0];omega)]
   simp only [I0,List.foldl_nil,List.nil_append]
   rw [show (10*0+(c.toNat-48))/10=0 from o,H9,show (10*0+(c.toNat-48))%10=c.toNat-48 from o,A73 f];rfl
  | cons d m=>
   have a:=ih (l:=d::m) (fun x j=>h x (by simp at j ⊢;rcases j with h|h<;>simp [h])) (by simpa using h0) (by simpa using g)
   have i:I0 (d::m)≠0:=by
    intro e
    rw [e,H9] at a
    cases a
   rw [T2 o,show (10*I0 (d::m)+(c.toNat-48))/10=I0 (d::m) from o,a,show (10*I0 (d::m)+(c.toNat-48))%10=c.toNat-48 from o,A73 f]
def N5{n k:Nat}:(dd n).length<=k↔n<10^k:=by
 induction k generalizing n with
 | zero=>
  constructor
  ·intro h
   have:dd n=[]:=aR o
   by_cases a:n=0
   ·subst a;decide
   ·exact absurd this (A5u a)
  ·intro h
   have:n=0:=by simp at h;exact h
   subst this;rw [H9];simp
 | succ k ih=>
  by_cases a:n=0
  ·subst a;rw [H9];simp [aK]
  ·rw [T2 a,aO,List.length_singleton,Nat.add_le_add_iff_right,ih,aI]
   omega
def pad(w n:Nat):List UInt8:=List.replicate (w-(dd n).length) 48++dd n
def Yj(n:Nat):pad 0 n=dd n:=by simp [pad]
def Ou{w n:Nat}(h:n<10^w):(pad w n).length=w:=by
 have:=N5.2 h
 simp [pad];omega
def Kl(w n:Nat):pad (w+1) n=pad w (n/10)++[dch (n%10)]:=by
 unfold pad
 by_cases h:n=0
 ·subst h
  rw [H9]
  simp only [List.length_nil,Nat.sub_zero,List.append_nil,Nat.zero_mod]
  rw [List.replicate_succ'];rfl
 ·rw [T2 h,aO,List.length_singleton,Nat.add_sub_add_right,aL]
def B1t{h l k:Nat}(h0:h≠0)(hl:l<10^k):dd (h*10^k+l)=dd h++pad k l:=by
 induction k generalizing l with
 | zero=>
  have:l=0:=by simpa using hl
  subst this;simp [pad,H9]
 | succ k ih=>
  have d:0<10^k:=aK dc
  have a:h*10^(k+1)+l≠0:=by
   have:0<h*10^(k+1):=Nat.mul_pos o (aK dc)
   omega
  have c:(h*10^(k+1)+l)/10=h*10^k+l/10:=by
   rw [aI,<- Nat.mul_assoc];omega
  have b:(h*10^(k+1)+l)%10=l%10:=by
   rw [aI,<- Nat.mul_assoc];omega
  rw [T2 a,c,b,ih (by rw [aI] at hl;omega),Kl,aL]
def Tl{w h l k:Nat}(hl:l<10^k)(hw:h≠0\/k<=w):pad w (h*10^k+l)=pad (w-k) h++pad k l:=by
 by_cases b:h=0
 ·subst b
  have c:k<=w:=by
   rcases hw with h|h
   ·exact absurd rfl h
   ·exact h
  have:=N5.2 hl
  unfold pad
  rw [H9]
  simp only [Nat.zero_mul,Nat.zero_add,List.length_nil,Nat.sub_zero,List.append_nil,<- aL,List.replicate_append_replicate]
  congr 2;omega
 ·have e:=B1t b hl
  have a:=Ou hl
  unfold pad at a
  unfold pad at e ⊢
  rw [e,aO,a,<- aL]
  congr 3;omega
def K7(n:Nat):List UInt8:=if n=0 then [48] else dd n
def Z1{n:Nat}(h:n≠0):K7 n=dd n:=by simp [K7,h]
def S9(n:Nat):I0 (K7 n)=n:=by
 unfold K7;split
 ·rename_i h;subst h;rfl
 ·exact A8v n
def Ht(n:Nat):∀ c∈K7 n,F7 c:=by
 unfold K7;split
 ·intro c a;rw [List.mem_singleton.1 a];decide
 ·exact B1u n
def My(n:Nat):K7 n≠[]:=by
 unfold K7;split
 ·simp
 ·rename_i h;exact A5u h
def A5t{a b:Nat}(h:K7 a=K7 b):a=b:=by rw [<- S9 a,h,S9]
def Hs{l:List UInt8}(h:∀ c∈l,F7 c)(hn:l≠[])(h0:l.head? ≠ some 48\/l=[48]):K7 (I0 l)=l:=by
 rcases h0 with h0|h0
 ·have:=A3l h h0
  rw [Z1,this]
  intro e
  rw [e,H9] at this
  exact hn this.symm
 ·subst h0;rfl
def Hr{n k:Nat}(hk:0<k):(K7 n).length<=k↔n<10^k:=by
 by_cases h:n=0
 ·subst h;have:0<10^k:=aK dc;simp [K7];omega
 ·rw [Z1 h];exact N5
def Ej(z:Int):List UInt8:=if z<0 then 45::K7 z.natAbs else K7 z.natAbs
def H1(q:Rat):List UInt8:=Ej q.num++(if q.den=1 then [] else 47::K7 q.den)
structure Form (s:List UInt8) (neg:Bool) (a b:List UInt8):Prop where
 eq:s=(if neg then [45] else [])++a++(if b=[] then [] else 47::b)
 da:∀ c∈a,F7 c
 db:∀ c∈b,F7 c
 ne:a≠[]
 ha:a.head? ≠ some 48\/(a=[48]/\neg=false/\b=[])
 hb:b.head? ≠ some 48
 b1:b≠[49]
def Yr{c:UInt8}(h:F7 c):c≠45/\c≠47:=by
 unfold F7 at h
 constructor<;>(rintro rfl;grind)
def Bw{a r:List UInt8}(h:∀ c∈a,F7 c)(hr:∀ c,r.head? = some c->¬ F7 c):(a++r).takeWhile (fun c=>decide (F7 c))=a/\(a++r).dropWhile (fun c=>decide (F7 c))=r:=by
 induction a with
 | nil=>
  cases r with
  | nil=>simp
  | cons c r=>
   simp_all
 | cons c a ih=>
  simp_all
def Form.head{s:List UInt8}{neg:Bool}{a b:List UInt8}(f:Form s neg a b):neg=(s.head? == some 45):=by
 obtain ⟨c,r,e⟩:=aW f.ne
 have d:=(Yr (f.da c (by simp [e]))).1
 rw [f.eq,e]
 grind
def Form.unique{s:List UInt8}{neg neg':Bool}{a b a' b':List UInt8}(f:Form s neg a b)(g:Form s neg' a' b'):neg=neg'/\a=a'/\b=b':=by
 have l:neg=neg':=by rw [f.head,g.head]
 have e:=f.eq.symm.trans g.eq
 have i:∀ b:List UInt8,∀ c,(if b=[] then [] else 47::b:List UInt8).head? = some c->¬ F7 c:=by
  intro b c d
  split at d
  ·grind
  ·simp at d;subst d;decide
 have k:=Bw f.da (i b)
 have j:=Bw g.da (i b')
 grind
def Mz{q:Rat}(h:q.num=0):q.den=1:=by
 simp_all
def Dl(q:Rat):Form (H1 q) (decide (q.num<0)) (K7 q.num.natAbs) (if q.den=1 then [] else K7 q.den):=by
 constructor
 ·unfold H1 Ej
  by_cases a:q.num<0<;>by_cases b:q.den=1<;>simp [a,b,My]
 ·exact Ht _
 ·split
  ·simp
  ·exact Ht _
 ·exact My _
 ·by_cases h:q.num=0
  ·right
   rw [Mz h,h];simp [K7]
  ·left
   rw [Z1 o];exact A3k _ o
 ·split
  ·simp
  ·rw [Z1 q.den_nz];exact A3k _ q.den_nz
 ·split
  ·simp
  ·rename_i h
   intro e
   have c:K7 q.den=K7 1:=by rw [e];simp [K7,T2,H9,dch]
   exact h (A5t c)
def Ka(neg:Bool)(a:List UInt8):Int:=if neg then -(I0 a:Int) else I0 a
def Gc(b:List UInt8):Nat:=if b=[] then 1 else I0 b
def Mo{b:List UInt8}(h:∀ c∈b,F7 c)(hn:b≠[])(h0:b.head? ≠ some 48):I0 b≠0:=by
 intro e
 have:=A3l h h0
 rw [e,H9] at this
 grind
def Form.den_ne{s:List UInt8}{neg:Bool}{a b:List UInt8}(f:Form s neg a b):Gc b≠0:=by
 unfold Gc;split
 ·decide
 ·rename_i h;exact Mo f.db h f.hb
def Form.txt{s:List UInt8}{neg:Bool}{a b:List UInt8}(f:Form s neg a b){q:Rat}(h1:q.num=Ka neg a)(h2:q.den=Gc b):s=H1 q:=by
 have k:K7 (I0 a)=a:=Hs f.da f.ne (f.ha.imp id fun h=>h.1)
 have d:(Ka neg a).natAbs=I0 a:=by unfold Ka;omega
 have c:(Ka neg a<0)↔neg=true:=by
  unfold Ka
  cases neg
  ·simp
  ·simp only [if_true]
   constructor
   ·grind
   ·intro _
    have:I0 a≠0:=by
     rcases f.ha with h|h
     ·exact Mo f.da f.ne h
     grind
    omega
 have j:(Gc b=1)↔b=[]:=by
  unfold Gc
  split
  ·grind
  ·rename_i h
   constructor
   ·intro e
    exfalso
    have g:=Hs f.db h (Or.inl f.hb)
    rw [e] at g
    apply f.b1
    rw [<- g];simp [K7,T2,H9,dch]
   grind
 rw [f.eq]
 unfold H1 Ej
 by_cases i:b=[]
 ·grind
 ·have l:K7 (Gc b)=b:=by
   unfold Gc;rw [iN i];exact Hs f.db i (Or.inl f.hb)
  grind
def Form.of_txt{s:List UInt8}{neg:Bool}{a b:List UInt8}(f:Form s neg a b){q:Rat}(e:s=H1 q):q.num=Ka neg a/\q.den=Gc b:=by
 subst e
 obtain ⟨g,d,c⟩:=f.unique (Dl q)
 subst g d c
 constructor
 ·unfold Ka
  rw [S9]
  grind
 ·unfold Gc
  by_cases h:q.den=1
  ·simp [h]
  ·simp [h,My,S9]
def IsNum(s:List UInt8):Prop:=∃ q,s=H1 q
def Form.isNum{s:List UInt8}{neg:Bool}{a b:List UInt8}(f:Form s neg a b):IsNum s↔Nat.gcd (I0 a) (Gc b)=1:=by
 have c:(Ka neg a).natAbs=I0 a:=by unfold Ka;omega
 constructor
 ·rintro ⟨q,e⟩
  have:=f.of_txt e
  have d:=q.reduced
  grind
 ·intro h
  exact ⟨⟨Ka neg a,Gc b,f.den_ne,gz0⟩,f.txt rfl rfl⟩
def IsNum.form{s:List UInt8}(h:IsNum s):∃ neg a b,Form s neg a b:=by
 obtain ⟨q,rfl⟩:=h
 exact ⟨_,_,_,Dl q⟩
def A52(s:List UInt8):Rat:=
 let neg:=s.head? == some 45
 let t:=if neg then s.drop 1 else s
 mkRat (Ka neg (t.takeWhile fun c=>decide (F7 c))) (Gc ((t.dropWhile fun c=>decide (F7 c)).drop 1))
def rv(s:List UInt8):Rat:=if H1 (A52 s)=s then A52 s else 0
def D6(q:Rat):rv (H1 q)=q:=by
 have f:=Dl q
 have k:=f.head
 have d:∀ b:List UInt8,∀ c,(if b=[] then [] else 47::b:List UInt8).head? = some c->¬ F7 c:=by
  intro b c a
  split at a
  ·grind
  ·simp at a;subst a;decide
 have e:A52 (H1 q)=q:=by
  unfold A52
  simp only [<- k]
  generalize hb:(if q.den=1 then [] else K7 q.den)=b at f
  have j:(if decide (q.num<0)=true then (H1 q).drop 1 else H1 q)=K7 q.num.natAbs++(if b=[] then [] else 47::b):=by
   rw [f.eq]
   grind
  rw [j,(Bw f.da (d b)).1,(Bw f.da (d b)).2]
  have g:=f.of_txt rfl
  have i:(if b=[] then [] else 47::b:List UInt8).drop 1=b:=by
   grind
  rw [i,<- g.1,<- g.2,Rat.mkRat_self]
 unfold rv
 grind
def Xx{s:List UInt8}(h:¬ IsNum s):rv s=0:=by
 unfold rv
 rw [iN (fun e=>h ⟨_,e.symm⟩)]
def A0z{s:List UInt8}(h:IsNum s):H1 (rv s)=s:=by
 obtain ⟨q,rfl⟩:=h
 rw [D6]
def Form.rv_num{s:List UInt8}{neg:Bool}{a b:List UInt8}(f:Form s neg a b)(h:IsNum s):(rv s).num=Ka neg a/\(rv s).den=Gc b:=by
 obtain ⟨q,rfl⟩:=h
 rw [D6];exact f.of_txt rfl
