/- A part. -/
import Derived.Test.YtkfhdoblhajcbaaGreatDoorG14
import Derived.Test.YtkfhdoblhajcbaaGreatDoorG15
open Go.Proofs.Tryz
set_option linter.all false
open Int renaming mul_le_mul_of_nonneg_right->aC,le_of_lt->aE,natAbs_natCast->aF,mul_ne_zero->aH,gcd->aJ,natCast_ediv->aQ,mul_one->aS,mul_le_mul_of_nonneg_left->aT,tmod_eq_emod_of_nonneg->aX
open List renaming append_assoc->aL,length_append->aO,eq_nil_of_length_eq_zero->aR,exists_cons_of_ne_nil->aW,getElem?_cons_zero->aZ
open Nat renaming pow_succ->aI,pow_pos->aK,le_refl->aM,mul_le_mul_left->aN,strongRecOn->aU
open Rat renaming divInt->aD,divInt_ofNat->aP
open _root_.Go renaming Addr->aV
open _root_.Go.Proofs.YtkfhdoblhajcbaaGreatDoor renaming FCall->aG,Heap->aY
namespace Go.Proofs.YtkfhdoblhajcbaaGreatDoor
set_option maxRecDepth 20000
open Go
section
variable {h g:aY} {K:VP} {A B:Option aV} {ac bc:Nat}
def B6z{P:Program}{t e:TypeId}{z:Value}{bytes:Nat}(s:SliceT P t e z 1 bytes){u v:Value}(hu:u.cells=#[u])(hv:v.cells=#[v]){K:VP}{h:aY}
 (x:∀ b,h b=none->K (.slice (some ⟨b,0,none⟩) 2 2) (h.put b (.cells #[u,v] e))):wpH P (Instr.buildSlice t 2 #[(0,u),(1,v)]) K h:=by
 refine Bs s o (cells:=#[u,v]) ?_ x
 have a:(F5 z.cells 2).size=2:=by simp [F5,s.cells]
 have:F5 z.cells 2=#[(F5 z.cells 2)[0]'o,(F5 z.cells 2)[1]'o]:=by
  grind
 rw [this]
 simp [Instr.fill,hu,hv]
def Bu{B:Int}(hB:0<B){xs:List Int}(d:Dig B xs){m:Nat}(hl:xs.length=m+1):val B xs<(xs.getD m 0+1)*B^m/\xs.getD m 0*B^m<=val B xs:=by
 have a:=G9 B xs m
 have b:=L9 hB (d.take m)
 have c:=D0 hB (d.take m)
 grind
def A07{xs:List Int}{m:Nat}(hl:xs.length=m+1)(hn:Norm xs):xs.getD m 0≠0:=by
 intro a
 apply hn
 grind
def Ti{x y:Int}{an bn:Nat}(ma:Mg h A an x)(mb:Mg h B bn y)(hy:y≠0)(hl:an<=100000000)(hl2:bn<=100000000)
 (hK:∀ A1 m1 c1 A2 m2 c2 h',h.le h'->m1<=c1->m2<=c2->Mg h' A1 m1 (x/y)->Mg h' A2 m2 (x%y)->K (.tuple #[.slice A1 m1 c1,.slice A2 m2 c2]) h'):aG prog 138 #[.slice A an ac,.slice B bn bc] h K:=by
 have D:=ma.nonneg dc
 have ao:=mb.nonneg dc
 have az:=mb.len_zero dc
 have X:=ma.lt dc
 refine A84 _ _ _ _ _ _ ?_
 refine Tp ma mb o ⟨_,rfl,C0 (fun h1=>?_) (fun h1=>D5 (fun h2=>?_) (fun h2=>?_))⟩
 ·have E:x<y:=by
   omega
  rw [Int.ediv_eq_zero_of_lt D E,Int.emod_eq_of_lt D E] at hK
  obtain ⟨xs,rfl,sx,dx,nx,rfl⟩:=ma
  refine Om Oa ?_
  intro b hb
  refine ⟨_,_,_,rfl,?_⟩
  have c:=Heap.le_put (h:=h) (b:=b) (.cells #[] 197) hb
  have af:=SlI.mono c sx
  refine Ay Oa (Priv.nil _ _ _ _) (ys:=xs.map (Value.int .u32)) (by simp) af (fun v hv=>?_) o o ?_
  ·obtain ⟨a,_,rfl⟩:=List.mem_map.1 hv;rfl
  ·intro A' c' h' g' hg W
   have w:=W.slV
   simp only [Nat.zero_add] at W ⊢
   exact ⟨_,_,_,rfl,hK none 0 0 A' xs.length c' h' (B0 c (B0 hg W.le)) (aM _) W.2.1 Mag.zero ⟨xs,rfl,w,dx,nx,rfl⟩⟩
 ·obtain ⟨ys,rfl,V,R,ny,rfl⟩:=mb
  obtain ⟨d,rfl⟩:∃ d,ys=[d]:=by
   cases ys with
   | nil=>grind
   | cons d r=>
    grind
  rw [Z1] at hy ao hK
  have hd:=R d (by simp)
  refine V.load rfl o (by simp) ?_
  show aG _ _ #[_,U32 d] _ _
  refine Lh ma ⟨o,hd.2⟩ hl ?_
  intro A' m c' h' c hm a0 hM
  refine ⟨_,_,_,_,rfl,?_⟩
  refine Q7 Oa rfl ?_
  intro b hb
  refine ⟨_,_,_,rfl,?_⟩
  have q:=Heap.le_put (h:=h') (b:=b) (.cells #[U32 (x%d)] 197) hb
  have hr:0<=x%d/\x%d<4294967296:=by
   have h3:=Int.emod_nonneg x (show d≠0 from o)
   have h4:=Int.emod_lt_of_pos x (show 0<d from o)
   grind
  refine Ai (xs:=[x%d]) (SlI.new h' b [x%d] 197 _) (Dig.one hr) (aM _) (by simp) ?_
  intro m2 F p
  rw [Z1] at p
  exact ⟨_,_,_,rfl,hK _ _ _ _ _ _ _ (B0 c q) hm o (hM.mono q) p⟩
 ·have ap:y<=x:=by
   omega
  have a3:bn<=an:=mb.len_le dc (Int.lt_of_le_of_lt ap X)
  obtain ⟨xs,rfl,sx,dx,nx,rfl⟩:=ma
  obtain ⟨ys,rfl,V,R,ny,rfl⟩:=mb
  obtain ⟨mm,hmm⟩:∃ mm,ys.length=mm+2:=⟨ys.length-2,o⟩
  have gt:=Bq R (mm+1)
  have a1:=A07 (m:=mm+1) hmm ny
  obtain ⟨ad,M⟩:=Bu (B:=b32) dc R (m:=mm+1) hmm
  refine ⟨fun l h'=>∃ s:Nat,l=[U s]/\h'=h/\s<32/\ys.getD (mm+1) 0*2^s<4294967296,fun l _=>32-(iAt l 0).toNat,⟨0,rfl,rfl,o,o⟩,?_⟩
  rintro si aj ⟨s,ay,rfl,w,al⟩
  obtain rfl:si=(s:Int):=gz0
  have e1:C4 ((ys.length:Int)-1)=((mm+1:Nat):Int):=by rw [C1 o o];omega
  rw [e1]
  refine V.load rfl o o ?_
  refine C0 (fun e=>absurd e o) (fun _=>?_)
  have f:0<(2:Int)^s:=Int.pow_pos dc
  have ax:2^s<=ys.getD (mm+1) 0*2^s:=by
   have:=aC (show 1<=ys.getD (mm+1) 0 from o) (aE f);omega
  have e2:I6 (ys.getD (((mm+1:Nat):Int)).toNat 0*2^(min ((s:Int)).toNat 32))=ys.getD (mm+1) 0*2^s:=by
   rw [Int.toNat_natCast,Int.toNat_natCast,Nat.min_eq_left o,Q3 o al]
  refine C0 (fun h3=>?_) (fun h3=>?_)
  ·have H:s+1<32:=by
    grind
   have e3:C8 ((s:Int)+1)=((s+1:Nat):Int):=by rw [C6 o o];omega
   rw [e3]
   refine ⟨⟨s+1,rfl,rfl,H,?_⟩,by simp only [iAt,aZ];omega⟩
   rw [Int.pow_succ,<- Int.mul_assoc];omega
  ·have ag:val b32 ys*2^s<b32^(mm+2):=by
    have am:=Kw (Nat.le_of_lt w)
    have t1:ys.getD (mm+1) 0+1<=2^(32-s):=by
     by_cases u:ys.getD (mm+1) 0+1<=2^(32-s)
     ·exact u
     ·have:=aC (show (2:Int)^(32-s)<=ys.getD (mm+1) 0 from o) (aE f)
      grind
    have t2:val b32 ys*2^s<(ys.getD (mm+1) 0+1)*b32^(mm+1)*2^s:=Int.mul_lt_mul_of_pos_right ad f
    have t4:(ys.getD (mm+1) 0+1)*2^s*b32^(mm+1)<=4294967296*b32^(mm+1):=by
     apply aC _ (aE (E6 dc _))
     rw [<- am,Int.mul_comm (2^s)]
     simp_all
    rw [Int.pow_succ b32 (mm+1),Int.mul_comm (b32^(mm+1))]
    grind
   have a2:2147483648*b32^(mm+1)<=val b32 ys*2^s:=by
    have t1:ys.getD (mm+1) 0*b32^(mm+1)*2^s<=val b32 ys*2^s:=aC M (aE f)
    have t2:2147483648*b32^(mm+1)<=ys.getD (mm+1) 0*2^s*b32^(mm+1):=aC o (aE (E6 dc _))
    grind
   refine Je V R w o ?_
   intro bv zv ai Q ak aw
   refine ⟨_,_,_,rfl,?_⟩
   rw [<- Q]
   refine Ai (Aw _ _ _ _ _) ak (aM _) o ?_
   intro n hn g
   refine ⟨_,_,_,rfl,?_⟩
   rw [aw] at g
   have av:n=mm+2:=by
    have l1:=g.len_le dc ag
    have l2:=g.lt dc
    by_cases u:n=mm+2
    ·exact u
    ·have:=D8 (B:=b32) dc (show n<=mm+1 from o)
     have:=E6 (B:=b32) dc (mm+1)
     omega
   subst av
   obtain ⟨T,O,sv,dv,nv,L⟩:=g
   have ae:4294967296<=2*T.getD (mm+1) 0:=by
    obtain ⟨q1,q2⟩:=Bu (B:=b32) dc dv (m:=mm+1) O.symm
    have:2147483648<T.getD (mm+1) 0+1:=by
     by_cases u:2147483648<T.getD (mm+1) 0+1
     ·exact u
     ·have:=aC (show T.getD (mm+1) 0+1<=2147483648 from o) (aE (E6 (B:=b32) dc (mm+1)));omega
    omega
   have t:=Cm (k:=.u32) (e:=197) ai zv
   refine Je (SlI.mono t sx) dx w o ?_
   intro bu C aq ar S ah
   refine ⟨_,_,_,rfl,?_⟩
   obtain ⟨nq,hnq⟩:∃ nq,xs.length+1=nq+(mm+2):=⟨xs.length+1-(mm+2),o⟩
   have e4:C4 (C4 (C4 (((xs.length+1:Nat):Int)-((mm+2:Nat):Int))-1)+1)=(nq:Int):=by
    rw [C1 (n:=((xs.length+1:Nat):Int)-((mm+2:Nat):Int)) o o,C1 (n:=_-(1:Int)) o o,C1 o o];omega
   rw [e4]
   refine J9 Oa o o o ?_
   intro bq j
   refine ⟨_,_,_,rfl,?_⟩
   have z:bu≠bq:=by
    rintro rfl
    unfold blk at j
    rw [C3] at j;cases j
   have G:blk .u32 197 aj bv zv bq=none:=by
    have:=j
    unfold blk at this ⊢
    rwa [B9 _ _ z.symm] at this
   refine A81 (us0:=C) (N:=xs.length+1) aq G z sv dv O.symm ae w L rfl S ar ah hnq o o ?_ ?_
   ·have s1:=F7 b32 C (i:=nq) o
    have s2:=D0 dc (S.take nq)
    have s3:val b32 C<b32^xs.length*2^s:=by
     simp_all
    have s4:b32^(mm+1)<=val b32 ys:=by
     have:=aC (show 1<=ys.getD (mm+1) 0 from o) (aE (E6 (B:=b32) dc (mm+1)));omega
    have s5:b32^nq*(b32^(mm+1)*2^s)<=b32^nq*(val b32 ys*2^s):=aT (aC s4 (aE f)) (aE (E6 dc nq))
    have s6:b32^nq*(b32^(mm+1)*2^s)=b32^xs.length*2^s:=by
     grind
    by_cases u:val b32 (C.drop nq)<val b32 ys*2^s
    ·exact u
    ·have:=aT (show val b32 ys*2^s<=val b32 (C.drop nq) from o) (aE (E6 (B:=b32) dc nq));omega
   ·intro A1 m1 c1 A2 m2 c2 h' c au F aa p
    exact hK _ _ _ _ _ _ _ (B0 t c) au F aa p
end
def SlI.unique{k:IntKind}{h:aY}{A:Option aV}{xs ys:List Int}(s:SlI k h A xs)(t:SlI k h A ys)(hl:xs.length=ys.length):xs=ys:=by
 apply List.ext_getElem hl
 intro i f e
 obtain ⟨a,d,j⟩:=SlV.at s (i:=i) gz0
 obtain ⟨b,g,c⟩:=SlV.at t (i:=i) gz0
 grind
def A62(h:aY)(A:Option aV)(len:Nat):List Int:=(List.range len).map fun i=>
 match A with
 | some a=>(match h.cell? (a.add i) with|some (.int _ n)=>n|_=>0)
 | none=>0
def B0e(B:Int)(h:aY)(A:Option aV)(len:Nat):Nat:=(val B (A62 h A len)).toNat
def B1g{k:IntKind}{h:aY}{A:Option aV}{xs:List Int}(s:SlI k h A xs):A62 h A xs.length=xs:=by
 apply List.ext_getElem
 ·simp [A62]
 ·intro i d e
  obtain ⟨a,b,c⟩:=SlV.at s (i:=i) gz0
  subst b
  simp [A62,c]
def Be{k:IntKind}{B:Int}{h:aY}{A:Option aV}{len:Nat}{n:Int}(m:Mag k B h A len n):B0e B h A len=n.toNat:=by
 obtain ⟨a,rfl,s,_,_,rfl⟩:=m
 unfold B0e
 rw [B1g s]
def ZB(m:Nat)(z:Int):Prop:=z.natAbs<2^m
def ZB.mono{m n:Nat}{z:Int}(h:ZB m z)(hm:m<=n):ZB n z:=Nat.lt_of_lt_of_le h (Nat.pow_le_pow_right dc hm)
def ZB.neg{m:Nat}{z:Int}(h:ZB m z):ZB m (-z):=by unfold ZB at *;omega
def ZB.add{m:Nat}{x y:Int}(hx:ZB m x)(hy:ZB m y):ZB (m+1) (x+y):=by
 unfold ZB at *;omega
def ZB.sub{m:Nat}{x y:Int}(hx:ZB m x)(hy:ZB m y):ZB (m+1) (x-y):=by
 exact hx.add hy.neg
def ZB.mul{m n:Nat}{x y:Int}(hx:ZB m x)(hy:ZB n y):ZB (m+n) (x*y):=by
 unfold ZB at *;rw [Int.natAbs_mul,Nat.pow_add]
 have a:x.natAbs*y.natAbs<=x.natAbs*2^n:=aN _ (Nat.le_of_lt hy)
 have b:x.natAbs*2^n<2^m*2^n:=Nat.mul_lt_mul_of_pos_right hx (aK dc)
 omega
def ZB.le{m:Nat}{x y:Int}(hx:ZB m x)(h:y.natAbs<=x.natAbs):ZB m y:=Nat.lt_of_le_of_lt h hx
def ZB.one{m:Nat}(h:1<=m):ZB m 1:=ZB.mono (m:=1) (by unfold ZB;decide) h
def ZB.zero{m:Nat}:ZB m 0:=aK dc
def B0k{k:IntKind}{j:Nat}(hj:0<j){h:aY}{A:Option aV}{n m:Nat}{x:Int}(M:Mag k ((2:Int)^j) h A n x)(hx:x<2^m):n<=m/j+1:=by
 refine M.len_le ?_ ?_
 ·have:=D8 (B:=2) dc hj;omega
 ·have e:((2:Int)^j)^(m/j+1)=2^(j*(m/j+1)):=by rw [Int.pow_mul]
  have:m<=j*(m/j+1):=by
   have a:=Nat.div_add_mod m j
   have b:=Nat.mod_lt m hj
   grind
  have:=D8 (B:=2) dc this
  omega
structure NI (h:aY) (s:Bool) (A:Option aV) (n c:Nat) (z:Int):Prop where
 mag:Mg h A n (z.natAbs:Int)
 sg:s=decide (z<0)
 cap:n<=c
section
variable {h h':aY} {K:VP} {A B:Option aV} {n c n' c':Nat} {s s':Bool} {x y z:Int} {m:Nat}
def NI.mono(hl:h.le h')(i:NI h s A n c z):NI h' s A n c z:=⟨i.mag.mono hl,i.sg,i.cap⟩
def NI.len(i:NI h s A n c z)(hz:ZB m z)(hm:m<=1000000000):n<=100000000:=by
 have:=B0k (j:=32) dc i.mag (m:=m) (by unfold ZB at hz;grind)
 omega
def NI.zero_iff(i:NI h s A n c z):n=0↔z=0:=by
 have:=i.mag.len_zero dc
 omega
def NI.nil:NI h false A 0 0 0:=⟨Mag.zero,rfl,aM _⟩
def N4{neg:Bool}{x:Int}(M:Mg h A n x)(hc:n<=c)(hK:∀ s,NI h s A n c (if neg then -x else x)->K (.agg #[.bool s,.slice A n c]) h):aG prog 96 #[.bool neg,.slice A n c] h K:=by
 have a:=M.nonneg dc
 have b:=M.len_zero dc
 refine (fnk func96 (own:=[4])) ?_
 refine Br.of (fun e=>?_) (fun e=>?_)
 ·refine hK _ ⟨?_,?_,hc⟩
  ·grind
  grind
 ·refine hK _ ⟨?_,?_,hc⟩
  ·grind
  grind
def Cz(hz: -9223372036854775808<=z/\z<=9223372036854775807)(hK:∀ s A n c h',h.le h'->NI h' s A n c z->K (.agg #[.bool s,.slice A n c]) h'):aG prog 83 #[I z] h K:=by
 refine (fnk func83 (cs:=[(4,[3],[],[U 0])]) (own:=[2])) ?_
 refine ⟨fun l h'=>l=[U z.natAbs]/\h'=h,C0 (fun g=>⟨?_,rfl⟩) (fun g=>⟨?_,rfl⟩),?_⟩
 ·have:C8 (0-C8 z)=z.natAbs:=by rw [F2,F2];omega
  rw [this]
 ·have:C8 z=z.natAbs:=by rw [F2];omega
  rw [this]
 ·rintro u e ⟨q,rfl⟩
  obtain rfl:u=(z.natAbs:Int):=gz0
  rw [Bk,Uo,Q3 (n:=(z.natAbs:Int)/4294967296) o o]
  refine B6z Oa rfl rfl ?_
  intro b j
  refine ⟨_,_,_,rfl,?_⟩
  have a:Dig b32 [(z.natAbs:Int)%4294967296,(z.natAbs:Int)/4294967296]:=by
   intro d a
   grind
  refine Ai (xs:=[(z.natAbs:Int)%4294967296,(z.natAbs:Int)/4294967296]) (SlI.new e b _ 197 _) a (aM _) (by simp) ?_
  intro m k f
  have p:val b32 [(z.natAbs:Int)%4294967296,(z.natAbs:Int)/4294967296]=z.natAbs:=by
   simp only [val]
   grind
  refine ⟨_,_,_,rfl,?_⟩
  refine N4 f o ?_
  intro s i
  refine ⟨_,_,_,_,rfl,hK _ _ _ _ _ (Heap.le_put _ j) ?_⟩
  grind
def A0i(i:NI h s A n c z)(hK:K (I z.sign) h):aG prog 68 #[.agg #[.bool s,.slice A n c]] h K:=by
 have b:=i.zero_iff
 have a:=i.sg
 refine (fnk func68 (own:=[1])) ?_
 refine Br.of (fun e=>?_) (fun e=>?_)
 ·grind
 ·refine D5 (fun e=>?_) (fun e=>?_)
  ·grind
  grind
def Xz(i:NI h s A n c z)(hK:∀ s,NI h s A n c (-z)->K (.agg #[.bool s,.slice A n c]) h):aG prog 84 #[.agg #[.bool s,.slice A n c]] h K:=by
 refine (fnk func84 (own:=[1,2])) ?_
 refine N4 i.mag i.cap ?_
 intro b a
 refine ⟨_,_,_,_,rfl,hK _ ?_⟩
 have:(if (!s)=true then -(z.natAbs:Int) else (z.natAbs:Int))= -z:=by
  rw [i.sg]
  grind
 grind
def A66(ia:NI h s A n c x)(ib:NI h s' B n' c' y)(hx:ZB m x)(hy:ZB m y)(hm:m<=1000000000)(hK:∀ s A n c h',h.le h'->NI h' s A n c (x+y)->K (.agg #[.bool s,.slice A n c]) h'):aG prog 55 #[.agg #[.bool s,.slice A n c],.agg #[.bool s',.slice B n' c']] h K:=by
 have j:=ia.len hx hm
 have k:=ib.len hy hm
 refine (fnk func55 (own:=[2,3,4])) ?_
 have r:=ia.sg
 have q:=ib.sg
 refine Br.of (fun e=>?_) (fun e=>?_)
 ·refine Ua ia.mag ib.mag j k ?_
  intro A' p c1 g a b f
  refine ⟨_,_,_,rfl,a,?_⟩
  refine N4 f b ?_
  intro l i
  refine ⟨_,_,_,_,rfl,B7 _,hK _ _ _ _ _ a ?_⟩
  grind
 ·refine Tp ia.mag ib.mag o ⟨_,rfl,C0 (fun g=>?_) (fun g=>?_)⟩
  ·have d:(y.natAbs:Int)<=x.natAbs:=by
    omega
   refine Rm ia.mag ib.mag d j ?_
   intro A' p c1 g a b f
   refine ⟨_,_,_,rfl,a,?_⟩
   refine N4 f b ?_
   intro l i
   refine ⟨_,_,_,_,rfl,B7 _,hK _ _ _ _ _ a ?_⟩
   grind
  ·have d:(x.natAbs:Int)<=y.natAbs:=by
    omega
   refine Rm ib.mag ia.mag d k ?_
   intro A' p c1 g a b f
   refine ⟨_,_,_,rfl,a,?_⟩
   refine N4 f b ?_
   intro l i
   refine ⟨_,_,_,_,rfl,B7 _,hK _ _ _ _ _ a ?_⟩
   grind
def A0h(x y:Int)(p:Nat)(hs:s=decide (x<0))(hs':s'=decide (y<0)):(if (!(s==s'))=true then -(p:Int) else (p:Int))=x.sign*y.sign*p\/x=0\/y=0:=by
 grind
def A6g(x y:Int):x.tdiv y=x.sign*y.sign*((x.natAbs/y.natAbs:Nat):Int):=by
 have key:∀ a b:Nat,(a:Int).tdiv b=(a:Int).sign*(b:Int).sign*((a/b:Nat):Int):=by
  intro a b
  by_cases c:a=0
  ·simp_all
  grind
 obtain ⟨a,rfl|rfl⟩:=Int.eq_nat_or_neg x<;>obtain ⟨b,rfl|rfl⟩:=Int.eq_nat_or_neg y<;>simp only [Int.neg_tdiv,Int.tdiv_neg,Int.sign_neg,Int.natAbs_neg,aF,key]<;>grind
def Cv{m':Nat}(ia:NI h s A n c x)(ib:NI h s' B n' c' y)(hx:ZB m x)(hy:ZB m' y)(hm:m<=1000000000)(hm':m'<=1000000000)(hK:∀ s A n c h',h.le h'->NI h' s A n c (x*y)->K (.agg #[.bool s,.slice A n c]) h'):aG prog 57 #[.agg #[.bool s,.slice A n c],.agg #[.bool s',.slice B n' c']] h K:=by
 refine (fnk func57 (own:=[2,3,4])) ?_
 refine Sh ia.mag ib.mag (ia.len hx hm) (ib.len hy hm') ?_
 intro A' j c1 g a b d
 refine ⟨_,_,_,rfl,a,?_⟩
 refine N4 d b ?_
 intro i f
 refine ⟨_,_,_,_,rfl,B7 _,hK _ _ _ _ _ a ?_⟩
 have:(if (!(s==s'))=true then -((x.natAbs:Int)*y.natAbs) else (x.natAbs:Int)*y.natAbs)=x*y:=by
  rcases A0h x y (x.natAbs*y.natAbs) ia.sg ib.sg with e|e|e
  ·grind
  ·grind
  grind
 grind
def Rx(ia:NI h s A n c x)(ib:NI h s' B n' c' y)(hy0:y≠0)(hx:ZB m x)(hy:ZB m y)(hm:m<=1000000000)(hK:∀ s A n c s' B n' c' h',h.le h'->NI h' s A n c (x.tdiv y)->NI h' s' B n' c' (x.tmod y)->K (.tuple #[.agg #[.bool s,.slice A n c],.agg #[.bool s',.slice B n' c']]) h'):aG prog 102 #[.agg #[.bool s,.slice A n c],.agg #[.bool s',.slice B n' c']] h K:=by
 refine (fnk func102 (os:=[(2,[0,1,2,3,4,5,7,8,9,6,10,11,12])]) (own:=[2,3,4,5])) ?_
 refine Ti ia.mag ib.mag o (ia.len hx hm) (ib.len hy hm) ?_
 intro A1 u c1 A2 l c2 p a d b M1 M2
 refine ⟨_,_,_,_,_,_,rfl,?_⟩
 refine N4 M1 d ?_
 intro t g
 refine ⟨_,_,_,_,rfl,B7 _,?_⟩
 refine N4 M2 b ?_
 intro i q
 refine ⟨_,_,_,_,rfl,B7 _,hK _ _ _ _ _ _ _ _ _ a ?_ ?_⟩
 ·have:(if (!(s==s'))=true then -((x.natAbs:Int)/y.natAbs) else (x.natAbs:Int)/y.natAbs)=x.tdiv y:=by
   rcases A0h x y (x.natAbs/y.natAbs) ia.sg ib.sg with e|e|e
   ·rw [aQ] at e
    rw [e,A6g,aQ]
   ·simp_all
   omega
  grind
 ·have:(if s=true then -((x.natAbs:Int)%y.natAbs) else (x.natAbs:Int)%y.natAbs)=x.tmod y:=by
   rw [ia.sg]
   by_cases r:x<0
   ·obtain ⟨k,rfl⟩:∃ k:Nat,x= -(k:Int):=⟨x.natAbs,o⟩
    rw [Int.neg_tmod,Int.natAbs_neg,aF]
    congr 1
    rw [<- aX o]
    by_cases f:y<0
    ·obtain ⟨j,rfl⟩:∃ j:Nat,y= -(j:Int):=⟨y.natAbs,o⟩
     simp_all
    grind
   ·rw [iN gz0]
    rw [Int.natAbs_of_nonneg o,<- aX o]
    by_cases f:y<0
    ·obtain ⟨j,rfl⟩:∃ j:Nat,y= -(j:Int):=⟨y.natAbs,o⟩
     simp_all
    grind
  grind
end
def S0(n:Nat):Nat:=if n=0 then 0 else Nat.log2 n+1
def A2c:S0 0=0:=rfl
def B1j{n:Nat}(h:n≠0):S0 n=S0 (n/2)+1:=by
 unfold S0
 rw [iN h]
 by_cases a:n/2=0
 ·have:n=1:=o
  subst this;rfl
 ·rw [iN a,Nat.log2_def n,iP o]
def Ey{n:Nat}(h:n≠0):2^(S0 n-1)<=n/\n<2^S0 n:=by
 unfold S0
 rw [iN h,Nat.add_sub_cancel]
 exact ⟨Nat.log2_self_le h,Nat.lt_log2_self⟩
def A4j{n k:Nat}(h1:2^k<=n)(h2:n<2^(k+1)):S0 n=k+1:=by
 have c:n≠0:=o
 unfold S0
 rw [iN c]
 have a:=(Nat.le_log2 c).2 h1
 have b:=(Nat.log2_lt c).2 h2
 omega
def Wn{l t j:Nat}(hl:l<2^j)(ht:t≠0):S0 (l+2^j*t)=j+S0 t:=by
 obtain ⟨a,b⟩:=Ey ht
 have c:S0 t=S0 t-1+1:=gz0
 rw [c,<- Nat.add_assoc]
 apply A4j
 ·rw [Nat.pow_add]
  have:=aN (2^j) a
  omega
 ·have:=aN (2^j) (show t+1<=2^S0 t from o)
  grind
def Hv{n k:Nat}(h:n<2^k):S0 n<=k:=by
 by_cases a:n=0
 ·subst a;rw [A2c];omega
 ·unfold S0;rw [iN a];have:=(Nat.log2_lt a).2 h;omega
def A63{n:Nat}:S0 n=1↔n=1:=by
 constructor
 ·intro h
  by_cases a:n=0
  ·subst a;cases h
  ·have:=Ey a
   grind
 ·rintro rfl;rfl
def A4k{n:Nat}:1<S0 n↔1<n:=by
 by_cases b:n=0
 ·subst b;rfl
 by_cases a:n=1
 ·subst a;decide
 ·have c:S0 n≠0:=by unfold S0;grind
  have d:S0 n≠1:=fun e=>a (A63.1 e)
  omega
section
variable {h h':aY} {K:VP} {A B:Option aV} {n c n' c':Nat} {s s':Bool} {x y z:Int} {m:Nat}
def B3n(ia:NI h s A n c x)(ib:NI h s' B n' c' y)(hx:ZB m x)(hy:ZB m y)(hm:m<=1000000000)(hK:∀ s A n c h',h.le h'->NI h' s A n c (aJ x y)->K (.agg #[.bool s,.slice A n c]) h'):aG prog 100 #[.agg #[.bool s,.slice A n c],.agg #[.bool s',.slice B n' c']] h K:=by
 refine (fnk func100 [(2,[5,6],[],[.slice none 0 0,.slice none 0 0])] (own:=[2,3,4])) ?_
 refine ⟨fun l b=>∃ (A B:Option aV) (n c n' c' X Y:Nat),l=[.slice A n c,.slice B n' c']/\h.le b/\Mg b A n X/\Mg b B n' Y/\n<=c/\n'<=c'/\Nat.gcd X Y=aJ x y/\n<=100000000/\n'<=100000000,fun l b=>match l with|[_,.slice A n _]=>B0e b32 b A n|_=>0,⟨_,_,_,_,_,_,_,_,rfl,B7 h,ia.mag,ib.mag,ia.cap,ib.cap,rfl,ia.len hx hm,ib.len hy hm⟩,?_⟩
 rintro A1 E c1 B1 p c2 b ⟨A1',B1',i,e,d,f,X,Y,L,g,M1,M2,r,D,u,w,q⟩
 obtain ⟨⟨rfl,rfl,rfl⟩,rfl,rfl,rfl⟩:(A1=A1'/\E=i/\c1=e)/\B1=B1'/\p=d/\c2=f:=gz0
 have H:=M2.len_zero dc
 refine C0 (fun z=>?_) (fun z=>?_)
 ·have k:Y≠0:=o
  refine Ti M1 M2 o w q ?_
  intro A3 F c3 A4 M c4 h' a G C M3 M4
  have t:=Nat.mod_lt X (Nat.pos_of_ne_zero k)
  refine ⟨_,_,_,_,_,_,rfl,⟨_,_,_,_,_,_,Y,X%Y,rfl,B0 g a,M2.mono a,M4,D,C,?_,q,?_⟩,?_⟩
  ·rw [<- u,Nat.gcd_comm X Y,Nat.gcd_rec Y X,Nat.gcd_comm]
  ·have:=M4.len_le dc (j:=p) (Int.lt_trans (show ((X%Y:Nat):Int)<(Y:Int) from o) (M2.lt dc))
   omega
  ·simp only [Be M4,Be M2];omega
 ·have k:Y=0:=o
  refine N4 M1 r ?_
  grind
def A2d(i:NI h s A n c z)(hz:ZB m z)(hm:m<=1000000000)(hK:K (I (S0 z.natAbs)) h):aG prog 101 #[.agg #[.bool s,.slice A n c]] h K:=by
 have R:=i.len hz hm
 have r:=i.zero_iff
 refine (fnk func101 [(5,[3,4],[],[I 0,U32 0])] (own:=[1])) ?_
 refine D5 (fun e=>?_) (fun e=>?_)
 ·have:z=0:=r.1 o
  subst this;exact hK
 ·obtain ⟨a,d,E,j,M,W⟩:=i.mag
  obtain ⟨k,hk⟩:∃ k,a.length=k+1:=⟨a.length-1,o⟩
  have G:C4 ((n:Int)-1)=(k:Int):=by rw [C1 o o];omega
  have C:C4 (32*(k:Int))=((32*k:Nat):Int):=by rw [C1 o o];omega
  rw [G,C]
  refine E.load d o o ?_
  have T:=Bq j k
  have O:=A07 hk M
  have u:32*k+S0 (a.getD k 0).toNat=S0 z.natAbs:=by
   have Q:=G9 b32 a k
   have D:=L9 dc (j.take k)
   have N:=D0 dc (j.take k)
   rw [List.length_take,Nat.min_eq_left o] at D
   have V:b32^k=((2^(32*k):Nat):Int):=by
    rw [show b32=(2:Int)^32 from dc,<- Int.pow_mul];simp
   have g:z.natAbs=(val b32 (a.take k)).toNat+2^(32*k)*(a.getD k 0).toNat:=by
    grind
   rw [g,Wn o o]
  refine ⟨fun l p=>∃ (t k:Nat),l=[I k,U32 t]/\p=h/\k+S0 t=S0 z.natAbs/\t<4294967296,fun l _=>(iAt l 1).toNat,⟨(a.getD k 0).toNat,32*k,?_,rfl,u,o⟩,?_⟩
  ·grind
  ·rintro F q p ⟨t,b,L,rfl,f,w⟩
   obtain ⟨rfl,rfl⟩:F=(b:Int)/\q=(t:Int):=gz0
   have y:S0 z.natAbs<=m:=Hv hz
   refine C0 (fun B=>?_) (fun B=>?_)
   ·have g:Int.fdiv (t:Int) (2^(min ((1:Int)).toNat 32))=((t/2:Nat):Int):=by
     grind
    have S:=B1j (n:=t) o
    have H:C4 ((b:Int)+1)=((b+1:Nat):Int):=by rw [C1 o o];omega
    rw [g,H]
    exact ⟨⟨t/2,b+1,rfl,rfl,o,o⟩,by simp only [iAt,aZ,List.getElem?_cons_succ];omega⟩
   ·have:t=0:=o
    subst this
    rw [A2c,Nat.add_zero] at f
    grind
end
structure QV where
 s:Bool
 A:Option aV
 n:Nat
 c:Nat
 s2:Bool
 A2:Option aV
 n2:Nat
 c2:Nat
abbrev QV.v(w:QV):Value:=.agg #[.bool w.s,.slice w.A w.n w.c,.bool w.s2,.slice w.A2 w.n2 w.c2]
structure NQ (h:aY) (w:QV) (q:Rat):Prop where
 num:NI h w.s w.A w.n w.c q.num
 den:NI h w.s2 w.A2 w.n2 w.c2 (if q.den=1 then 0 else (q.den:Int))
structure Sz (m:Nat) (q:Rat):Prop where
 num:ZB m q.num
 den:ZB m q.den
def Sz.mono{m n:Nat}{q:Rat}(h:Sz m q)(hm:m<=n):Sz n q:=⟨h.num.mono hm,h.den.mono hm⟩
def Sz.neg{m:Nat}{q:Rat}(h:Sz m q):Sz m (-q):=⟨by exact h.num.neg,by exact h.den⟩
def Tj{a b:Int}(hb:b≠0):(aD a b).num.natAbs<=a.natAbs/\(aD a b).den<=b.natAbs:=by
 rw [Rat.num_divInt,Rat.den_divInt,iN hb]
 constructor
 ·have c:(aJ b a:Int)∣b.sign*a:=Int.dvd_mul_of_dvd_right (Int.gcd_dvd_right b a)
  rw [Int.natAbs_ediv_of_dvd c,Int.natAbs_mul,aF]
  have:b.sign.natAbs=1:=by
   grind
  rw [this,Nat.one_mul]
  exact Nat.div_le_self _ _
 ·exact Nat.div_le_self _ _
def T3{m:Nat}{a b:Int}(hb:b≠0)(h1:ZB m a)(h2:ZB m b):Sz m (aD a b):=by
 have:=Tj (a:=a) hb
 exact ⟨h1.le this.1,h2.le o⟩
def Fb(p q:Rat):p+q=aD (p.num*q.den+q.num*p.den) (p.den*q.den):=by
 rw [Rat.add_def',<- Int.natCast_mul,aP]
def Ip(p q:Rat):p*q=aD (p.num*q.num) (p.den*q.den):=by
 rw [Rat.mul_def',<- Int.natCast_mul,aP]
def Is(z:Int):aD z 1=(z:Rat):=by
 show aD z ((1:Nat):Int)=_
 rw [aP]
 apply Rat.ext
 ·rw [Rat.num_mkRat];simp
 ·rw [Rat.den_mkRat];simp
def den_ne(q:Rat):(q.den:Int)≠0:=by have:=q.den_nz;omega
def A7s(p q:Rat):p/q=aD (p.num*q.den) (p.den*q.num):=by
 rw [Rat.div_def,<- Rat.num_divInt_den p,<- Rat.num_divInt_den q,Rat.inv_divInt,Rat.divInt_mul_divInt]
 simp_all
def Sz.add{m n:Nat}{p q:Rat}(hp:Sz m p)(hq:Sz n q):Sz (m+n+1) (p+q):=by
 rw [Fb]
 refine T3 (aH (den_ne p) (den_ne q)) ?_ ((hp.den.mul hq.den).mono o)
 exact (hp.num.mul hq.den).add ((hq.num.mul hp.den).mono o)
def Sz.sub{m n:Nat}{p q:Rat}(hp:Sz m p)(hq:Sz n q):Sz (m+n+1) (p-q):=by
 rw [Rat.sub_eq_add_neg];exact hp.add hq.neg
def Sz.mul{m n:Nat}{p q:Rat}(hp:Sz m p)(hq:Sz n q):Sz (m+n) (p*q):=by
 rw [Ip]
 exact T3 (aH (den_ne p) (den_ne q)) (hp.num.mul hq.num) (hp.den.mul hq.den)
def Sz.zero{m:Nat}(hm:1<=m):Sz m 0:=⟨ZB.zero,ZB.one hm⟩
def Sz.inv{m:Nat}{q:Rat}(h:Sz m q)(hm:1<=m):Sz m q⁻¹:=by
 constructor
 ·rw [Rat.num_inv]
  refine h.den.le ?_
  grind
 ·rw [Rat.den_inv]
  split
  ·exact ZB.one hm
  ·have:=h.num
   assumption
def Sz.div{m n:Nat}{p q:Rat}(hp:Sz m p)(hq:Sz n q)(hn:1<=n):Sz (m+n) (p/q):=by
 exact hp.mul (hq.inv hn)
def Sz.int{m:Nat}{z:Int}(h:ZB m z)(hm:1<=m):Sz m (z:Rat):=⟨by assumption,by simpa using ZB.one hm⟩
section
variable {h h':aY} {K:VP} {A B:Option aV} {n c n' c':Nat} {s s':Bool} {x y z:Int} {m:Nat} {p q:Rat} {a b w:QV}
def NQ.mono(hl:h.le h')(i:NQ h w q):NQ h' w q:=⟨i.num.mono hl,i.den.mono hl⟩
def NQ.whole(i:NI h s A n c z){B:Option aV}:NQ h ⟨s,A,n,c,false,B,0,0⟩ (z:Rat):=⟨by assumption,by simpa using NI.nil⟩
def NQ.den_zero(i:NQ h w q):w.n2=0↔q.den=1:=by
 rw [i.den.zero_iff]
 have:=q.den_nz
 omega
def NQ.zero:NQ h ⟨false,none,0,0,false,none,0,0⟩ 0:=⟨NI.nil,NI.nil⟩
def Au(i:NQ h w q)(hK:∀ s A n c h',h.le h'->NI h' s A n c q.den->K (.agg #[.bool s,.slice A n c]) h'):aG prog 58 #[w.v] h K:=by
 refine (fnk func58 (own:=[1,2])) ?_
 have b:=i.den_zero
 refine D5 (fun e=>?_) (fun e=>?_)
 ·refine Cz dc ?_
  grind
 ·have a:=i.den
  rw [iN (fun d=>e o)] at a
  exact hK _ _ _ _ _ (B7 h) a
def Hq(ix:NI h s A n c x)(iy:NI h s' B n' c' y)(hy0:y≠0)(hx:ZB m x)(hy:ZB m y)(hm:m<=1000000000)(hK:∀ w h',h.le h'->NQ h' w (aD x y)->K w.v h'):aG prog 56 #[.agg #[.bool s,.slice A n c],.agg #[.bool s',.slice B n' c']] h K:=by
 refine (fnk func56 (cs:=[(3,[],[(2,2),(3,2)],[.bool false,.slice none 0 0,.bool false,.slice none 0 0]),(7,[],[(2,2),(3,2)],[.bool false,.slice none 0 0,.bool false,.slice none 0 0]),(9,[],[(3,2)],[.bool false,.slice none 0 0])]) (os:=[(2,[0,2,1,3,4,5])]) (own:=[2,3,4,5])) ?_
 refine ⟨fun l k=>∃ s A n c s' B n' c' f d,l=[.bool s,.slice A n c,.bool s',.slice B n' c']/\h.le k/\NI k s A n c f/\NI k s' B n' c' d/\0<d/\aD f d=aD x y/\ZB m f/\ZB m d,Br.of (fun e=>?_) (fun e=>?_),?_⟩
 ·have aj:y<0:=by have:=iy.sg;grind
  refine Xz ix ?_
  intro s1 D
  refine ⟨_,_,_,_,rfl,B7 h,?_⟩
  refine Xz iy ?_
  intro s2 z
  exact ⟨_,_,_,_,rfl,B7 h,_,_,_,_,_,_,_,_,-x,-y,rfl,B7 h,D,z,o,Rat.neg_divInt_neg x y,hx.neg,hy.neg⟩
 ·have i:0<y:=by have:=iy.sg;grind
  exact ⟨_,_,_,_,_,_,_,_,x,y,rfl,B7 h,ix,iy,i,rfl,hx,hy⟩
 rintro s1 A1 n1 c1 s2 A2 n2 c2 am ⟨L,A1',af,Q,R,A2',N,W,f,d,hl,E,D,z,i,hq,u,p⟩
 obtain ⟨rfl,⟨rfl,rfl,rfl⟩,rfl,rfl,rfl,rfl⟩:s1=L/\(A1=A1'/\n1=af/\c1=Q)/\s2=R/\A2=A2'/\n2=N/\c2=W:=gz0
 refine B3n D z u p hm ?_
 intro s3 A3 n3 c3 h3 t i3
 refine ⟨_,_,_,_,rfl,?_⟩
 rw [<- hq] at hK
 generalize hqq:aD f d=q at *
 have g:q.num=f/(aJ f d:Int):=by
  rw [<- hqq,Rat.num_divInt,Int.sign_eq_one_of_pos i,Int.one_mul,Int.gcd_comm]
 have j:(q.den:Int)=d/(aJ f d:Int):=by
  rw [<- hqq,Rat.den_divInt,iN o,Int.gcd_comm,aQ,Int.natAbs_of_nonneg o]
 have al:0<aJ f d:=Int.gcd_pos_of_ne_zero_right f o
 have r:ZB m (aJ f d:Int):=by
  refine p.le ?_
  exact Nat.le_of_dvd o (by have:=Int.gcd_dvd_right f d;exact Int.ofNat_dvd_left.1 this)
 refine ⟨fun l k=>∃ s A n c s' B n' c',l=[.bool s,.slice A n c,.bool s',.slice B n' c']/\h.le k/\NI k s A n c q.num/\NI k s' B n' c' q.den,?_,?_⟩
 ·refine A2d i3 r hm ⟨_,rfl,?_⟩
  rw [aF]
  refine C0 (fun e=>?_) (fun e=>?_)
  ·refine Rx (D.mono t) i3 o u r hm ?_
   intro M A4 S c4 s5 A5 n5 c5 h4 l4 F _
   refine ⟨_,_,_,_,_,_,_,_,rfl,?_⟩
   refine Rx ((z.mono t).mono l4) (i3.mono l4) o p r hm ?_
   intro H A6 n6 c6 s7 A7 n7 c7 h5 l5 G _
   have e1:f.tdiv (aJ f d:Int)=q.num:=by rw [g,Int.tdiv_eq_ediv_of_dvd (Int.gcd_dvd_left f d)]
   have e2:d.tdiv (aJ f d:Int)=q.den:=gz0
   rw [e1] at F
   rw [e2] at G
   exact ⟨_,_,_,_,_,_,_,_,rfl,_,_,_,_,_,_,_,_,rfl,B0 E (B0 t (B0 l4 l5)),F.mono l5,G⟩
  ·have hg:aJ f d=1:=by
    have:¬ 1<S0 (aJ f d):=o
    rw [A4k] at this;omega
   rw [hg] at g j
   simp at g j
   exact ⟨_,_,_,_,_,_,_,_,rfl,B0 E t,by rw [g];exact D.mono t,by rw [j];exact z.mono t⟩
 rintro M A4 S c4 s5 A5 n5 c5 ae ⟨X,A4',ag,O,V,A5',ah,ad,ak,C,F,i5⟩
 obtain ⟨rfl,⟨rfl,rfl,rfl⟩,rfl,rfl,rfl,rfl⟩:M=X/\(A4=A4'/\S=ag/\c4=O)/\s5=V/\A5=A5'/\n5=ah/\c5=ad:=gz0
 have aa:ZB m (q.den:Int):=by
  refine p.le ?_
  have:=(Tj (a:=f) (b:=d) o).2
  grind
 refine ⟨fun l k=>∃ s' B n' c',l=[.bool s',.slice B n' c']/\k=ae/\NI k s' B n' c' (if q.den=1 then 0 else (q.den:Int)),?_,?_⟩
 ·refine A2d i5 aa hm ⟨_,rfl,?_⟩
  rw [aF]
  refine D5 (fun e=>?_) (fun e=>?_)
  ·have:q.den=1:=A63.1 o
   exact ⟨_,_,_,_,rfl,rfl,by rw [iP this];exact NI.nil⟩
  ·have:¬ q.den=1:=fun e1=>e (by rw [e1];rfl)
   grind
 rintro H A6 n6 c6 ao ⟨ai,A6',T,ac,an,rfl,G⟩
 obtain ⟨rfl,rfl,rfl,rfl⟩:H=ai/\A6=A6'/\n6=T/\c6=ac:=gz0
 exact hK ⟨M,A4,S,c4,H,A6,n6,c6⟩ _ C ⟨F,G⟩
def Gh(hz: -9223372036854775808<=z/\z<=9223372036854775807)(hK:∀ w h',h.le h'->NQ h' w (z:Rat)->K w.v h'):aG prog 38 #[I z] h K:=by
 refine (fnk func38 (own:=[2])) ?_
 refine Cz hz ?_
 intro s A n c d b a
 exact ⟨_,_,_,_,rfl,hK ⟨s,A,n,c,false,none,0,0⟩ _ b (NQ.whole a)⟩
def Z8(i:NQ h w q)(hK:K (I q.num.sign) h):aG prog 19 #[w.v] h K:=by
 refine (fnk func19 (own:=[1])) ?_
 exact A0i i.num ⟨_,rfl,hK⟩
def Rt(i:NQ h w q)(hK:∀ w,NQ h w (-q)->K w.v h):aG prog 40 #[w.v] h K:=by
 refine (fnk func40 (os:=[(1,[0,1,3,4,2,5,6])]) (own:=[1,2])) ?_
 refine Xz i.num ?_
 intro b a
 exact ⟨_,_,_,_,rfl,B7 h,hK ⟨b,w.A,w.n,w.c,w.s2,w.A2,w.n2,w.c2⟩ ⟨a,i.den⟩⟩
def Ej(ia:NQ h a p)(ib:NQ h b q)(hp:Sz m p)(hq:Sz m q)(hm:m<=400000000)(hK:∀ w h',h.le h'->NQ h' w (p+q)->K w.v h'):aG prog 12 #[a.v,b.v] h K:=by
 have S:=ia.den_zero
 have Q:=ib.den_zero
 refine (fnk func12 (cs:=[(2,[16],[],[.bool false])]) (os:=[(3,[0,1,2,5,6,7,11,13,3,4,8,9,10,12,14,15,16,17])]) (own:=[2,3,4])) ?_
 refine ⟨fun l h'=>l=[.bool (decide (p.den=1/\q.den=1))]/\h'=h,D5 (fun e=>?_) (fun e=>?_),?_⟩
 ·refine ⟨?_,rfl⟩
  have:((b.n2:Int)==0)=decide (p.den=1/\q.den=1):=by
   grind
  rw [this]
 ·grind
 rintro t G ⟨hl,rfl⟩
 obtain rfl:t=decide (p.den=1/\q.den=1):=gz0
 have f:=hp.num;have c:=hp.den;have g:=hq.num;have d:=hq.den
 refine C0 (fun e=>?_) (fun e=>?_)
 ·refine A66 ia.num ib.num f g o ?_
  intro D A1 F c1 O j z
  refine ⟨_,_,_,_,rfl,hK ⟨D,A1,F,c1,false,none,0,0⟩ _ j ?_⟩
  have:p+q=((p.num+q.num:Int):Rat):=by
   rw [Fb,e.1,e.2]
   show aD (p.num*1+q.num*1) (1*1)=_
   rw [aS,aS,aS,Is]
  rw [this];exact NQ.whole z
 ·refine Au ib ?_
  intro D A1 F c1 O j z
  refine ⟨_,_,_,_,rfl,j,?_⟩
  refine Cv (ia.num.mono j) z f d o o ?_
  intro s2 A2 n2 c2 h2 A H
  refine ⟨_,_,_,_,rfl,A,?_⟩
  refine Au (ia.mono (B0 j A)) ?_
  intro s3 A3 n3 c3 h3 u R
  refine ⟨_,_,_,_,rfl,u,?_⟩
  have k:=B0 j (B0 A u)
  refine Cv (ib.num.mono k) R g c o o ?_
  intro X A4 n4 c4 h4 y T
  refine ⟨_,_,_,_,rfl,y,?_⟩
  refine A66 (H.mono (B0 u y)) T (f.mul d) (g.mul c) o ?_
  intro s5 A5 n5 c5 h5 B M
  refine ⟨_,_,_,_,rfl,B,?_⟩
  have i:=B0 k (B0 y B)
  refine Au (ia.mono i) ?_
  intro W A6 n6 c6 h6 r V
  refine ⟨_,_,_,_,rfl,r,?_⟩
  refine Au (ib.mono (B0 i r)) ?_
  intro s7 A7 n7 c7 h7 n N
  refine ⟨_,_,_,_,rfl,n,?_⟩
  refine Cv (V.mono n) N c d o o ?_
  intro s8 A8 n8 c8 h8 s L
  refine ⟨_,_,_,_,rfl,s,?_⟩
  refine Hq (m:=m+m+1) (M.mono (B0 r (B0 n s))) L (aH (den_ne p) (den_ne q)) ((f.mul d).add (g.mul c)) ((c.mul d).mono o) o ?_
  intro w h9 E C
  rw [<- Fb] at C
  exact ⟨_,_,_,_,_,_,_,_,rfl,E,hK w _ (B0 i (B0 r (B0 n (B0 s E)))) C⟩
def A94(ia:NQ h a p)(ib:NQ h b q)(hp:Sz m p)(hq:Sz m q)(hm:m<=400000000)(hK:∀ w h',h.le h'->NQ h' w (p-q)->K w.v h'):aG prog 69 #[a.v,b.v] h K:=by
 refine (fnk func69 (own:=[2,3,4])) ?_
 refine Rt ib ?_
 intro w i
 refine ⟨_,_,_,_,_,_,_,_,rfl,B7 h,?_⟩
 refine Ej ia i hp hq.neg hm ?_
 grind
def S7(ia:NQ h a p)(ib:NQ h b q)(hp:Sz m p)(hq:Sz m q)(hm:m<=400000000)(hK:∀ w h',h.le h'->NQ h' w (p*q)->K w.v h'):aG prog 65 #[a.v,b.v] h K:=by
 have F:=ia.den_zero
 have D:=ib.den_zero
 refine (fnk func65 (cs:=[(2,[16],[],[.bool false])]) (os:=[(3,[0,1,2,3,5,7,4,6,8,9,10,11])]) (own:=[2,3,4])) ?_
 refine ⟨fun l h'=>l=[.bool (decide (p.den=1/\q.den=1))]/\h'=h,D5 (fun e=>?_) (fun e=>?_),?_⟩
 ·refine ⟨?_,rfl⟩
  have:((b.n2:Int)==0)=decide (p.den=1/\q.den=1):=by
   grind
  rw [this]
 ·grind
 rintro t A ⟨R,rfl⟩
 obtain rfl:t=decide (p.den=1/\q.den=1):=gz0
 have c:=hp.num;have g:=hp.den;have d:=hq.num;have i:=hq.den
 refine C0 (fun e=>?_) (fun e=>?_)
 ·refine Cv ia.num ib.num c d o o ?_
  intro u A1 z c1 C f r
  refine ⟨_,_,_,_,rfl,hK ⟨u,A1,z,c1,false,none,0,0⟩ _ f ?_⟩
  have:p*q=((p.num*q.num:Int):Rat):=by
   rw [Ip,e.1,e.2]
   show aD (p.num*q.num) (1*1)=_
   rw [aS,Is]
  rw [this];exact NQ.whole r
 ·refine Cv ia.num ib.num c d o o ?_
  intro u A1 z c1 C f r
  refine ⟨_,_,_,_,rfl,f,?_⟩
  refine Au (ia.mono f) ?_
  intro O A2 W c2 L k B
  refine ⟨_,_,_,_,rfl,k,?_⟩
  refine Au (ib.mono (B0 f k)) ?_
  intro T A3 M c3 S j E
  refine ⟨_,_,_,_,rfl,j,?_⟩
  refine Cv (B.mono j) E g i o o ?_
  intro H A4 N c4 Q n G
  refine ⟨_,_,_,_,rfl,n,?_⟩
  refine Hq (m:=m+m) (r.mono (B0 k (B0 j n))) G (aH (den_ne p) (den_ne q)) (c.mul d) (g.mul i) o ?_
  intro w V y s
  rw [<- Ip] at s
  exact ⟨_,_,_,_,_,_,_,_,rfl,y,hK w _ (B0 f (B0 k (B0 j (B0 n y)))) s⟩
def A9b(ia:NQ h a p)(ib:NQ h b q)(hp:Sz m p)(hq:Sz m q)(hm:m<=400000000)(hK:∀ w h',h.le h'->NQ h' w (p/q)->K w.v h'):aG prog 127 #[a.v,b.v] h K:=by
 refine (fnk func127 (os:=[(3,[0,1,2,5,7,8,3,4,6,9,10,11])]) (own:=[2,3,4])) ?_
 have d:=hp.num;have f:=hp.den;have i:=hq.num;have g:=hq.den
 refine Z8 ib ⟨_,rfl,D5 (fun e=>?_) (fun e=>?_)⟩
 ·have y:q=0:=Rat.num_eq_zero.1 (Int.sign_eq_zero_iff_zero.1 e)
  have:=hK ⟨false,none,0,0,false,none,0,0⟩ h (B7 h) (by rw [y,Rat.div_def,Rat.inv_zero,Rat.mul_zero];exact NQ.zero)
  exact this
 ·have r:q.num≠0:=fun R=>e gz0
  refine Au ib ?_
  intro M A1 S c1 L j B
  refine ⟨_,_,_,_,rfl,j,?_⟩
  refine Cv (ia.num.mono j) B d g o o ?_
  intro G A2 T c2 D n u
  refine ⟨_,_,_,_,rfl,n,?_⟩
  refine Au (ia.mono (B0 j n)) ?_
  intro O A3 E c3 N k z
  refine ⟨_,_,_,_,rfl,k,?_⟩
  have c:=B0 j (B0 n k)
  refine Cv z (ib.num.mono c) f i o o ?_
  intro C A4 F c4 H l A
  refine ⟨_,_,_,_,rfl,l,?_⟩
  refine Hq (m:=m+m) (u.mono (B0 k l)) A (aH (den_ne p) r) (d.mul g) (f.mul i) o ?_
  intro w Q t s
  rw [<- A7s] at s
  exact ⟨_,_,_,_,_,_,_,_,rfl,t,hK w _ (B0 c (B0 l t)) s⟩
end
def dch(d:Nat):UInt8:=UInt8.ofNat (48+d)
def Ev{d:Nat}(h:d<10):(dch d).toNat=48+d:=by
 unfold dch;rw [UInt8.toNat_ofNat'];omega
def I4(c:UInt8):Prop:=48<=c.toNat/\c.toNat<=57
instance (c:UInt8):Decidable (I4 c):=by unfold I4;infer_instance
def B7i{d:Nat}(h:d<10):I4 (dch d):=by unfold I4;rw [Ev h];omega
def B5e{c:UInt8}(h:I4 c):dch (c.toNat-48)=c:=by
 unfold I4 at h
 apply UInt8.toNat_inj.1
 rw [Ev o];omega
def dd(n:Nat):List UInt8:=if _h:n=0 then [] else dd (n/10)++[dch (n%10)]
def K9:dd 0=[]:=by unfold dd;simp
def Eu{n:Nat}(h:n≠0):dd n=dd (n/10)++[dch (n%10)]:=by rw [dd];simp [h]
def K3(l:List UInt8):Nat:=l.foldl (fun a c=>10*a+(c.toNat-48)) 0
def Hs(l:List UInt8)(c:UInt8):K3 (l++[c])=10*K3 l+(c.toNat-48):=by simp [K3]
def B7a(l:List UInt8):∀ a,l.foldl (fun a c=>10*a+(c.toNat-48)) a=a*10^l.length+K3 l:=by
 induction l with
 | nil=>intro a;simp [K3]
 | cons c l ih=>
  intro a
  unfold K3
  rw [List.foldl_cons,List.foldl_cons,ih,ih,List.length_cons,aI]
  grind
def Fy(a b:List UInt8):K3 (a++b)=K3 a*10^b.length+K3 b:=by
 unfold K3;rw [List.foldl_append,B7a b];rfl
def B12(c:UInt8)(l:List UInt8):K3 (c::l)=(c.toNat-48)*10^l.length+K3 l:=by
 rw [<- List.singleton_append,Fy];simp [K3]
def Fx{l:List UInt8}(h:∀ c∈l,I4 c):K3 l<10^l.length:=by
 induction l with
 | nil=>simp [K3]
 | cons c l ih=>
  have d:=ih fun x b=>h x (by simp [b])
  have a:=h c (by simp)
  unfold I4 at a
  rw [B12,List.length_cons,aI]
  have:(c.toNat-48)*10^l.length<=9*10^l.length:=Nat.mul_le_mul_right _ o
  omega
def B7b(n:Nat):K3 (dd n)=n:=by
 induction n using aU with
 | _ n ih=>
  by_cases h:n=0
  ·subst h;rw [K9];rfl
  ·rw [Eu h,Hs,ih _ o,Ev o];omega
def C0v(n:Nat):∀ c∈dd n,I4 c:=by
 induction n using aU with
 | _ n ih=>
  by_cases h:n=0
  ·subst h;rw [K9];simp
  ·rw [Eu h]
   intro c b
   rcases List.mem_append.1 b with a|a
   ·exact ih _ o c a
   ·rw [List.mem_singleton.1 a];exact B7i o
def B40{n:Nat}(h:n≠0):dd n≠[]:=by rw [Eu h];simp
def B1b(n:Nat)(h:n≠0):(dd n).head? ≠ some 48:=by
 induction n using aU with
 | _ n ih=>
  rw [Eu h]
  by_cases a:n/10=0
  ·rw [a,K9]
   simp only [List.nil_append,List.head?_cons,ne_eq,Option.some.injEq]
   intro e
   have:=Ev (d:=n%10) o
   rw [e] at this
   simp at this
   omega
  ·have:=ih _ o a
   obtain ⟨c,r,e⟩:=aW (B40 a)
   rw [e] at this ⊢
   simpa using this
def B1c{l:List UInt8}(h:∀ c∈l,I4 c)(h0:l.head? ≠ some 48):dd (K3 l)=l:=by
 obtain ⟨n,g⟩:∃ n,l.length=n:=⟨_,rfl⟩
 induction n generalizing l with
 | zero=>rw [aR g];exact K9
 | succ n ih=>
  obtain ⟨m,c,rfl⟩:∃ m c,l=m++[c]:=by
   refine ⟨l.dropLast,l.getLast (by rintro rfl;simp at g),?_⟩
   rw [List.dropLast_concat_getLast]
  have f:=h c (by simp)
  have b:=f
  unfold I4 at b
  rw [Hs]
  cases m with
  | nil=>
   simp at h0
   have k:c.toNat-48≠0:=by
    intro e
    apply h0
    apply UInt8.toNat_inj.1
    show c.toNat=48
    omega
   rw [Eu (by simp [K3];omega)]
   simp only [K3,List.foldl_nil,List.nil_append]
   rw [show (10*0+(c.toNat-48))/10=0 from o,K9,show (10*0+(c.toNat-48))%10=c.toNat-48 from o,B5e f];rfl
  | cons d m=>
   have a:=ih (l:=d::m) (fun x j=>h x (by simp at j ⊢;rcases j with h|h<;>simp [h])) (by simpa using h0) (by simpa using g)
   have i:K3 (d::m)≠0:=by
    intro e
    rw [e,K9] at a
    cases a
   rw [Eu o,show (10*K3 (d::m)+(c.toNat-48))/10=K3 (d::m) from o,a,show (10*K3 (d::m)+(c.toNat-48))%10=c.toNat-48 from o,B5e f]
def T1{n k:Nat}:(dd n).length<=k↔n<10^k:=by
 induction k generalizing n with
 | zero=>
  constructor
  ·intro h
   have:dd n=[]:=aR o
   by_cases a:n=0
   ·subst a;decide
   ·exact absurd this (B40 a)
  ·intro h
   have:n=0:=by simp at h;exact h
   subst this;rw [K9];simp
 | succ k ih=>
  by_cases a:n=0
  ·subst a;rw [K9];simp [aK]
  ·rw [Eu a,aO,List.length_singleton,Nat.add_le_add_iff_right,ih,aI]
   omega
def pad(w n:Nat):List UInt8:=List.replicate (w-(dd n).length) 48++dd n
def A5h(n:Nat):pad 0 n=dd n:=by simp [pad]
def Vv{w n:Nat}(h:n<10^w):(pad w n).length=w:=by
 have:=T1.2 h
 simp [pad];omega
def Qx(w n:Nat):pad (w+1) n=pad w (n/10)++[dch (n%10)]:=by
 unfold pad
 by_cases h:n=0
 ·subst h
  rw [K9]
  simp only [List.length_nil,Nat.sub_zero,List.append_nil,Nat.zero_mod]
  rw [List.replicate_succ'];rfl
 ·rw [Eu h,aO,List.length_singleton,Nat.add_sub_add_right,aL]
def C0u{h l k:Nat}(h0:h≠0)(hl:l<10^k):dd (h*10^k+l)=dd h++pad k l:=by
 induction k generalizing l with
 | zero=>
  have:l=0:=by simpa using hl
  subst this;simp [pad,K9]
 | succ k ih=>
  have d:0<10^k:=aK dc
  have a:h*10^(k+1)+l≠0:=by
   have:0<h*10^(k+1):=Nat.mul_pos o (aK dc)
   omega
  have c:(h*10^(k+1)+l)/10=h*10^k+l/10:=by
   rw [aI,<- Nat.mul_assoc];omega
  have b:(h*10^(k+1)+l)%10=l%10:=by
   rw [aI,<- Nat.mul_assoc];omega
  rw [Eu a,c,b,ih (by rw [aI] at hl;omega),Qx,aL]
def A13{w h l k:Nat}(hl:l<10^k)(hw:h≠0\/k<=w):pad w (h*10^k+l)=pad (w-k) h++pad k l:=by
 by_cases b:h=0
 ·subst b
  have c:k<=w:=by
   rcases hw with h|h
   ·exact absurd rfl h
   ·exact h
  have:=T1.2 hl
  unfold pad
  rw [K9]
  simp only [Nat.zero_mul,Nat.zero_add,List.length_nil,Nat.sub_zero,List.append_nil,<- aL,List.replicate_append_replicate]
  congr 2;omega
 ·have e:=C0u b hl
  have a:=Vv hl
  unfold pad at a
  unfold pad at e ⊢
  rw [e,aO,a,<- aL]
  congr 3;omega
def Q8(n:Nat):List UInt8:=if n=0 then [48] else dd n
def Db{n:Nat}(h:n≠0):Q8 n=dd n:=by simp [Q8,h]
def At(n:Nat):K3 (Q8 n)=n:=by
 unfold Q8;split
 ·rename_i h;subst h;rfl
 ·exact B7b n
def Nd(n:Nat):∀ c∈Q8 n,I4 c:=by
 unfold Q8;split
 ·intro c a;rw [List.mem_singleton.1 a];decide
 ·exact C0v n
def Tk(n:Nat):Q8 n≠[]:=by
 unfold Q8;split
 ·simp
 ·rename_i h;exact B40 h
def B3z{a b:Nat}(h:Q8 a=Q8 b):a=b:=by rw [<- At a,h,At]
def Nc{l:List UInt8}(h:∀ c∈l,I4 c)(hn:l≠[])(h0:l.head? ≠ some 48\/l=[48]):Q8 (K3 l)=l:=by
 rcases h0 with h0|h0
 ·have:=B1c h h0
  rw [Db,this]
  intro e
  rw [e,K9] at this
  exact hn this.symm
 ·subst h0;rfl
def Nb{n k:Nat}(hk:0<k):(Q8 n).length<=k↔n<10^k:=by
 by_cases h:n=0
 ·subst h;have:0<10^k:=aK dc;simp [Q8];omega
 ·rw [Db h];exact T1
def Ny(z:Int):List UInt8:=if z<0 then 45::Q8 z.natAbs else Q8 z.natAbs
def E8(q:Rat):List UInt8:=Ny q.num++(if q.den=1 then [] else 47::Q8 q.den)
structure Form (s:List UInt8) (neg:Bool) (a b:List UInt8):Prop where
 eq:s=(if neg then [45] else [])++a++(if b=[] then [] else 47::b)
 da:∀ c∈a,I4 c
 db:∀ c∈b,I4 c
 ne:a≠[]
 ha:a.head? ≠ some 48\/(a=[48]/\neg=false/\b=[])
 hb:b.head? ≠ some 48
 b1:b≠[49]
def A5r{c:UInt8}(h:I4 c):c≠45/\c≠47:=by
 unfold I4 at h
 constructor<;>(rintro rfl;grind)
def Fm{a r:List UInt8}(h:∀ c∈a,I4 c)(hr:∀ c,r.head? = some c->¬ I4 c):(a++r).takeWhile (fun c=>decide (I4 c))=a/\(a++r).dropWhile (fun c=>decide (I4 c))=r:=by
 induction a with
 | nil=>
  cases r with
  | nil=>simp
  | cons c r=>
   simp_all
 | cons c a ih=>
  simp_all
def Form.head{s:List UInt8}{neg:Bool}{a b:List UInt8}(f:Form s neg a b):neg=(s.head? == some 45):=by
 obtain ⟨c,r,e⟩:=aW f.ne
 have d:=(A5r (f.da c (by simp [e]))).1
 rw [f.eq,e]
 grind
def Form.unique{s:List UInt8}{neg neg':Bool}{a b a' b':List UInt8}(f:Form s neg a b)(g:Form s neg' a' b'):neg=neg'/\a=a'/\b=b':=by
 have l:neg=neg':=by rw [f.head,g.head]
 have e:=f.eq.symm.trans g.eq
 have i:∀ b:List UInt8,∀ c,(if b=[] then [] else 47::b:List UInt8).head? = some c->¬ I4 c:=by
  intro b c d
  split at d
  ·grind
  ·simp at d;subst d;decide
 have k:=Fm f.da (i b)
 have j:=Fm g.da (i b')
 grind
def Tm{q:Rat}(h:q.num=0):q.den=1:=by
 simp_all
def Ec(q:Rat):Form (E8 q) (decide (q.num<0)) (Q8 q.num.natAbs) (if q.den=1 then [] else Q8 q.den):=by
 constructor
 ·unfold E8 Ny
  by_cases a:q.num<0<;>by_cases b:q.den=1<;>simp [a,b,Tk]
 ·exact Nd _
 ·split
  ·simp
  ·exact Nd _
 ·exact Tk _
 ·by_cases h:q.num=0
  ·right
   rw [Tm h,h];simp [Q8]
  ·left
   rw [Db o];exact B1b _ o
 ·split
  ·simp
  ·rw [Db q.den_nz];exact B1b _ q.den_nz
 ·split
  ·simp
  ·rename_i h
   intro e
   have c:Q8 q.den=Q8 1:=by rw [e];simp [Q8,Eu,K9,dch]
   exact h (B3z c)
def Um(neg:Bool)(a:List UInt8):Int:=if neg then -(K3 a:Int) else K3 a
def Ns(b:List UInt8):Nat:=if b=[] then 1 else K3 b
def Tg{b:List UInt8}(h:∀ c∈b,I4 c)(hn:b≠[])(h0:b.head? ≠ some 48):K3 b≠0:=by
 intro e
 have:=B1c h h0
 rw [e,K9] at this
 grind
def Form.den_ne{s:List UInt8}{neg:Bool}{a b:List UInt8}(f:Form s neg a b):Ns b≠0:=by
 unfold Ns;split
 ·decide
 ·rename_i h;exact Tg f.db h f.hb
def Form.txt{s:List UInt8}{neg:Bool}{a b:List UInt8}(f:Form s neg a b){q:Rat}(h1:q.num=Um neg a)(h2:q.den=Ns b):s=E8 q:=by
 have k:Q8 (K3 a)=a:=Nc f.da f.ne (f.ha.imp id fun h=>h.1)
 have d:(Um neg a).natAbs=K3 a:=by unfold Um;omega
 have c:(Um neg a<0)↔neg=true:=by
  unfold Um
  cases neg
  ·simp
  ·simp only [if_true]
   constructor
   ·grind
   ·intro _
    have:K3 a≠0:=by
     rcases f.ha with h|h
     ·exact Tg f.da f.ne h
     grind
    omega
 have j:(Ns b=1)↔b=[]:=by
  unfold Ns
  split
  ·grind
  ·rename_i h
   constructor
   ·intro e
    exfalso
    have g:=Nc f.db h (Or.inl f.hb)
    rw [e] at g
    apply f.b1
    rw [<- g];simp [Q8,Eu,K9,dch]
   grind
 rw [f.eq]
 unfold E8 Ny
 by_cases i:b=[]
 ·grind
 ·have l:Q8 (Ns b)=b:=by
   unfold Ns;rw [iN i];exact Nc f.db i (Or.inl f.hb)
  grind
def Form.of_txt{s:List UInt8}{neg:Bool}{a b:List UInt8}(f:Form s neg a b){q:Rat}(e:s=E8 q):q.num=Um neg a/\q.den=Ns b:=by
 subst e
 obtain ⟨g,d,c⟩:=f.unique (Ec q)
 subst g d c
 constructor
 ·unfold Um
  rw [At]
  grind
 ·unfold Ns
  by_cases h:q.den=1
  ·simp [h]
  ·simp [h,Tk,At]
def A4x{p q:Rat}(e:E8 p=E8 q):p=q:=by
 have f:=Ec p
 have a:=f.of_txt rfl
 have b:=f.of_txt e
 exact Rat.ext (a.1.trans b.1.symm) (a.2.trans b.2.symm)
def IsNum(s:List UInt8):Prop:=∃ q,s=E8 q
def Form.isNum{s:List UInt8}{neg:Bool}{a b:List UInt8}(f:Form s neg a b):IsNum s↔Nat.gcd (K3 a) (Ns b)=1:=by
 have c:(Um neg a).natAbs=K3 a:=by unfold Um;omega
 constructor
 ·rintro ⟨q,e⟩
  have:=f.of_txt e
  have d:=q.reduced
  grind
 ·intro h
  exact ⟨⟨Um neg a,Ns b,f.den_ne,gz0⟩,f.txt rfl rfl⟩
def IsNum.form{s:List UInt8}(h:IsNum s):∃ neg a b,Form s neg a b:=by
 obtain ⟨q,rfl⟩:=h
 exact ⟨_,_,_,Ec q⟩
def B2s(s:List UInt8):Rat:=
 let neg:=s.head? == some 45
 let t:=if neg then s.drop 1 else s
 mkRat (Um neg (t.takeWhile fun c=>decide (I4 c))) (Ns ((t.dropWhile fun c=>decide (I4 c)).drop 1))
def rv(s:List UInt8):Rat:=if E8 (B2s s)=s then B2s s else 0
def G1(q:Rat):rv (E8 q)=q:=by
 have f:=Ec q
 have k:=f.head
 have d:∀ b:List UInt8,∀ c,(if b=[] then [] else 47::b:List UInt8).head? = some c->¬ I4 c:=by
  intro b c a
  split at a
  ·grind
  ·simp at a;subst a;decide
 have e:B2s (E8 q)=q:=by
  unfold B2s
  simp only [<- k]
  generalize hb:(if q.den=1 then [] else Q8 q.den)=b at f
  have j:(if decide (q.num<0)=true then (E8 q).drop 1 else E8 q)=Q8 q.num.natAbs++(if b=[] then [] else 47::b):=by
   rw [f.eq]
   grind
  rw [j,(Fm f.da (d b)).1,(Fm f.da (d b)).2]
  have g:=f.of_txt rfl
  have i:(if b=[] then [] else 47::b:List UInt8).drop 1=b:=by
   grind
  rw [i,<- g.1,<- g.2,Rat.mkRat_self]
 unfold rv
 grind
def B4o{s:List UInt8}(h:¬ IsNum s):rv s=0:=by
 unfold rv
 rw [iN (fun e=>h ⟨_,e.symm⟩)]
